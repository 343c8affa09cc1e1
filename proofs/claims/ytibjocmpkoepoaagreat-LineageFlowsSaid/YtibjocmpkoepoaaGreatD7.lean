import Derived.Test.YtibjocmpkoepoaaGreatD4
set_option linter.all false
open Bool renaming false_eq_true → j4
open List renaming drop_of_length_le → l6, length_map → B9, take_of_length_le → y6
namespace Go.Proofs.YtibjocmpkoepoaaGreat
open Go.A2 Go.A2.S
attribute [local irreducible] Rx Ry Rn Ex Pf
structure XO where
 a:A1
 b:A1
 ha:a.O5=0
 hb:b.O5=0
abbrev xa [Inhabited XO]:A1:=(default:XO).a
abbrev xo [Inhabited XO]:A1:=(default:XO).b
abbrev gj:=K4×List K4×List Int
def Z2 (s:gj):List A2.Data:=[B0 encS s.2.1,ints s.2.2]
def HH [Inhabited XO] (c:r9)(ds:List K4)(ss:List gj):p9 :=
 [xa,xo,.cells (c.enc.map .d),.map (dmap ds),.map (fO (ss.map (·.1)) 0),.cells (c.enc.map .d++[.map 3,.map 4,E7 2 Z2 ss])]
def lW:H7:=⟨0,0,6,6⟩
def lR:H7:=⟨0,6,6,6⟩
theorem EE (s:K4):∀ (l:List K4) (i:Nat),dZ .s (.str s) (fO l i)=some (if E4 (I9 s l i) 0 then none else some (.d (num (I9 s l i))))
 |[],i=>by simp [fO,dZ,I9,u0]
 |d::l,i=>by
  have h1:=EE s l (i+1);have h2:(s==d)=O1 d s:=by
   rw [E5,Bool.eq_iff_iff];simp only [beq_iff_eq];exact eq_comm
  simp only [fO,dZ,Data.fI,I9,h2]
  by_cases hb:O1 d s=true
  .simp [hb,u0,num]
  .have hb' :O1 d s=false:=by simpa using hb
   simp only [hb',j4,if_false];exact h1
def NW [Inhabited XO] (c:r9)(ds:List K4)(ss:List gj)(s:K4):Pm A 125 [.ptr 5 0,.d (.str s)] (HH c ds ss) lR (.d (num (I9 s (ss.map (·.1)) 0))) (HH c ds ss):=by
 have hf:=EE s (ss.map (·.1)) 0
 suffices h:Pq A 125 [.ptr 5 0,.d (.str s)] (HH c ds ss) lR fun v H1=>v= .d (num (I9 s (ss.map (·.1)) 0))/\H1=HH c ds ss by
  obtain ⟨v,H1,⟨rfl,rfl⟩,h⟩:=h;exact h
 unfold HH;refine Pq.run (b:=6) [.ptr 5 0,.d (.str s),.any,.any,.any] rfl rfl rfl rfl rfl ?_;cases h1:E4 (I9 s (ss.map (·.1)) 0) 0 with
 |true =>
  rw [h1,if_pos rfl] at hf;have h2:=A6 h1;have h3:I9 s (ss.map (·.1)) 0= -1:=by rcases gH s (ss.map (·.1)) 0 with h|h<;>omega
  repeat' (first|refine lk2 hf rfl rfl ?_|refine gx ?_|fail)
  refine tb (false) (fun h4=> ?_) (fun h4=> ?_)
  .cases h4
  refine gr ?_;exact ⟨_,_,rfl,by rw [h3];rfl,rfl⟩
 |false =>
  rw [h1,if_neg (by simp)] at hf
  repeat' (first|refine lk2 hf rfl rfl ?_|refine gx ?_|fail)
  refine tb (true) (fun h4=> ?_) (fun h4=> ?_)
  .refine gr ?_
   exact ⟨_,_,rfl,rfl,rfl⟩
  .cases h4
def bE8 [Inhabited XO] (c:r9)(ds:List K4)(ss:List gj)(n:Int):Pm A 173 [.ptr 5 0,.d (num n)] (HH c ds ss) lR (.d (.bool (bV 0 n&&E4 n ss.length))) (HH c ds ss):=by
 suffices h:Pq A 173 [.ptr 5 0,.d (num n)] (HH c ds ss) lR fun v H1=>v= .d (.bool (bV 0 n&&E4 n ss.length))/\H1=HH c ds ss by
  obtain ⟨v,H1,⟨rfl,rfl⟩,h⟩:=h;exact h
 unfold HH;refine Pq.run (b:=6) [.ptr 5 0,.d (num n),.any] rfl rfl rfl rfl rfl ?_
 repeat' (first|refine gx ?_|refine fk (h1:=fun hw=> ?_) (h2:=fun hw=> ?_)|refine U1 (h1:=fun hw=> ?_) (h2:=fun hw=> ?_)|refine Ex.M8 ?_|refine Ex.N6 ?_|refine Ex.cond rfl (fun ht=> ?_) (fun ht=> ?_)|refine Ex.test (Rn.text ?_)|refine Ex.test (Rn.draw ?_)|refine ⟨_,rfl,fun ht=> ?_,fun ht=> ?_⟩|refine ⟨_,rfl,?_⟩|fail)
 all_goals exact ⟨_,_,rfl,by simp [*,j3],rfl⟩
def nX (c:r9)(ss:List gj)(s:K4):Bool:=q8 (I9 s (ss.map (·.1)) 0) 0 (c.j9.length - 1)
def ar4 [Inhabited XO] (c:r9)(ds:List K4)(ss:List gj)(s:K4)(hc:c.j9.length<=1000):Pm A 223 [.ptr 5 0,.d (.str s)] (HH c ds ss) lR (.d (.bool (nX c ss s))) (HH c ds ss):=by
 have p1:=NW c ds ss s
 suffices h:Pq A 223 [.ptr 5 0,.d (.str s)] (HH c ds ss) lR fun v H1=>v= .d (.bool (nX c ss s))/\H1=HH c ds ss by
  obtain ⟨v,H1,⟨rfl,rfl⟩,h⟩:=h;exact h
 unfold HH at p1 ⊢;refine Pq.run (b:=6) [.ptr 5 0,.d (.str s),.any] rfl rfl rfl rfl rfl ?_
 repeat' (first|refine c1 p1 rfl ?_|refine cl (pX _ _ _) ?_|refine gx ?_|fail)
 exact ⟨_,_,rfl,rfl,rfl⟩
def R7 (ds:List K4)(s:K4):Int:=if !L3 s then 3 else if ds.any fun y=>O1 y s then 4 else 0
def P7 (ds:List K4)(s:K4):List K4:=if s9 (R7 ds s) 0 then ds++[s] else ds
def yw [Inhabited XO] (c:r9)(ds:List K4)(ss:List gj)(s:K4):Pm A 209 [.ptr 5 0,.d (.str s)] (HH c ds ss) lW (.d (num (R7 ds s))) (HH c (P7 ds s) ss):=by
 have hf:=Ei s ds
 suffices h:Pq A 209 [.ptr 5 0,.d (.str s)] (HH c ds ss) lW fun v H1=>v= .d (num (R7 ds s))/\H1=HH c (P7 ds s) ss by
  obtain ⟨v,H1,⟨rfl,rfl⟩,h⟩:=h;exact h
 unfold HH;refine Pq.run (b:=6) [.ptr 5 0,.d (.str s),.any] rfl rfl rfl rfl rfl ?_;have h10:s9 3 0=false:=by simp [o8]
 have h11:s9 4 0=false:=by simp [o8]
 have h12:s9 0 0=true:=by simp [o8]
 refine gr ?_;refine tB (!L3 s) ?_ (fun h1=> ?_) (fun h1=> ?_)
 .repeat' (first|refine cl (WY _) ?_|refine gx ?_|refine fk (h1:=fun hw=> ?_) (h2:=fun hw=> ?_)|refine U1 (h1:=fun hw=> ?_) (h2:=fun hw=> ?_)|refine ⟨rfl,rfl,_,rfl,?_⟩|refine ⟨rfl,rfl⟩|fail)
  all_goals exact cc
 .refine gr ?_
  have e1:R7 ds s=3:=by unfold R7;rw [h1];rfl
  exact ⟨_,_,rfl,by rw [e1];rfl,by unfold P7;rw [e1,h10];rfl⟩
 cases h2:ds.any fun y=>O1 y s with
 |true =>
  rw [h2,if_pos rfl] at hf;have e1:R7 ds s=4:=by unfold R7;rw [h1,h2];rfl
  refine tB (true) ?_ (fun h3=> ?_) (fun h3=> ?_)
  .repeat' (first|refine lk1 hf rfl ?_|refine gx ?_|refine fk (h1:=fun hw=> ?_) (h2:=fun hw=> ?_)|refine U1 (h1:=fun hw=> ?_) (h2:=fun hw=> ?_)|refine ⟨rfl,rfl,_,rfl,?_⟩|refine ⟨rfl,rfl⟩|fail)
   all_goals exact cc
  .refine gr ?_
   exact ⟨_,_,rfl,by rw [e1];rfl,by unfold P7;rw [e1,h11];rfl⟩
  .cases h3
 |false =>
  rw [h2,if_neg (by simp)] at hf;have e1:R7 ds s=0:=by unfold R7;rw [h1,h2];rfl
  have hk:Data.fI .s (.str s) (.str s)=some true:=by simp [Data.fI]
  refine tB (false) ?_ (fun h3=> ?_) (fun h3=> ?_)
  .repeat' (first|refine lk1 hf rfl ?_|refine gx ?_|refine fk (h1:=fun hw=> ?_) (h2:=fun hw=> ?_)|refine U1 (h1:=fun hw=> ?_) (h2:=fun hw=> ?_)|refine ⟨rfl,rfl,_,rfl,?_⟩|refine ⟨rfl,rfl⟩|fail)
   all_goals exact cc
  .cases h3
  repeat' (first|refine mp (Ji s ds h2) hk (h2:= ?_)|refine gx ?_|fail)
  exact ⟨_,_,rfl,by rw [e1];rfl,by unfold P7;rw [e1,h12];rfl⟩
def Jc (nm:List K4)(ty:List Int):c8:= .agg [.d (B0 encS nm),.d (ints ty)]
def Xh [Inhabited XO] (c:r9)(ds:List K4)(ss:List gj)(s:K4)(nm:List K4)(ty:List Int)(hs:((ss.map (·.1)).any fun y=>O1 y s)=false)(hl:ss.length<=1000) :
  Pm A 212 [.ptr 5 0,.d (.str s),Jc nm ty] (HH c ds ss) lW (.tuple []) (HH c ds (ss++[(s,nm,ty)])):=by
 have hput:=Kf s (ss.map (·.1)) 0 hs;rw [B9,Nat.zero_add] at hput;have hk:Data.fI .s (.str s) (.str s)=some true:=by simp [Data.fI]
 have hr:roomFor (ss.length+1) 48=true:=by simp only [roomFor,decide_eq_true_eq];omega
 suffices h:Pq A 212 [.ptr 5 0,.d (.str s),Jc nm ty] (HH c ds ss) lW fun v H1=>v= .tuple []/\H1=HH c ds (ss++[(s,nm,ty)]) by
  obtain ⟨v,H1,⟨rfl,rfl⟩,h⟩:=h;exact h
 unfold HH;refine Pq.run (b:=6) [.ptr 5 0,.d (.str s),Jc nm ty,.any] rfl rfl rfl rfl rfl ?_
 repeat' (first|refine mp hput hk (h2:= ?_)|refine o2 ?_|refine ac2 (a:=(s,nm,ty)) (xs:=ss) (enc:=Z2) hr rfl (h2:= ?_)|refine soO (h2:= ?_)|refine gx ?_|fail)
 refine ⟨_,_,rfl,rfl,?_⟩;have e:((ss++[(s,nm,ty)]).map (·.1))=ss.map (·.1)++[s]:=by simp
 rw [e];rfl
def mU (ss:List gj)(s:K4)(col:Int):Int×Int :=
 if E4 (I9 s (ss.map (·.1)) 0) 0 then (0,7)
 else if !q8 col 0 ((nth ss (I9 s (ss.map (·.1)) 0).toNat).2.2.length - 1) then (0,3)
 else (nth (nth ss (I9 s (ss.map (·.1)) 0).toNat).2.2 col.toNat,0)
def Bk (ss:List gj)(s:K4):I9 s (ss.map (·.1)) 0= -1\/(0<=I9 s (ss.map (·.1)) 0/\I9 s (ss.map (·.1)) 0<ss.length):=by
 rcases gH s (ss.map (·.1)) 0 with h|h
 .exact Or.inl h
 .right;simp at h;omega
def Xi [Inhabited XO] (c:r9)(ds:List K4)(ss:List gj)(s:K4)(col:Int)(tu:∀ k,k<ss.length->(nth ss k).2.2.length<=100000):Pm A 222 [.ptr 5 0,.d (.str s),.d (num col)] (HH c ds ss) lR (.tuple [.d (num (mU ss s col).1),.d (num (mU ss s col).2)]) (HH c ds ss):=by
 have p1:=NW c ds ss s;have b1:=Bk ss s
 suffices h:Pq A 222 [.ptr 5 0,.d (.str s),.d (num col)] (HH c ds ss) lR fun v H1=>v= .tuple [.d (num (mU ss s col).1),.d (num (mU ss s col).2)]/\H1=HH c ds ss by
  obtain ⟨v,H1,⟨rfl,rfl⟩,h⟩:=h;exact h
 unfold HH at p1 ⊢;refine Pq.run (b:=6) [.ptr 5 0,.d (.str s),.d (num col),.any,.any,.any,.any] rfl rfl rfl rfl rfl ?_
 repeat' (first|refine c1 p1 rfl ?_|refine gx ?_|fail)
 refine tb (E4 (I9 s (ss.map (·.1)) 0) 0) (fun h1=> ?_) (fun h1=> ?_)
 .refine gr ?_
  exact ⟨_,_,rfl,by unfold mU;rw [h1];rfl,rfl⟩
 have h2:=A3 h1;have h3:=tu (I9 s (ss.map (·.1)) 0).toNat (by omega);refine gr ?_;refine tB (!q8 col 0 ((nth ss (I9 s (ss.map (·.1)) 0).toNat).2.2.length - 1)) ?_ (fun h4=> ?_) (fun h4=> ?_)
 .repeat' (first|refine cl (pX _ _ _) ?_|refine gx ?_|refine fk (h1:=fun hw=> ?_) (h2:=fun hw=> ?_)|refine U1 (h1:=fun hw=> ?_) (h2:=fun hw=> ?_)|refine ⟨rfl,rfl,_,rfl,?_⟩|refine ⟨rfl,rfl⟩|fail)
  all_goals exact cc
 .refine gr ?_
  exact ⟨_,_,rfl,by unfold mU;rw [h1,h4];rfl,rfl⟩
 have h5:=h4;simp [q8,s6] at h5;refine gr ?_;exact ⟨_,_,rfl,by unfold mU;rw [h1,h4];rfl,rfl⟩
def rR (x:K4):List K4->Nat->Int
 |[],_=> -1
 |y::r,i=>if O1 x y then i else rR x r (i+1)
theorem Em (x:K4):∀ (l:List K4) (i:Nat),bV 0 (rR x l i)=l.any fun y=>O1 y x
 |[],i=>by simp [rR,s6]
 |y::r,i=>by
  have h1:=Em x r (i+1);have h2:O1 x y=O1 y x:=by simp only [E5];rw [Bool.eq_iff_iff];simp only [beq_iff_eq];exact eq_comm
  simp only [rR,List.any_cons,h2];cases h3:O1 y x with
  |true=>simp [s6]
  |false=>simpa using h1
def aY3 (xs:List K4)(x:K4)(hx:xs.length<=100000):Pf A 260 [.d (B0 encS xs),.d (.str x)] (.d (num (rR x xs 0))):=by
 refine Pf.run [.d (B0 encS xs),.d (.str x),.any,.any,.any,.any] rfl rfl rfl rfl ?_;refine gr ?_;refine Ex.I7 (fun k T H=>∃ (i:Nat) (v w:c8),T=[.d (B0 encS xs),.d (.str x),v,w,.d (num xs.length),.d (num i)]/\H=[]/\i+k=xs.length/\rR x xs 0=rR x (xs.drop i) i) (by rintro _ _ _ ⟨_,_,_,_,rfl,_⟩;rfl) ?_ (k:=xs.length) ⟨0,_,_,rfl,rfl,by simp,by simp⟩;rintro k _ _ ⟨i,v,w,rfl,rfl,hk,hi⟩;refine Ex.nT ?_
 repeat' (first|refine gx ?_|refine Ex.M8 ?_|refine Ex.N6 ?_|refine Ex.cond rfl (fun ht=> ?_) (fun ht=> ?_)|refine Ex.test (Rn.text ?_)|refine Ex.test (Rn.draw ?_)|refine ⟨_,rfl,fun ht=> ?_,fun ht=> ?_⟩|refine ⟨_,rfl,?_⟩|fail)
 .have h1:=A6 ‹E4 i _=true›
  rw [D3 (by omega)] at hi;simp [hi,rR,ht,j3,num]
 .have h1:=A6 ‹E4 i _=true›
  rw [D3 (by omega)] at hi;exact ⟨k - 1,by omega,i+1,_,_,rfl,rfl,by omega,by simp [hi,rR,ht]⟩
 .have h1:=A3 ht
  rw [l6 (by omega)] at hi;simp [hi,rR,j3,num]
def aq5 (xs:List K4)(x:K4)(hx:xs.length<=100000):Pf A 224 [.d (B0 encS xs),.d (.str x)] (.d (.bool (xs.any fun y=>O1 y x))):=by
 rw [<- Em x xs 0];refine Pf.run [.d (B0 encS xs),.d (.str x),.any] rfl rfl rfl rfl ?_
 repeat' (first|refine cl (aY3 xs x hx) ?_|refine gx ?_|fail)
 exact ⟨_,rfl,rfl⟩
def DE (x:Int):List Int->Nat->Int
 |[],_=> -1
 |y::r,i=>if s9 x y then i else DE x r (i+1)
theorem Jl (x:Int):∀ (l:List Int) (i:Nat),bV 0 (DE x l i)=l.any fun y=>s9 y x
 |[],i=>by simp [DE,s6]
 |y::r,i=>by
  have h1:=Jl x r (i+1);have h2:s9 x y=s9 y x:=by simp only [o8];rw [Bool.eq_iff_iff];simp only [beq_iff_eq];exact eq_comm
  simp only [DE,List.any_cons,h2];cases h3:s9 y x with
  |true=>simp [s6]
  |false=>simpa using h1
def bD9 (xs:List Int)(x:Int)(hx:xs.length<=100000):Pf A 278 [.d (B0 (fun n=>[num n]) xs),.d (num x)] (.d (num (DE x xs 0))):=by
 refine Pf.run [.d (B0 (fun n=>[num n]) xs),.d (num x),.any,.any,.any,.any] rfl rfl rfl rfl ?_;refine gr ?_;refine Ex.I7 (fun k T H=>∃ (i:Nat) (v w:c8),T=[.d (B0 (fun n=>[num n]) xs),.d (num x),v,w,.d (num xs.length),.d (num i)]/\H=[]/\i+k=xs.length/\DE x xs 0=DE x (xs.drop i) i) (by rintro _ _ _ ⟨_,_,_,_,rfl,_⟩;rfl) ?_ (k:=xs.length) ⟨0,_,_,rfl,rfl,by simp,by simp⟩;rintro k _ _ ⟨i,v,w,rfl,rfl,hk,hi⟩;refine Ex.nT ?_
 repeat' (first|refine gx ?_|refine Ex.M8 ?_|refine Ex.N6 ?_|refine Ex.cond rfl (fun ht=> ?_) (fun ht=> ?_)|refine Ex.test (Rn.text ?_)|refine Ex.test (Rn.draw ?_)|refine ⟨_,rfl,fun ht=> ?_,fun ht=> ?_⟩|refine ⟨_,rfl,?_⟩|fail)
 .have h1:=A6 ‹E4 i _=true›
  rw [D3 (by omega)] at hi;simp [hi,DE,ht,j3,num]
 .have h1:=A6 ‹E4 i _=true›
  rw [D3 (by omega)] at hi;exact ⟨k - 1,by omega,i+1,_,_,rfl,rfl,by omega,by simp [hi,DE,ht]⟩
 .have h1:=A3 ht
  rw [l6 (by omega)] at hi;simp [hi,DE,j3,num]
def bD5 (xs:List Int)(x:Int)(hx:xs.length<=100000):Pf A 253 [.d (B0 (fun n=>[num n]) xs),.d (num x)] (.d (.bool (xs.any fun y=>s9 y x))):=by
 rw [<- Jl x xs 0];refine Pf.run [.d (B0 (fun n=>[num n]) xs),.d (num x),.any] rfl rfl rfl rfl ?_
 repeat' (first|refine cl (bD9 xs x hx) ?_|refine gx ?_|fail)
 exact ⟨_,rfl,rfl⟩
def JH (ss:List gj)(ds:List K4)(x:oy):Int:=if !s9 (R7 ds x.name) 0 then R7 ds x.name else if !s9 (mU ss x.source x.col).2 0 then (mU ss x.source x.col).2 else if !s9 (mU ss x.source x.col).1 2 then 5 else 0
def BU (ss:List gj)(ds:List K4)(x:nC):Int:=if !s9 (R7 ds x.name) 0 then R7 ds x.name else if !s9 (mU ss x.source x.col).2 0 then (mU ss x.source x.col).2
 else if !s9 x.kind 0&& !s9 x.kind 1&& !s9 x.kind 2 then 1
 else if !q8 x.width 1 1024|| !q8 x.depth 1 8||(s9 x.kind 2&& !s9 x.depth 1)||E4 1024 (x.width * x.depth) then 1 else 0
def IQ (ss:List gj)(ds:List K4)(x:qL):Int:=if !s9 (R7 ds x.name) 0 then R7 ds x.name else if !s9 (mU ss x.source x.col).2 0 then (mU ss x.source x.col).2 else if !q8 x.ttl 1 1048576 then 1 else 0
def Ox (c:r9)(ss:List gj)(ds:List K4)(x:tP):Int:=if !s9 (R7 ds x.name) 0 then R7 ds x.name else if !nX c ss x.table then 7 else 0
set_option maxHeartbeats 4000000 in
def bF1 [Inhabited XO] (c:r9)(ds:List K4)(ss:List gj)(i:Nat)(hi:i<c.idxs.length)(tu:∀ k,k<ss.length->(nth ss k).2.2.length<=100000):Pm A 151 [.ptr 5 0,.d (num i)] (HH c ds ss) lW (.d (num (JH ss ds (nth c.idxs i)))) (HH c (P7 ds (nth c.idxs i).name) ss):=by
 have tF:=yw c ds ss (nth c.idxs i).name;have WQ:=Xi c (P7 ds (nth c.idxs i).name) ss (nth c.idxs i).source (nth c.idxs i).col tu
 suffices h:Pq A 151 [.ptr 5 0,.d (num i)] (HH c ds ss) lW fun v H1=>v= .d (num (JH ss ds (nth c.idxs i)))/\H1=HH c (P7 ds (nth c.idxs i).name) ss by
  obtain ⟨v,H1,⟨rfl,rfl⟩,h⟩:=h;exact h
 generalize hx:nth c.idxs i=x at *
 unfold HH at *
 refine Pq.run (b:=6) [.ptr 5 0,.d (num i),.any,.any,.any,.any,.any] rfl rfl rfl rfl rfl ?_;refine gr ?_;rw [hx]
 repeat' (first|refine c0 tF rfl (h2:= ?_)|refine gx ?_|fail)
 refine tb (!s9 (R7 ds x.name) 0) (fun h1=> ?_) (fun h1=> ?_)
 .refine gr ?_
  exact ⟨_,_,rfl,by unfold JH;rw [h1];rfl,rfl⟩
 repeat' (first|refine c1 WQ rfl ?_|refine gx ?_|fail)
 refine tb (!s9 (mU ss x.source x.col).2 0) (fun h2=> ?_) (fun h2=> ?_)
 .refine gr ?_
  exact ⟨_,_,rfl,by unfold JH;rw [h1,h2];rfl,rfl⟩
 refine gr ?_;refine tb (!s9 (mU ss x.source x.col).1 2) (fun h3=> ?_) (fun h3=> ?_)
 .refine gr ?_
  exact ⟨_,_,rfl,by unfold JH;rw [h1,h2,h3];rfl,rfl⟩
 .refine gr ?_
  exact ⟨_,_,rfl,by unfold JH;rw [h1,h2,h3];rfl,rfl⟩
set_option maxHeartbeats 4000000 in
def bF3 [Inhabited XO] (c:r9)(ds:List K4)(ss:List gj)(i:Nat)(hi:i<c.N5.length)(tu:∀ k,k<ss.length->(nth ss k).2.2.length<=100000):Pm A 153 [.ptr 5 0,.d (num i)] (HH c ds ss) lW (.d (num (IQ ss ds (nth c.N5 i)))) (HH c (P7 ds (nth c.N5 i).name) ss):=by
 have tF:=yw c ds ss (nth c.N5 i).name;have WQ:=Xi c (P7 ds (nth c.N5 i).name) ss (nth c.N5 i).source (nth c.N5 i).col tu
 suffices h:Pq A 153 [.ptr 5 0,.d (num i)] (HH c ds ss) lW fun v H1=>v= .d (num (IQ ss ds (nth c.N5 i)))/\H1=HH c (P7 ds (nth c.N5 i).name) ss by
  obtain ⟨v,H1,⟨rfl,rfl⟩,h⟩:=h;exact h
 generalize hx:nth c.N5 i=x at *
 unfold HH at *
 refine Pq.run (b:=6) [.ptr 5 0,.d (num i),.any,.any,.any,.any] rfl rfl rfl rfl rfl ?_;refine gr ?_;rw [hx]
 repeat' (first|refine c0 tF rfl (h2:= ?_)|refine gx ?_|fail)
 refine tb (!s9 (R7 ds x.name) 0) (fun h1=> ?_) (fun h1=> ?_)
 .refine gr ?_
  exact ⟨_,_,rfl,by unfold IQ;rw [h1];rfl,rfl⟩
 repeat' (first|refine c1 WQ rfl ?_|refine gx ?_|fail)
 refine tb (!s9 (mU ss x.source x.col).2 0) (fun h2=> ?_) (fun h2=> ?_)
 .refine gr ?_
  exact ⟨_,_,rfl,by unfold IQ;rw [h1,h2];rfl,rfl⟩
 refine gr ?_;refine tB (!q8 x.ttl 1 1048576) ?_ (fun h3=> ?_) (fun h3=> ?_)
 .repeat' (first|refine cl (pX _ _ _) ?_|refine gx ?_|refine fk (h1:=fun hw=> ?_) (h2:=fun hw=> ?_)|refine U1 (h1:=fun hw=> ?_) (h2:=fun hw=> ?_)|refine ⟨rfl,rfl,_,rfl,?_⟩|refine ⟨rfl,rfl⟩|fail)
  all_goals exact cc
 .refine gr ?_
  exact ⟨_,_,rfl,by unfold IQ;rw [h1,h2,h3];rfl,rfl⟩
 .refine gr ?_
  exact ⟨_,_,rfl,by unfold IQ;rw [h1,h2,h3];rfl,rfl⟩
set_option maxHeartbeats 4000000 in
def bF5 [Inhabited XO] (c:r9)(ds:List K4)(ss:List gj)(i:Nat)(hi:i<c.S0.length)(hc:c.j9.length<=1000):Pm A 155 [.ptr 5 0,.d (num i)] (HH c ds ss) lW (.d (num (Ox c ss ds (nth c.S0 i)))) (HH c (P7 ds (nth c.S0 i).name) ss):=by
 have tF:=yw c ds ss (nth c.S0 i).name;have aD6:=ar4 c (P7 ds (nth c.S0 i).name) ss (nth c.S0 i).table hc
 suffices h:Pq A 155 [.ptr 5 0,.d (num i)] (HH c ds ss) lW fun v H1=>v= .d (num (Ox c ss ds (nth c.S0 i)))/\H1=HH c (P7 ds (nth c.S0 i).name) ss by
  obtain ⟨v,H1,⟨rfl,rfl⟩,h⟩:=h;exact h
 generalize hx:nth c.S0 i=x at *
 unfold HH at *
 refine Pq.run (b:=6) [.ptr 5 0,.d (num i),.any,.any,.any] rfl rfl rfl rfl rfl ?_;refine gr ?_;rw [hx]
 repeat' (first|refine c0 tF rfl (h2:= ?_)|refine gx ?_|fail)
 refine tb (!s9 (R7 ds x.name) 0) (fun h1=> ?_) (fun h1=> ?_)
 .refine gr ?_
  exact ⟨_,_,rfl,by unfold Ox;rw [h1];rfl,rfl⟩
 refine gr ?_;refine tB (!nX c ss x.table) ?_ (fun h2=> ?_) (fun h2=> ?_)
 .repeat' (first|refine c1 aD6 rfl ?_|refine gx ?_|refine fk (h1:=fun hw=> ?_) (h2:=fun hw=> ?_)|refine U1 (h1:=fun hw=> ?_) (h2:=fun hw=> ?_)|refine ⟨rfl,rfl,_,rfl,?_⟩|refine ⟨rfl,rfl⟩|fail)
  all_goals exact cc
 .refine gr ?_
  exact ⟨_,_,rfl,by unfold Ox;rw [h1,h2];rfl,rfl⟩
 .refine gr ?_
  exact ⟨_,_,rfl,by unfold Ox;rw [h1,h2];rfl,rfl⟩
set_option maxHeartbeats 4000000 in
def bF2 [Inhabited XO] (c:r9)(ds:List K4)(ss:List gj)(i:Nat)(hi:i<c.M3.length)(tu:∀ k,k<ss.length->(nth ss k).2.2.length<=100000):Pm A 152 [.ptr 5 0,.d (num i)] (HH c ds ss) lW (.d (num (BU ss ds (nth c.M3 i)))) (HH c (P7 ds (nth c.M3 i).name) ss):=by
 have tF:=yw c ds ss (nth c.M3 i).name;have WQ:=Xi c (P7 ds (nth c.M3 i).name) ss (nth c.M3 i).source (nth c.M3 i).col tu
 suffices h:Pq A 152 [.ptr 5 0,.d (num i)] (HH c ds ss) lW fun v H1=>v= .d (num (BU ss ds (nth c.M3 i)))/\H1=HH c (P7 ds (nth c.M3 i).name) ss by
  obtain ⟨v,H1,⟨rfl,rfl⟩,h⟩:=h;exact h
 generalize hx:nth c.M3 i=x at *
 unfold HH at *
 refine Pq.run (b:=6) [.ptr 5 0,.d (num i),.any,.any,.any,.any] rfl rfl rfl rfl rfl ?_;refine gr ?_;rw [hx]
 repeat' (first|refine c0 tF rfl (h2:= ?_)|refine gx ?_|fail)
 refine tb (!s9 (R7 ds x.name) 0) (fun h1=> ?_) (fun h1=> ?_)
 .refine gr ?_
  exact ⟨_,_,rfl,by unfold BU;rw [h1];rfl,rfl⟩
 repeat' (first|refine c1 WQ rfl ?_|refine gx ?_|fail)
 refine tb (!s9 (mU ss x.source x.col).2 0) (fun h2=> ?_) (fun h2=> ?_)
 .refine gr ?_
  exact ⟨_,_,rfl,by unfold BU;rw [h1,h2];rfl,rfl⟩
 refine gr ?_;refine tb (!s9 x.kind 0&& !s9 x.kind 1&& !s9 x.kind 2) (fun h3=> ?_) (fun h3=> ?_)
 .refine gr ?_
  exact ⟨_,_,rfl,by unfold BU;rw [h1,h2,h3];rfl,rfl⟩
 refine gr ?_;cases hW:q8 x.width 1 1024 with
 |false =>
  refine tB (true) ?_ (fun h4=> ?_) (fun h4=> ?_)
  .repeat' (first|refine cl (pX _ _ _) ?_|refine gx ?_|refine fk (h1:=fun hw=> ?_) (h2:=fun hw=> ?_)|refine U1 (h1:=fun hw=> ?_) (h2:=fun hw=> ?_)|refine ⟨rfl,rfl,_,rfl,?_⟩|refine ⟨rfl,rfl⟩|fail)
   all_goals first|(simp [*,j3,hW];done)|(simp_all [j3,hW];done)|(simp_all [j3,hW,u0,s6,o8,E5];done)|(simp_all [j3,hW,u0,s6,o8,E5]<;>omega)
  .refine gr ?_
   exact ⟨_,_,rfl,by unfold BU;rw [h1,h2,h3,hW];rfl,rfl⟩
  .cases h4
 |true =>
 cases hD:q8 x.depth 1 8 with
 |false =>
  refine tB (true) ?_ (fun h4=> ?_) (fun h4=> ?_)
  .repeat' (first|refine cl (pX _ _ _) ?_|refine gx ?_|refine fk (h1:=fun hw=> ?_) (h2:=fun hw=> ?_)|refine U1 (h1:=fun hw=> ?_) (h2:=fun hw=> ?_)|refine ⟨rfl,rfl,_,rfl,?_⟩|refine ⟨rfl,rfl⟩|fail)
   all_goals first|(simp [*,j3,hW,hD];done)|(simp_all [j3,hW,hD];done)|(simp_all [j3,hW,hD,u0,s6,o8,E5];done)|(simp_all [j3,hW,hD,u0,s6,o8,E5]<;>omega)
  .refine gr ?_
   exact ⟨_,_,rfl,by unfold BU;rw [h1,h2,h3,hW,hD];rfl,rfl⟩
  .cases h4
 |true =>
 have hm: -9223372036854775808<=x.width * x.depth/\x.width * x.depth<9223372036854775808:=by
  simp [q8,s6] at hW hD;have m1:=Int.mul_le_mul hW.2 hD.2 (by omega) (by omega);have m2:=Int.mul_nonneg (a:=x.width) (b:=x.depth) (by omega) (by omega);omega
 refine tB (!q8 x.width 1 1024|| !q8 x.depth 1 8||(s9 x.kind 2&& !s9 x.depth 1)||E4 1024 (x.width * x.depth)) ?_ (fun h4=> ?_) (fun h4=> ?_)
 .repeat' (first|refine cl (pX _ _ _) ?_|refine mu (h0:=hm) ?_|refine gx ?_|refine fk (h1:=fun hw=> ?_) (h2:=fun hw=> ?_)|refine U1 (h1:=fun hw=> ?_) (h2:=fun hw=> ?_)|refine ⟨rfl,rfl,_,rfl,?_⟩|refine ⟨rfl,rfl⟩|fail)
  all_goals first|(simp [*,j3,hW,hD];done)|(simp_all [j3,hW,hD];done)|(simp_all [j3,hW,hD,u0,s6,o8,E5];done)|(simp_all [j3,hW,hD,u0,s6,o8,E5]<;>omega)
 .refine gr ?_
  exact ⟨_,_,rfl,by unfold BU;rw [h1,h2,h3,h4];rfl,rfl⟩
 .refine gr ?_
  exact ⟨_,_,rfl,by unfold BU;rw [h1,h2,h3,h4];rfl,rfl⟩
set_option maxHeartbeats 4000000 in
def aX9 (t:jj)(xs:List Int)(hx:xs.length<=1000)(hc:t.q7.length<=1000):Pf A 251 [ny t,.d (ints xs)] (.d (.bool (aq t (-1) xs))):=by
 refine Pf.run [ny t,.d (ints xs),.any,.any,.any,.any,.any,.any,.any,.any] rfl rfl rfl rfl ?_;refine gr ?_;refine Ex.cV (fun k T H=>∃ (i:Nat) (p:Int),T=[.any,.any,.ptr 0 0,.any,.d (num p),.any,.any,.d (ints xs),.d (num xs.length),.d (num i)]/\H=[.cells (t.enc.map .d)]/\i+k=xs.length/\ -1<=p/\aq t (-1) xs=aq t p (xs.drop i)) ?_ (k:=xs.length) ⟨0, -1,rfl,rfl,by simp,by omega,by simp⟩;rintro k _ _ ⟨i,p,rfl,rfl,hk,hp,hi⟩;refine Ex.seq ?_;refine tb (E4 i xs.length) (fun h1=> ?_) (fun h1=> ?_)
 .have h2:=A6 h1
  rw [D3 (by omega)] at hi;refine gr ?_;refine tb (bV (nth xs i) p||bV t.q7.length (nth xs i)) (fun h3=> ?_) (fun h3=> ?_)
  .refine gr ?_
   have h4:(E4 p (nth xs i)&&E4 (nth xs i) t.q7.length)=false:=by simp [s6,u0] at h3 ⊢;omega
   exact ⟨_,rfl,by rw [hi,aq,h4];rfl⟩
  have h4:E4 p (nth xs i)=true/\E4 (nth xs i) t.q7.length=true:=by simp [s6,u0] at h3 ⊢;omega
  have h5:=A6 h4.1;have h6:=A6 h4.2;refine gr ?_;refine tb (O1 (nth t.q7 (nth xs i).toNat).space []&&O1 (nth t.q7 (nth xs i).toNat).refs []) (fun h7=> ?_) (fun h7=> ?_)
  .refine gr ?_
   exact ⟨_,rfl,by rw [hi,aq,h4.1,h4.2,h7];rfl⟩
  .refine gr ?_
   exact ⟨k - 1,by omega,_,_,rfl,i+1,nth xs i,rfl,rfl,by omega,by omega,by rw [hi,aq,h4.1,h4.2,h7];rfl⟩
 .refine gr ?_
  have h2:=A3 h1;rw [l6 (by omega)] at hi;exact ⟨_,rfl,by rw [hi];rfl⟩
def Gw (x:ek):c8:= .agg (x.enc.map .d)
def od (t:jj)(x:ek):Bool :=
 if !s9 x.iZ 0&&(!s9 x.iZ 1|| !E4 0 x.J8.length) then false
 else if !q8 x.nK 0 1048576 then false
 else if !s9 x.nK 0&& !E4 0 x.J8.length then false
 else s9 t.bW 0||bV x.nK t.bW
set_option maxHeartbeats 4000000 in
def aY0 (t:jj)(x:ek):Pf A 252 [ny t,Gw x] (.d (.bool (od t x))):=by
 refine Pf.run [ny t,Gw x,.any,.any,.any,.any] rfl rfl rfl rfl ?_;refine gr ?_;refine tb (!s9 x.iZ 0&&(!s9 x.iZ 1|| !E4 0 x.J8.length)) (fun h1=> ?_) (fun h1=> ?_)
 .refine gr ?_
  exact ⟨_,rfl,by unfold od;rw [h1];rfl⟩
 refine tB (!q8 x.nK 0 1048576) ?_ (fun h2=> ?_) (fun h2=> ?_)
 .repeat' (first|refine cl (pX _ _ _) ?_|refine gx ?_|refine fk (h1:=fun hw=> ?_) (h2:=fun hw=> ?_)|refine U1 (h1:=fun hw=> ?_) (h2:=fun hw=> ?_)|refine ⟨rfl,rfl,_,rfl,?_⟩|refine ⟨rfl,rfl⟩|fail)
  all_goals exact cc
 .refine gr ?_
  exact ⟨_,rfl,by unfold od;rw [h1,h2];rfl⟩
 refine tb (!s9 x.nK 0&& !E4 0 x.J8.length) (fun h3=> ?_) (fun h3=> ?_)
 .refine gr ?_
  exact ⟨_,rfl,by unfold od;rw [h1,h2,h3];rfl⟩
 repeat' (first|refine gx ?_|refine fk (h1:=fun hw=> ?_) (h2:=fun hw=> ?_)|refine U1 (h1:=fun hw=> ?_) (h2:=fun hw=> ?_)|refine Ex.M8 ?_|refine Ex.N6 ?_|refine Ex.cond rfl (fun ht=> ?_) (fun ht=> ?_)|refine Ex.test (Rn.text ?_)|refine Ex.test (Rn.draw ?_)|refine ⟨_,rfl,fun ht=> ?_,fun ht=> ?_⟩|refine ⟨_,rfl,?_⟩|fail)
 all_goals unfold od
 all_goals rw [h1,h2,h3]
 all_goals simp [*,j3]
def l7:H7:=⟨0,8,8,8⟩
def ba6 (a0 ax a1 a2 a3 a4 a5:A1)(x y:ek):Pm A 249 [Gw y,.ptr 7 0] [a0,ax,a1,a2,a3,a4,a5,.cells (x.enc.map .d)] l7 (.d (.bool (O1 y.name x.name))) [a0,ax,a1,a2,a3,a4,a5,.cells (x.enc.map .d)]:=by
 suffices h:Pq A 249 [Gw y,.ptr 7 0] [a0,ax,a1,a2,a3,a4,a5,.cells (x.enc.map .d)] l7 fun v H1=>v= .d (.bool (O1 y.name x.name))/\H1=[a0,ax,a1,a2,a3,a4,a5,.cells (x.enc.map .d)] by
  obtain ⟨v,H1,⟨rfl,rfl⟩,h⟩:=h;exact h
 refine Pq.run (b:=8) [Gw y,.ptr 7 0,.any,.any] rfl rfl rfl rfl rfl ?_;refine gr ?_;exact ⟨_,_,rfl,rfl,rfl⟩
def Vv (x:ek):List ek->Nat->Int
 |[],_=> -1
 |y::r,i=>if O1 y.name x.name then i else Vv x r (i+1)
theorem Ph (x:ek):∀ (l:List ek) (i:Nat),bV 0 (Vv x l i)=l.any fun y=>O1 y.name x.name
 |[],i=>by simp [Vv,s6]
 |y::r,i=>by
  have h1:=Ph x r (i+1);simp only [Vv,List.any_cons];cases h3:O1 y.name x.name with
  |true=>simp [s6]
  |false=>simpa using h1
set_option maxHeartbeats 2000000 in
def bb2 (a0 ax a1 a2 a3 a4 a5:A1)(x:ek)(ys:List ek)(hy:ys.length<=1000):Pm A 277 [.d (B0 ek.enc ys),.func 249 [] [.ptr 7 0]] [a0,ax,a1,a2,a3,a4,a5,.cells (x.enc.map .d)] l7 (.d (num (Vv x ys 0))) [a0,ax,a1,a2,a3,a4,a5,.cells (x.enc.map .d)]:=by
 suffices h:Pq A 277 [.d (B0 ek.enc ys),.func 249 [] [.ptr 7 0]] [a0,ax,a1,a2,a3,a4,a5,.cells (x.enc.map .d)] l7 fun v H1=>v= .d (num (Vv x ys 0))/\H1=[a0,ax,a1,a2,a3,a4,a5,.cells (x.enc.map .d)] by
  obtain ⟨v,H1,⟨rfl,rfl⟩,h⟩:=h;exact h
 refine Pq.run (b:=8) [.d (B0 ek.enc ys),.func 249 [] [.ptr 7 0],.any,.any,.any,.any] rfl rfl rfl rfl rfl ?_;refine gr ?_;refine Ex.I7 (fun k T H=>∃ (i:Nat) (v w:c8),T=[.d (B0 ek.enc ys),.func 249 [] [.ptr 7 0],v,w,.d (num ys.length),.d (num i)]/\H=[a0,ax,a1,a2,a3,a4,a5,.cells (x.enc.map .d)]/\i+k=ys.length/\Vv x ys 0=Vv x (ys.drop i) i) (by rintro _ _ _ ⟨_,_,_,_,rfl,_⟩;rfl) ?_ (k:=ys.length) ⟨0,_,_,rfl,rfl,by simp,by simp⟩;rintro k _ _ ⟨i,v,w,rfl,rfl,hk,hi⟩;refine Ex.nT ?_;refine Ex.seq ?_;refine tb (E4 i ys.length) (fun h1=> ?_) (fun h1=> ?_)
 .have h2:=A6 h1
  rw [D3 (by omega)] at hi;have p1:=ba6 a0 ax a1 a2 a3 a4 a5 x (nth ys i);refine gr ?_;refine tB (O1 (nth ys i).name x.name) ?_ (fun h3=> ?_) (fun h3=> ?_)
  .repeat' (first|refine cv1 p1 rfl ?_|refine gx ?_|refine fk (h1:=fun hw=> ?_) (h2:=fun hw=> ?_)|refine U1 (h1:=fun hw=> ?_) (h2:=fun hw=> ?_)|refine ⟨rfl,rfl,_,rfl,?_⟩|refine ⟨rfl,rfl⟩|fail)
   all_goals exact cc
  .refine gr ?_
   exact ⟨_,_,rfl,by rw [hi,Vv,h3];rfl,rfl⟩
  .refine gr ?_
   exact ⟨k - 1,by omega,i+1,_,_,rfl,rfl,by omega,by rw [hi,Vv,h3];rfl⟩
 .have h2:=A3 h1
  rw [l6 (by omega)] at hi;refine gr ?_;exact ⟨_,_,rfl,by rw [hi];rfl,rfl⟩
def ba5 (a0 ax a1 a2 a3 a4 a5:A1)(x:ek)(ys:List ek)(hy:ys.length<=1000):Pm A 248 [.d (B0 ek.enc ys),.func 249 [] [.ptr 7 0]] [a0,ax,a1,a2,a3,a4,a5,.cells (x.enc.map .d)] l7 (.d (.bool (ys.any fun y=>O1 y.name x.name))) [a0,ax,a1,a2,a3,a4,a5,.cells (x.enc.map .d)]:=by
 have p1:=bb2 a0 ax a1 a2 a3 a4 a5 x ys hy;rw [<- Ph x ys 0]
 suffices h:Pq A 248 [.d (B0 ek.enc ys),.func 249 [] [.ptr 7 0]] [a0,ax,a1,a2,a3,a4,a5,.cells (x.enc.map .d)] l7 fun v H1=>v= .d (.bool (bV 0 (Vv x ys 0)))/\H1=[a0,ax,a1,a2,a3,a4,a5,.cells (x.enc.map .d)] by
  obtain ⟨v,H1,⟨rfl,rfl⟩,h⟩:=h;exact h
 refine Pq.run (b:=8) [.d (B0 ek.enc ys),.func 249 [] [.ptr 7 0],.any] rfl rfl rfl rfl rfl ?_
 repeat' (first|refine c1 p1 rfl ?_|refine gx ?_|fail)
 exact ⟨_,_,rfl,rfl,rfl⟩
def aW8 (x:ek):Pf A 214 [Gw x] (.d (.str x.name)):=by
 refine Pf.run [Gw x,.any,.any] rfl rfl rfl rfl ?_;refine gr ?_;exact ⟨_,rfl,rfl⟩
def aX0 (x:ek):Pf A 216 [Gw x] (.d (num x.type)):=by
 refine Pf.run [Gw x,.any,.any] rfl rfl rfl rfl ?_;refine gr ?_;exact ⟨_,rfl,rfl⟩
set_option maxHeartbeats 2000000 in
def aW7 (xs:List ek)(hx:xs.length<=1000):Pf A 213 [.d (B0 ek.enc xs),.func 214 [] []] (.d (B0 encS (xs.map ek.name))):=by
 refine Pf.run [.d (B0 ek.enc xs),.func 214 [] [],.any,.any,.any,.any,.any,.any] rfl rfl rfl rfl ?_;refine gr ?_;refine Ex.cV (fun k T H=>∃ (i:Nat) (acc:List K4),T=[.any,.func 214 [] [],.any,E7 1 encS acc,.any,.d (B0 ek.enc xs),.d (num xs.length),.d (num i)]/\H=[]/\i+k=xs.length/\acc=(xs.take i).map ek.name) ?_ (k:=xs.length) ⟨0,[],rfl,rfl,by simp,by simp⟩;rintro k _ _ ⟨i,acc,rfl,rfl,hk,hacc⟩;have hl:acc.length=i:=by rw [hacc];simp;omega
 refine Ex.seq ?_;refine tb (E4 i xs.length) (fun h1=> ?_) (fun h1=> ?_)
 .have h2:=A6 h1
  have p1:=aW8 (nth xs i)
  repeat' (first|refine cv p1 ?_|refine gx ?_|fail)
  exact ⟨k - 1,by omega,_,_,rfl,i+1,acc++[(nth xs i).name],rfl,rfl,by omega,by rw [H9 (by omega),hacc];simp⟩
 .have h2:=A3 h1
  rw [y6 (by omega)] at hacc;refine gr ?_;exact ⟨_,rfl,by rw [<- hacc];rfl⟩
set_option maxHeartbeats 2000000 in
def aW9 (xs:List ek)(hx:xs.length<=1000):Pf A 215 [.d (B0 ek.enc xs),.func 216 [] []] (.d (ints (xs.map ek.type))):=by
 refine Pf.run [.d (B0 ek.enc xs),.func 216 [] [],.any,.any,.any,.any,.any,.any] rfl rfl rfl rfl ?_;refine gr ?_;refine Ex.cV (fun k T H=>∃ (i:Nat) (acc:List Int),T=[.any,.func 216 [] [],.any,E7 1 (fun n=>[num n]) acc,.any,.d (B0 ek.enc xs),.d (num xs.length),.d (num i)]/\H=[]/\i+k=xs.length/\acc=(xs.take i).map ek.type) ?_ (k:=xs.length) ⟨0,[],rfl,rfl,by simp,by simp⟩;rintro k _ _ ⟨i,acc,rfl,rfl,hk,hacc⟩;have hl:acc.length=i:=by rw [hacc];simp;omega
 refine Ex.seq ?_;refine tb (E4 i xs.length) (fun h1=> ?_) (fun h1=> ?_)
 .have h2:=A6 h1
  have p1:=aX0 (nth xs i)
  repeat' (first|refine cv p1 ?_|refine gx ?_|fail)
  exact ⟨k - 1,by omega,_,_,rfl,i+1,acc++[(nth xs i).type],rfl,rfl,by omega,by rw [H9 (by omega),hacc];simp⟩
 .have h2:=A3 h1
  rw [y6 (by omega)] at hacc;refine gr ?_;exact ⟨_,rfl,by rw [<- hacc];rfl⟩
def rK (c:r9)(ss:List gj)(t:jj)(i:Nat):Int :=
 if !L3 (nth t.q7 i).name||(!O1 (nth t.q7 i).space []&& !L3 (nth t.q7 i).space) then 3
 else if (t.q7.take i).any fun y=>O1 y.name (nth t.q7 i).name then 4
 else if !O1 (nth t.q7 i).refs []&&E4 (I9 (nth t.q7 i).refs (ss.map (·.1)) 0) 0 then 7
 else if !(s9 (nth t.q7 i).type 1||s9 (nth t.q7 i).type 2)||(bV 0 (I9 (nth t.q7 i).refs (ss.map (·.1)) 0)&& !s9 (nth t.q7 i).type (nth (nth ss (I9 (nth t.q7 i).refs (ss.map (·.1)) 0).toNat).2.2 0)) then 5
 else if (!O1 (nth t.q7 i).space []&& !O1 (nth t.q7 i).refs [])|| !aq t (-1) (nth t.q7 i).J8|| !od t (nth t.q7 i) then 1
 else if s9 i 0&&E4 0 (nth t.q7 i).J8.length&& !s9 t.erase 1 then 1
 else if bV 0 (I9 (nth t.q7 i).refs (ss.map (·.1)) 0)&&E4 0 (nth (nth c.j9 (I9 (nth t.q7 i).refs (ss.map (·.1)) 0).toNat).q7 0).J8.length&& !((nth t.q7 i).J8.any fun y=>s9 y i) then 1
 else 0
set_option maxHeartbeats 8000000 in
def ba3 [Inhabited XO] (c:r9)(ds:List K4)(ss:List gj)(t:jj)(i:Nat)(hi:i<t.q7.length)(hc:t.q7.length<=1000)(ho:(nth t.q7 i).J8.length<=1000)(hss:ss.length<=c.j9.length)(ht:∀ k,k<ss.length->0<(nth ss k).2.2.length/\0<(nth c.j9 k).q7.length) :
  Pm A 211 [.ptr 5 0,ny t,.d (num i)] (HH c ds ss) lR (.d (num (rK c ss t i))) (HH c ds ss):=by
 have p61:=NW c ds ss (nth t.q7 i).refs;have b1:=Bk ss (nth t.q7 i).refs;have b2:(I9 (nth t.q7 i).refs (ss.map (·.1)) 0)= -1\/(0<=(I9 (nth t.q7 i).refs (ss.map (·.1)) 0)/\(I9 (nth t.q7 i).refs (ss.map (·.1)) 0)<ss.length/\0<(nth ss (I9 (nth t.q7 i).refs (ss.map (·.1)) 0).toNat).2.2.length/\0<(nth c.j9 (I9 (nth t.q7 i).refs (ss.map (·.1)) 0).toNat).q7.length):=by
  rcases b1 with h|h
  .exact Or.inl h
  .have:=ht (I9 (nth t.q7 i).refs (ss.map (·.1)) 0).toNat (by omega)
   exact Or.inr ⟨h.1,h.2,this.1,this.2⟩
 have bH4:=aX9 t (nth t.q7 i).J8 ho hc;have bH5:=aY0 t (nth t.q7 i);have q49:=bD5 (nth t.q7 i).J8 i (by omega)
 suffices h:Pq A 211 [.ptr 5 0,ny t,.d (num i)] (HH c ds ss) lR fun v H1=>v= .d (num (rK c ss t i))/\H1=HH c ds ss by
  obtain ⟨v,H1,⟨rfl,rfl⟩,h⟩:=h;exact h
 unfold HH at *
 have bH3:=ba5 xa xo (.cells (c.enc.map .d)) (.map (dmap ds)) (.map (fO (ss.map (·.1)) 0)) (.cells (c.enc.map .d++[.map 3,.map 4,E7 2 Z2 ss])) (.cells (t.enc.map .d)) (nth t.q7 i) (t.q7.take i) (by simp;omega);refine Pq.run (b:=6) [.ptr 5 0,ny t,.d (num i),.any,.any,.any,.any,.any] rfl rfl rfl rfl rfl ?_;refine gr ?_;refine tB (!L3 (nth t.q7 i).name||(!O1 (nth t.q7 i).space []&& !L3 (nth t.q7 i).space)) ?_ (fun h1=> ?_) (fun h1=> ?_)
 .repeat' (first|refine cl (WY _) ?_|refine gx ?_|refine fk (h1:=fun hw=> ?_) (h2:=fun hw=> ?_)|refine U1 (h1:=fun hw=> ?_) (h2:=fun hw=> ?_)|refine ⟨rfl,rfl,_,rfl,?_⟩|refine ⟨rfl,rfl⟩|fail)
  all_goals exact cc
 .refine gr ?_
  exact ⟨_,_,rfl,by unfold rK;rw [h1];rfl,rfl⟩
 refine gr ?_;refine tB ((t.q7.take i).any fun y=>O1 y.name (nth t.q7 i).name) ?_ (fun h2=> ?_) (fun h2=> ?_)
 .repeat' (first|refine c1 bH3 rfl ?_|refine gx ?_|refine fk (h1:=fun hw=> ?_) (h2:=fun hw=> ?_)|refine U1 (h1:=fun hw=> ?_) (h2:=fun hw=> ?_)|refine ⟨rfl,rfl,_,rfl,?_⟩|refine ⟨rfl,rfl⟩|fail)
  all_goals exact cc
 .refine gr ?_
  exact ⟨_,_,rfl,by unfold rK;rw [h1,h2];rfl,rfl⟩
 repeat' (first|refine c1 p61 rfl ?_|refine gx ?_|fail)
 refine tb (!O1 (nth t.q7 i).refs []&&E4 (I9 (nth t.q7 i).refs (ss.map (·.1)) 0) 0) (fun h3=> ?_) (fun h3=> ?_)
 .refine gr ?_
  exact ⟨_,_,rfl,by unfold rK;rw [h1,h2,h3];rfl,rfl⟩
 refine gr ?_;refine tB (!(s9 (nth t.q7 i).type 1||s9 (nth t.q7 i).type 2)||(bV 0 (I9 (nth t.q7 i).refs (ss.map (·.1)) 0)&& !s9 (nth t.q7 i).type (nth (nth ss (I9 (nth t.q7 i).refs (ss.map (·.1)) 0).toNat).2.2 0))) ?_ (fun h4=> ?_) (fun h4=> ?_)
 .repeat' (first|refine cl (aX8 _) ?_|refine gx ?_|refine fk (h1:=fun hw=> ?_) (h2:=fun hw=> ?_)|refine U1 (h1:=fun hw=> ?_) (h2:=fun hw=> ?_)|refine ⟨rfl,rfl,_,rfl,?_⟩|refine ⟨rfl,rfl⟩|fail)
  all_goals exact cc
 .refine gr ?_
  exact ⟨_,_,rfl,by unfold rK;rw [h1,h2,h3,h4];rfl,rfl⟩
 refine gr ?_;refine tB ((!O1 (nth t.q7 i).space []&& !O1 (nth t.q7 i).refs [])|| !aq t (-1) (nth t.q7 i).J8|| !od t (nth t.q7 i)) ?_ (fun h5=> ?_) (fun h5=> ?_)
 .repeat' (first|refine cl (bH4) ?_|refine cl (bH5) ?_|refine gx ?_|refine fk (h1:=fun hw=> ?_) (h2:=fun hw=> ?_)|refine U1 (h1:=fun hw=> ?_) (h2:=fun hw=> ?_)|refine ⟨rfl,rfl,_,rfl,?_⟩|refine ⟨rfl,rfl⟩|fail)
  all_goals exact cc
 .refine gr ?_
  exact ⟨_,_,rfl,by unfold rK;rw [h1,h2,h3,h4,h5];rfl,rfl⟩
 refine gr ?_;refine tb (s9 i 0&&E4 0 (nth t.q7 i).J8.length&& !s9 t.erase 1) (fun h6=> ?_) (fun h6=> ?_)
 .refine gr ?_
  exact ⟨_,_,rfl,by unfold rK;rw [h1,h2,h3,h4,h5,h6];rfl,rfl⟩
 refine gr ?_;refine tB (bV 0 (I9 (nth t.q7 i).refs (ss.map (·.1)) 0)&&E4 0 (nth (nth c.j9 (I9 (nth t.q7 i).refs (ss.map (·.1)) 0).toNat).q7 0).J8.length&& !((nth t.q7 i).J8.any fun y=>s9 y i)) ?_ (fun h7=> ?_) (fun h7=> ?_)
 .repeat' (first|refine cl (q49) ?_|refine gx ?_|refine fk (h1:=fun hw=> ?_) (h2:=fun hw=> ?_)|refine U1 (h1:=fun hw=> ?_) (h2:=fun hw=> ?_)|refine ⟨rfl,rfl,_,rfl,?_⟩|refine ⟨rfl,rfl⟩|fail)
  all_goals exact cc
 .refine gr ?_
  exact ⟨_,_,rfl,by unfold rK;rw [h1,h2,h3,h4,h5,h6,h7];rfl,rfl⟩
 refine gr ?_;exact ⟨_,_,rfl,by unfold rK;rw [h1,h2,h3,h4,h5,h6,h7];rfl,rfl⟩
def Ed (c:r9)(ss:List gj)(t:jj):Nat->Nat->Int
 |0,_=>0
 |k+1,i=>if !s9 (rK c ss t i) 0 then rK c ss t i else Ed c ss t k (i+1)
def qn (t:jj):Bool:= !q8 t.q7.length 1 8||(!s9 t.erase 0&& !s9 t.erase 1)|| !q8 t.bW 0 1048576
def xB (c:r9)(ss:List gj)(ds:List K4)(t:jj):Int :=
 if !s9 (R7 ds t.name) 0 then R7 ds t.name else if qn t then 1 else Ed c ss t t.q7.length 0
def Lb (c:r9)(ss:List gj)(ds:List K4)(t:jj):List gj:=if s9 (xB c ss ds t) 0 then ss++[(t.name,t.q7.map ek.name,t.q7.map ek.type)] else ss
set_option maxHeartbeats 8000000 in
def bE9 [Inhabited XO] (c:r9)(ds:List K4)(ss:List gj)(i:Nat)(hi:i<c.j9.length)(hc:(nth c.j9 i).q7.length<=1000)(ho:∀ j,j<(nth c.j9 i).q7.length->(nth (nth c.j9 i).q7 j).J8.length<=1000)(hss:ss.length<=c.j9.length)(by4:ss.length<=1000)(hi2:c.j9.length<=1000)
  (ht:∀ k,k<ss.length->0<(nth ss k).2.2.length/\0<(nth c.j9 k).q7.length) (hsub:∀ s,(ds.any fun y=>O1 y s)=false->((ss.map (·.1)).any fun y=>O1 y s)=false) :
  Pm A 149 [.ptr 5 0,.d (num i)] (HH c ds ss) lW (.d (num (xB c ss ds (nth c.j9 i)))) (HH c (P7 ds (nth c.j9 i).name) (Lb c ss ds (nth c.j9 i))):=by
 generalize hx:nth c.j9 i=t at *
 have tF:=yw c ds ss t.name;have bC2:∀ j,j<t.q7.length->Pm A 211 [.ptr 5 0,ny t,.d (num j)] (HH c (P7 ds t.name) ss) lR (.d (num (rK c ss t j))) (HH c (P7 ds t.name) ss):=fun j hj=>ba3 c (P7 ds t.name) ss t j hj hc (ho j hj) hss ht
 have bG6:=aW7 t.q7 hc;have bG7:=aW9 t.q7 hc;have WO:R7 ds t.name=0->Pm A 212 [.ptr 5 0,.d (.str t.name),Jc (t.q7.map ek.name) (t.q7.map ek.type)] (HH c (P7 ds t.name) ss) lW (.tuple []) (HH c (P7 ds t.name) (ss++[(t.name,t.q7.map ek.name,t.q7.map ek.type)])):=fun h=>by
  refine Xh c (P7 ds t.name) ss t.name _ _ (hsub _ ?_) by4;unfold R7 at h;cases h1:(!L3 t.name) with
  |true=>rw [h1] at h;simp at h
  |false =>
   rw [h1] at h;cases h2:ds.any fun y=>O1 y t.name with
   |false=>rfl
   |true=>rw [h2] at h;simp at h
 suffices h:Pq A 149 [.ptr 5 0,.d (num i)] (HH c ds ss) lW fun v H1=>v= .d (num (xB c ss ds t))/\H1=HH c (P7 ds t.name) (Lb c ss ds t) by
  obtain ⟨v,H1,⟨rfl,rfl⟩,h⟩:=h;exact h
 have fin:∀ e:Int,s9 e 0=false->xB c ss ds t=e->Lb c ss ds t=ss:=fun e h1 h2=>by unfold Lb;rw [h2,h1];rfl
 unfold HH at *
 refine Pq.run (b:=6) [.ptr 5 0,.d (num i),.any,.any,.any,.any,.any,.any,.any] rfl rfl rfl rfl rfl ?_;refine gr ?_;rw [hx]
 repeat' (first|refine c0 tF rfl (h2:= ?_)|refine gx ?_|fail)
 refine tb (!s9 (R7 ds t.name) 0) (fun h1=> ?_) (fun h1=> ?_)
 .have e1:xB c ss ds t=R7 ds t.name:=by unfold xB;rw [h1];rfl
  refine gr ?_;exact ⟨_,_,rfl,by rw [e1];rfl,by rw [fin _ (by simpa using h1) e1];rfl⟩
 refine gr ?_;refine tB (qn t) ?_ (fun h2=> ?_) (fun h2=> ?_)
 .repeat' (first|refine cl (pX _ _ _) ?_|refine gx ?_|refine fk (h1:=fun hw=> ?_) (h2:=fun hw=> ?_)|refine U1 (h1:=fun hw=> ?_) (h2:=fun hw=> ?_)|refine ⟨rfl,rfl,_,rfl,?_⟩|refine ⟨rfl,rfl⟩|fail)
  all_goals first|(simp [*,j3,qn];done)|(simp_all [j3,qn];done)|(simp_all [j3,qn,u0,s6,o8,E5];done)|(simp_all [j3,qn,u0,s6,o8,E5]<;>omega)
 .have e1:xB c ss ds t=1:=by unfold xB;rw [h1,h2];rfl
  refine gr ?_;exact ⟨_,_,rfl,by rw [e1];rfl,by rw [fin 1 (by simp [o8]) e1];rfl⟩
 refine gr ?_;refine Ex.I7 (fun k T H=>∃ (j:Nat) (w1 w2 w4 w5 w6:c8),T=[.ptr 5 0,w1,w2,.ptr 6 0,w4,w5,w6,.d (num t.q7.length),.d (num j)]/\H=[xa,xo,.cells (c.enc.map .d),.map (dmap (P7 ds t.name)),.map (fO (ss.map (·.1)) 0),.cells (c.enc.map .d++[.map 3,.map 4,E7 2 Z2 ss]),.cells (t.enc.map .d)]/\j+k=t.q7.length/\xB c ss ds t=Ed c ss t k j) (by rintro _ _ _ ⟨_,_,_,_,_,_,_,rfl,_⟩;rfl) ?_ (k:=t.q7.length) ⟨0,_,_,_,_,_,rfl,rfl,by simp,by unfold xB;rw [h1,h2];rfl⟩;rintro k _ _ ⟨j,w1,w2,w4,w5,w6,rfl,rfl,hk,hj⟩;refine Ex.nT ?_;refine Ex.seq ?_;refine tb (E4 j t.q7.length) (fun h3=> ?_) (fun h3=> ?_)
 .have h4:=A6 h3
  obtain ⟨k,rfl⟩:∃ k',k=k' +1:=⟨k - 1,by omega⟩;have bG5:=bC2 j (by omega);rw [Ed] at hj
  repeat' (first|refine c1 bG5 rfl ?_|refine gx ?_|fail)
  refine tb (!s9 (rK c ss t j) 0) (fun h5=> ?_) (fun h5=> ?_)
  .rw [h5,if_pos rfl] at hj
   refine gr ?_;exact ⟨_,_,rfl,by rw [hj];rfl,by rw [fin _ (by simpa using h5) hj];rfl⟩
  .rw [h5,if_neg (by simp)] at hj
   refine gr ?_;exact ⟨k,by omega,j+1,_,_,_,_,_,rfl,rfl,by omega,hj⟩
 .have h4:=A3 h3
  obtain rfl:k=0:=by omega
  have aF0:=WO (fH (by simpa using h1));have e1:xB c ss ds t=0:=hj;have e2:Lb c ss ds t=ss++[(t.name,t.q7.map ek.name,t.q7.map ek.type)]:=by unfold Lb;rw [e1];simp [o8]
  rw [e2]
  repeat' (first|refine cl (bG6) ?_|refine cl (bG7) ?_|refine c0 aF0 rfl (h2:= ?_)|refine gx ?_|fail)
  exact ⟨_,_,rfl,by rw [e1];rfl,rfl⟩
def rlV (c:r9)(ss:List gj)(x:oT):Vw:=nth c.views (I9 x.source (ss.map (·.1)) 0 - c.j9.length).toNat
def KI (c:r9)(ss:List gj)(ds:List K4)(x:oT):Int:=if !s9 (R7 ds x.name) 0 then R7 ds x.name else if E4 (I9 x.source (ss.map (·.1)) 0 - c.j9.length) 0 then 7
 else if !s9 (rlV c ss x).kind 1|| !s9 (nth (rlV c ss x).D5 0).func 0|| !q8 x.thr 1 1024 then 1 else 0
def bkL (c:r9)(ss:List gj):List K4->List K4->Int
 |_,[]=>0
 |seen,t::r=>if !nX c ss t then 7 else if seen.any fun y=>O1 y t then 4 else bkL c ss (seen++[t]) r
def bkM (c:r9)(ss:List gj)(ds:List K4)(x:tN):Int:=if !s9 (R7 ds x.name) 0 then R7 ds x.name else if s9 x.tables.length 0|| !q8 x.keep 1 1048576 then 1 else bkL c ss [] x.tables
set_option maxHeartbeats 4000000 in
def bF4 [Inhabited XO] (c:r9)(ds:List K4)(ss:List gj)(i:Nat)(hi:i<c.R3.length)(hc:c.j9.length<=1000)(hss:ss.length<=c.j9.length+c.views.length)(hsv:c.views.length<=1000)(hg:∀ k,k<c.views.length->(nth c.views k).kind≠1\/0<(nth c.views k).D5.length):Pm A 154 [.ptr 5 0,.d (num i)] (HH c ds ss) lW (.d (num (KI c ss ds (nth c.R3 i)))) (HH c (P7 ds (nth c.R3 i).name) ss):=by
 have tF:=yw c ds ss (nth c.R3 i).name;have p61:=NW c (P7 ds (nth c.R3 i).name) ss (nth c.R3 i).source;have b1:=Bk ss (nth c.R3 i).source
 suffices h:Pq A 154 [.ptr 5 0,.d (num i)] (HH c ds ss) lW fun v H1=>v= .d (num (KI c ss ds (nth c.R3 i)))/\H1=HH c (P7 ds (nth c.R3 i).name) ss by
  obtain ⟨v,H1,⟨rfl,rfl⟩,h⟩:=h;exact h
 generalize hx:nth c.R3 i=x at *
 unfold HH at *
 refine Pq.run (b:=6) [.ptr 5 0,.d (num i),.any,.any,.any,.any,.any] rfl rfl rfl rfl rfl ?_;refine gr ?_;rw [hx]
 repeat' (first|refine c0 tF rfl (h2:= ?_)|refine gx ?_|fail)
 refine tb (!s9 (R7 ds x.name) 0) (fun h1=> ?_) (fun h1=> ?_)
 .refine gr ?_
  exact ⟨_,_,rfl,by unfold KI;rw [h1];rfl,rfl⟩
 repeat' (first|refine c1 p61 rfl ?_|refine gx ?_|fail)
 refine tb (E4 (I9 x.source (ss.map (·.1)) 0 - c.j9.length) 0) (fun h2=> ?_) (fun h2=> ?_)
 .refine gr ?_
  exact ⟨_,_,rfl,by unfold KI;rw [h1,h2];rfl,rfl⟩
 have h3:=A3 h2;have h4:=hg (I9 x.source (ss.map (·.1)) 0 - c.j9.length).toNat (by omega);have hrv:nth c.views (I9 x.source (ss.map (·.1)) 0 - c.j9.length).toNat=rlV c ss x:=rfl;refine gr ?_;rw [hrv] at h4 ⊢;refine gr ?_;refine tB (!s9 (rlV c ss x).kind 1|| !s9 (nth (rlV c ss x).D5 0).func 0|| !q8 x.thr 1 1024) ?_ (fun h5=> ?_) (fun h5=> ?_)
 .repeat' (first|refine cl (pX _ _ _) ?_|refine gx ?_|refine fk (h1:=fun hw=> ?_) (h2:=fun hw=> ?_)|refine U1 (h1:=fun hw=> ?_) (h2:=fun hw=> ?_)|refine ⟨rfl,rfl,_,rfl,?_⟩|refine ⟨rfl,rfl⟩|fail)
  all_goals exact cc
 .refine gr ?_
  exact ⟨_,_,rfl,by unfold KI;rw [h1,h2,h5];rfl,rfl⟩
 .refine gr ?_
  exact ⟨_,_,rfl,by unfold KI;rw [h1,h2,h5];rfl,rfl⟩
set_option maxHeartbeats 4000000 in
def bF6 [Inhabited XO] (c:r9)(ds:List K4)(ss:List gj)(i:Nat)(hi:i<c.V3.length)(hc:c.j9.length<=1000)(hx1:(nth c.V3 i).tables.length<=1000):Pm A 156 [.ptr 5 0,.d (num i)] (HH c ds ss) lW (.d (num (bkM c ss ds (nth c.V3 i)))) (HH c (P7 ds (nth c.V3 i).name) ss):=by
 have tF:=yw c ds ss (nth c.V3 i).name;have aD6:∀ s,Pm A 223 [.ptr 5 0,.d (.str s)] (HH c (P7 ds (nth c.V3 i).name) ss) lR (.d (.bool (nX c ss s))) (HH c (P7 ds (nth c.V3 i).name) ss):=fun s=>ar4 c (P7 ds (nth c.V3 i).name) ss s hc
 suffices h:Pq A 156 [.ptr 5 0,.d (num i)] (HH c ds ss) lW fun v H1=>v= .d (num (bkM c ss ds (nth c.V3 i)))/\H1=HH c (P7 ds (nth c.V3 i).name) ss by
  obtain ⟨v,H1,⟨rfl,rfl⟩,h⟩:=h;exact h
 generalize hx:nth c.V3 i=x at *
 unfold HH at *
 refine Pq.run (b:=6) [.ptr 5 0,.d (num i),.any,.any,.any,.any,.any,.any,.any,.any] rfl rfl rfl rfl rfl ?_;refine gr ?_;rw [hx]
 repeat' (first|refine c0 tF rfl (h2:= ?_)|refine gx ?_|fail)
 refine tb (!s9 (R7 ds x.name) 0) (fun h1=> ?_) (fun h1=> ?_)
 .refine gr ?_
  exact ⟨_,_,rfl,by unfold bkM;rw [h1];rfl,rfl⟩
 refine gr ?_;refine tB (s9 x.tables.length 0|| !q8 x.keep 1 1048576) ?_ (fun h2=> ?_) (fun h2=> ?_)
 .repeat' (first|refine cl (pX _ _ _) ?_|refine gx ?_|refine fk (h1:=fun hw=> ?_) (h2:=fun hw=> ?_)|refine U1 (h1:=fun hw=> ?_) (h2:=fun hw=> ?_)|refine ⟨rfl,rfl,_,rfl,?_⟩|refine ⟨rfl,rfl⟩|fail)
  all_goals exact cc
 .refine gr ?_
  exact ⟨_,_,rfl,by unfold bkM;rw [h1,h2];rfl,rfl⟩
 refine gr ?_;refine Ex.I7 (fun k T H=>∃ (j:Nat) (w1 w2 w4 w5 w6:c8),T=[.ptr 5 0,w1,w2,.ptr 6 0,w4,w5,w6,.d (B0 (fun s=>[.str s]) x.tables),.d (num x.tables.length),.d (num j)]/\H=[xa,xo,.cells (c.enc.map .d),.map (dmap (P7 ds x.name)),.map (fO (ss.map (·.1)) 0),.cells (c.enc.map .d++[.map 3,.map 4,E7 2 Z2 ss]),.cells (x.enc.map .d)]/\j+k=x.tables.length/\bkM c ss ds x=bkL c ss (x.tables.take j) (x.tables.drop j)) (by rintro _ _ _ ⟨_,_,_,_,_,_,_,rfl,_⟩;rfl) ?_ (k:=x.tables.length) ⟨0,_,_,_,_,_,rfl,rfl,by simp,by simp [bkM,h1,h2]⟩;rintro k _ _ ⟨j,w1,w2,w4,w5,w6,rfl,rfl,hk,hj⟩;refine Ex.nT ?_;refine Ex.seq ?_;refine tb (E4 j x.tables.length) (fun h3=> ?_) (fun h3=> ?_)
 .have h4:=A6 h3
  rw [D3 (by omega)] at hj;have bH1:=aD6 (nth x.tables j);have bH2:=aq5 (x.tables.take j) (nth x.tables j) (by simp;omega);refine gr ?_;refine tB (!nX c ss (nth x.tables j)) ?_ (fun h5=> ?_) (fun h5=> ?_)
  .repeat' (first|refine c1 bH1 rfl ?_|refine gx ?_|refine fk (h1:=fun hw=> ?_) (h2:=fun hw=> ?_)|refine U1 (h1:=fun hw=> ?_) (h2:=fun hw=> ?_)|refine ⟨rfl,rfl,_,rfl,?_⟩|refine ⟨rfl,rfl⟩|fail)
   all_goals exact cc
  .refine gr ?_
   exact ⟨_,_,rfl,by rw [hj];unfold bkL;rw [h5];rfl,rfl⟩
  refine gr ?_;refine tB ((x.tables.take j).any fun y=>O1 y (nth x.tables j)) ?_ (fun h6=> ?_) (fun h6=> ?_)
  .repeat' (first|refine cl (bH2) ?_|refine gx ?_|refine fk (h1:=fun hw=> ?_) (h2:=fun hw=> ?_)|refine U1 (h1:=fun hw=> ?_) (h2:=fun hw=> ?_)|refine ⟨rfl,rfl,_,rfl,?_⟩|refine ⟨rfl,rfl⟩|fail)
   all_goals exact cc
  .refine gr ?_
   exact ⟨_,_,rfl,by rw [hj];unfold bkL;rw [h5,h6];rfl,rfl⟩
  .refine gr ?_
   refine ⟨k - 1,by omega,j+1,_,_,_,_,_,rfl,rfl,by omega,?_⟩;rw [hj,H9 (by omega)];simp only [bkL,h5,h6,j4,if_false]
 .have h4:=A3 h3
  rw [l6 (by omega)] at hj;refine gr ?_;exact ⟨_,_,rfl,by rw [hj];rfl,rfl⟩
end Go.Proofs.YtibjocmpkoepoaaGreat


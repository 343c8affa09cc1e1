import Derived.Test.YtibjocmpkoepoaaGreatD4
set_option linter.all false
open Bool renaming false_eq_true→j4,true→W,false→F
open List renaming drop_of_length_le→n9,length_map→A7,take_of_length_le→z7,length→O
open Option renaming some→J,none→K
namespace Go.Proofs.YtibjocmpkoepoaaGreat
open Go.A1 Go.A1.S
attribute [local irreducible] Rx Ry Rn Ex Pf
structure XO where
 a:y6
 b:y6
 ha:a.L7=0
 hb:b.L7=0
abbrev xa [Inhabited XO]:y6:=(default:XO).a
abbrev xo [Inhabited XO]:y6:=(default:XO).b
abbrev gU:=M3×List M3×List Int
def aG (s:gU):List A1.Data:=[C6 encS s.2.1,ints s.2.2]
def HH [Inhabited XO] (c:s5)(ds:List M3)(ss:List gU):q6 :=
 [xa,xo,.cells (c.enc.map .d),.map (dmap ds),.map (gI (ss.map (·.1)) 0),.cells (c.enc.map .d++[.map 3,.map 4,D9 2 aG ss])]
def lW:I7:=⟨0,0,6,6⟩
def lR:I7:=⟨0,6,6,6⟩
theorem Hr (s:M3):∀(l:List M3) (i:Nat),cT .s (.str s) (gI l i)=J (if F6 (K9 s l i) 0 then K else J (.d (Z (K9 s l i))))
 |[],i=>by simp [gI,cT,K9,s9]
 |d::l,i=>by
  have h1:=Hr s l (i+1);have h2:(s==d)=P8 d s:=by
   rw [D2,Bool.eq_iff_iff];simp only [beq_iff_eq];exact eq_comm
  simp only [gI,cT,Data.eM,K9,h2]
  by_cases hb:P8 d s=W
  .simp [hb,s9,Z]
  .have hb' :P8 d s=F:=by simpa using hb
   simp only [hb',j4,if_false];exact h1
def Re [Inhabited XO] (c:s5)(ds:List M3)(ss:List gU)(s:M3):Pm A 125 [.ptr 5 0,.d (.str s)] (HH c ds ss) lR (.d (Z (K9 s (ss.map (·.1)) 0))) (HH c ds ss):=by
 have hf:=Hr s (ss.map (·.1)) 0
 suffices h:Pq A 125 [.ptr 5 0,.d (.str s)] (HH c ds ss) lR λv H1=>v= .d (Z (K9 s (ss.map (·.1)) 0))/\H1=HH c ds ss by
  obtain ⟨v,H1,⟨rfl,rfl⟩,h⟩:=h;exact h
 unfold HH;refine Pq.go 3 ?_;cases h1:F6 (K9 s (ss.map (·.1)) 0) 0 with
 |true =>
  rw [h1,if_pos rfl] at hf;have h2:=C4 h1;have h3:K9 s (ss.map (·.1)) 0= -1:=by rcases iF s (ss.map (·.1)) 0 with h|h<;>omega
  repeat' (first|refine lk2 hf rfl rfl ?_|refine gx ?_|fail)
  refine tb (F) (λh4=>?_) (λh4=>?_)
  .cases h4
  refine gr ?_;exact ⟨_,_,rfl,by rw [h3];rfl,rfl⟩
 |false =>
  rw [h1,if_neg U] at hf
  repeat' (first|refine lk2 hf rfl rfl ?_|refine gx ?_|fail)
  refine tb (W) (λh4=>?_) (λh4=>?_)
  .refine gr ?_
   exact ⟨_,_,rfl,rfl,rfl⟩
  .cases h4
def ce9 [Inhabited XO] (c:s5)(ds:List M3)(ss:List gU)(n:Int):Pm A 173 [.ptr 5 0,.d (Z n)] (HH c ds ss) lR (.d (.bool (cg 0 n&&F6 n (O ss)))) (HH c ds ss):=by
 suffices h:Pq A 173 [.ptr 5 0,.d (Z n)] (HH c ds ss) lR λv H1=>v= .d (.bool (cg 0 n&&F6 n (O ss)))/\H1=HH c ds ss by
  obtain ⟨v,H1,⟨rfl,rfl⟩,h⟩:=h;exact h
 unfold HH;refine Pq.go 1 ?_
 repeat' (first|refine gy ?_|refine fq (λhw=>?_) λhw=>?_|refine ⟨_,rfl,?_⟩|fail)
 all_goals exact ⟨_,_,rfl,by simp [*,j3],rfl⟩
def pM (c:s5)(ss:List gU)(s:M3):Bool:=s7 (K9 s (ss.map (·.1)) 0) 0 (O c.k9 - 1)
def aN2 [Inhabited XO] (c:s5)(ds:List M3)(ss:List gU)(s:M3)(hc:O c.k9<=1000):Pm A 223 [.ptr 5 0,.d (.str s)] (HH c ds ss) lR (.d (.bool (pM c ss s))) (HH c ds ss):=by
 have p1:=Re c ds ss s
 suffices h:Pq A 223 [.ptr 5 0,.d (.str s)] (HH c ds ss) lR λv H1=>v= .d (.bool (pM c ss s))/\H1=HH c ds ss by
  obtain ⟨v,H1,⟨rfl,rfl⟩,h⟩:=h;exact h
 unfold HH at p1 ⊢;refine Pq.go 1 ?_
 repeat' (first|refine c1 p1 rfl ?_|refine cl (rJ _ _ _) ?_|refine gx ?_|fail)
 exact ⟨_,_,rfl,rfl,rfl⟩
def T3 (ds:List M3)(s:M3):Int:=if !M8 s then 3 else if ds.any λy=>P8 y s then 4 else 0
def R6 (ds:List M3)(s:M3):List M3:=if u7 (T3 ds s) 0 then ds++[s] else ds
def Ay [Inhabited XO] (c:s5)(ds:List M3)(ss:List gU)(s:M3):Pm A 209 [.ptr 5 0,.d (.str s)] (HH c ds ss) lW (.d (Z (T3 ds s))) (HH c (R6 ds s) ss):=by
 have hf:=GN s ds
 suffices h:Pq A 209 [.ptr 5 0,.d (.str s)] (HH c ds ss) lW λv H1=>v= .d (Z (T3 ds s))/\H1=HH c (R6 ds s) ss by
  obtain ⟨v,H1,⟨rfl,rfl⟩,h⟩:=h;exact h
 unfold HH;refine Pq.go 1 ?_;have h10:u7 3 0=F:=by simp [o8]
 have h11:u7 4 0=F:=by simp [o8]
 have h12:u7 0 0=W:=by simp [o8]
 refine gr ?_;refine tc (!M8 s) ad3 (λh1=>?_) (λh1=>?_)
 .refine gr ?_
  have e1:T3 ds s=3:=by unfold T3;rw [h1];rfl
  exact ⟨_,_,rfl,by rw [e1];rfl,by unfold R6;rw [e1,h10];rfl⟩
 cases h2:ds.any λy=>P8 y s with
 |true =>
  rw [h2,if_pos rfl] at hf;have e1:T3 ds s=4:=by unfold T3;rw [h1,h2];rfl
  refine tB (W) ?_ (λh3=>?_) (λh3=>?_)
  .repeat' (first|refine lk1 hf rfl ?_|refine gx ?_|refine fq (λhw=>?_) λhw=>?_|refine ⟨rfl,rfl,_,rfl,?_⟩|refine ⟨rfl,rfl⟩|fail)
   all_goals exact cc
  .refine gr ?_
   exact ⟨_,_,rfl,by rw [e1];rfl,by unfold R6;rw [e1,h11];rfl⟩
  .cases h3
 |false =>
  rw [h2,if_neg U] at hf;have e1:T3 ds s=0:=by unfold T3;rw [h1,h2];rfl
  have hk:Data.eM .s (.str s) (.str s)=J W:=by simp [Data.eM]
  refine tB (F) ?_ (λh3=>?_) (λh3=>?_)
  .repeat' (first|refine lk1 hf rfl ?_|refine gx ?_|refine fq (λhw=>?_) λhw=>?_|refine ⟨rfl,rfl,_,rfl,?_⟩|refine ⟨rfl,rfl⟩|fail)
   all_goals exact cc
  .cases h3
  repeat' (first|refine mp (LN s ds h2) hk (h2:=?_)|refine gx ?_|fail)
  exact ⟨_,_,rfl,by rw [e1];rfl,by unfold R6;rw [e1,h12];rfl⟩
def Sr (nm:List M3)(ty:List Int):c8:= .agg [.d (C6 encS nm),.d (ints ty)]
def ae1 [Inhabited XO] (c:s5)(ds:List M3)(ss:List gU)(s:M3)(nm:List M3)(ty:List Int)(hs:((ss.map (·.1)).any λy=>P8 y s)=F)(hl:O ss<=1000) :
  Pm A 212 [.ptr 5 0,.d (.str s),Sr nm ty] (HH c ds ss) lW (.tuple []) (HH c ds (ss++[(s,nm,ty)])):=by
 have hput:=MQ s (ss.map (·.1)) 0 hs;rw [A7,Nat.zero_add] at hput;have hk:Data.eM .s (.str s) (.str s)=J W:=by simp [Data.eM]
 have hr:roomFor (O ss+1) 48=W:=by simp only [roomFor,decide_eq_true_eq];omega
 suffices h:Pq A 212 [.ptr 5 0,.d (.str s),Sr nm ty] (HH c ds ss) lW λv H1=>v= .tuple []/\H1=HH c ds (ss++[(s,nm,ty)]) by
  obtain ⟨v,H1,⟨rfl,rfl⟩,h⟩:=h;exact h
 unfold HH;refine Pq.go 1 ?_
 repeat' (first|refine mp hput hk (h2:=?_)|refine o2 ?_|refine ac2 (a:=(s,nm,ty)) (xs:=ss) (enc:=aG) hr rfl (h2:=?_)|refine soO (h2:=?_)|refine gx ?_|fail)
 refine ⟨_,_,rfl,rfl,?_⟩;have e:((ss++[(s,nm,ty)]).map (·.1))=ss.map (·.1)++[s]:=U
 rw [e];rfl
def ot (ss:List gU)(s:M3)(col:Int):Int×Int :=
 if F6 (K9 s (ss.map (·.1)) 0) 0 then (0,7)
 else if !s7 col 0 (O (Y ss (K9 s (ss.map (·.1)) 0).toNat).2.2 - 1) then (0,3)
 else (Y (Y ss (K9 s (ss.map (·.1)) 0).toNat).2.2 col.toNat,0)
def Dw (ss:List gU)(s:M3):K9 s (ss.map (·.1)) 0= -1\/(0<=K9 s (ss.map (·.1)) 0/\K9 s (ss.map (·.1)) 0<O ss):=by
 rcases iF s (ss.map (·.1)) 0 with h|h
 .exact Or.inl h
 .right;simp at h;omega
def ae2 [Inhabited XO] (c:s5)(ds:List M3)(ss:List gU)(s:M3)(col:Int)(uZ:∀k,k<O ss->O (Y ss k).2.2<=100000):Pm A 222 [.ptr 5 0,.d (.str s),.d (Z col)] (HH c ds ss) lR (.tuple [.d (Z (ot ss s col).1),.d (Z (ot ss s col).2)]) (HH c ds ss):=by
 have p1:=Re c ds ss s;have b1:=Dw ss s
 suffices h:Pq A 222 [.ptr 5 0,.d (.str s),.d (Z col)] (HH c ds ss) lR λv H1=>v= .tuple [.d (Z (ot ss s col).1),.d (Z (ot ss s col).2)]/\H1=HH c ds ss by
  obtain ⟨v,H1,⟨rfl,rfl⟩,h⟩:=h;exact h
 unfold HH at p1 ⊢;refine Pq.go 4 ?_
 repeat' (first|refine c1 p1 rfl ?_|refine gx ?_|fail)
 refine tb (F6 (K9 s (ss.map (·.1)) 0) 0) (λh1=>?_) (λh1=>?_)
 .refine gr ?_
  exact ⟨_,_,rfl,by unfold ot;rw [h1];rfl,rfl⟩
 have h2:=B5 h1;have h3:=uZ (K9 s (ss.map (·.1)) 0).toNat V;refine gr ?_;refine tc (!s7 col 0 (O (Y ss (K9 s (ss.map (·.1)) 0).toNat).2.2 - 1)) rJ (λh4=>?_) (λh4=>?_)
 .refine gr ?_
  exact ⟨_,_,rfl,by unfold ot;rw [h1,h4];rfl,rfl⟩
 have h5:=h4;simp [s7,s8] at h5;refine gr ?_;exact ⟨_,_,rfl,by unfold ot;rw [h1,h4];rfl,rfl⟩
def tW (x:M3):List M3->Nat->Int
 |[],_=> -1
 |y::r,i=>if P8 x y then i else tW x r (i+1)
theorem GR (x:M3):∀(l:List M3) (i:Nat),cg 0 (tW x l i)=l.any λy=>P8 y x
 |[],i=>by simp [tW,s8]
 |y::r,i=>by
  have h1:=GR x r (i+1);have h2:P8 x y=P8 y x:=by simp [D2];grind
  grind [tW,P8,s8]
def bv9 (xs:List M3)(x:M3)(hx:O xs<=100000):Pf A 260 [.d (C6 encS xs),.d (.str x)] (.d (Z (tW x xs 0))):=by
 refine Pf.gr 4 ?_;refine Ex.T9 (λk T H=>∃(i:Nat),T=[.d (C6 encS xs),.d (.str x),.any,.any,.d (Z (O xs)),.d (Z i)]/\H=[]/\i+k=O xs/\tW x xs 0=tW x (xs.drop i) i) ?_ (k:=O xs) ⟨0,rfl,rfl,U,U⟩;rintro k _ _ ⟨i,rfl,rfl,hk,hi⟩
 repeat' (first|refine gy ?_|refine ft (λht=>?_) λht=>?_|refine ⟨_,rfl,?_⟩|fail)
 .have h1:=C4 ‹F6 i _=W›
  rw [E0 V] at hi;simp [hi,tW,ht,j3,Z]
 .have h1:=C4 ‹F6 i _=W›
  rw [E0 V] at hi;exact kk ⟨i+1,rfl,rfl,V,by simp [hi,tW,ht]⟩
 .have h1:=B5 ht
  rw [n9 V] at hi;simp [hi,tW,j3,Z]
def aM3 (xs:List M3)(x:M3)(hx:O xs<=100000):Pf A 224 [.d (C6 encS xs),.d (.str x)] (.d (.bool (xs.any λy=>P8 y x))):=by
 rw [<- GR x xs 0];refine Pf.go 1 ?_;refine gc (bv9 xs x hx) ?_;exact ⟨_,rfl,rfl⟩
def Gk (x:Int):List Int->Nat->Int
 |[],_=> -1
 |y::r,i=>if u7 x y then i else Gk x r (i+1)
theorem LP (x:Int):∀(l:List Int) (i:Nat),cg 0 (Gk x l i)=l.any λy=>u7 y x
 |[],i=>by simp [Gk,s8]
 |y::r,i=>by
  have h1:=LP x r (i+1);have h2:u7 x y=u7 y x:=by simp [o8];grind
  grind [Gk,u7,s8]
def ce1 (xs:List Int)(x:Int)(hx:O xs<=100000):Pf A 278 [.d (C6 (λn=>[Z n]) xs),.d (Z x)] (.d (Z (Gk x xs 0))):=by
 refine Pf.gr 4 ?_;refine Ex.T9 (λk T H=>∃(i:Nat),T=[.d (C6 (λn=>[Z n]) xs),.d (Z x),.any,.any,.d (Z (O xs)),.d (Z i)]/\H=[]/\i+k=O xs/\Gk x xs 0=Gk x (xs.drop i) i) ?_ (k:=O xs) ⟨0,rfl,rfl,U,U⟩;rintro k _ _ ⟨i,rfl,rfl,hk,hi⟩
 repeat' (first|refine gy ?_|refine ft (λht=>?_) λht=>?_|refine ⟨_,rfl,?_⟩|fail)
 .have h1:=C4 ‹F6 i _=W›
  rw [E0 V] at hi;simp [hi,Gk,ht,j3,Z]
 .have h1:=C4 ‹F6 i _=W›
  rw [E0 V] at hi;exact kk ⟨i+1,rfl,rfl,V,by simp [hi,Gk,ht]⟩
 .have h1:=B5 ht
  rw [n9 V] at hi;simp [hi,Gk,j3,Z]
def cd7 (xs:List Int)(x:Int)(hx:O xs<=100000):Pf A 253 [.d (C6 (λn=>[Z n]) xs),.d (Z x)] (.d (.bool (xs.any λy=>u7 y x))):=by
 rw [<- LP x xs 0];refine Pf.go 1 ?_;refine gc (ce1 xs x hx) ?_;exact ⟨_,rfl,rfl⟩
def Ml (ss:List gU)(ds:List M3)(x:qh):Int:=if !u7 (T3 ds x.name) 0 then T3 ds x.name else if !u7 (ot ss x.source x.col).2 0 then (ot ss x.source x.col).2 else if !u7 (ot ss x.source x.col).1 2 then 5 else 0
def Eo (ss:List gU)(ds:List M3)(x:oO):Int:=if !u7 (T3 ds x.name) 0 then T3 ds x.name else if !u7 (ot ss x.source x.col).2 0 then (ot ss x.source x.col).2
 else if !u7 x.kind 0&& !u7 x.kind 1&& !u7 x.kind 2 then 1
 else if !s7 x.width 1 1024|| !s7 x.depth 1 8||(u7 x.kind 2&& !u7 x.depth 1)||F6 1024 (x.width * x.depth) then 1 else 0
def Lx (ss:List gU)(ds:List M3)(x:sV):Int:=if !u7 (T3 ds x.name) 0 then T3 ds x.name else if !u7 (ot ss x.source x.col).2 0 then (ot ss x.source x.col).2 else if !s7 x.ttl 1 1048576 then 1 else 0
def RH (c:s5)(ss:List gU)(ds:List M3)(x:vL):Int:=if !u7 (T3 ds x.name) 0 then T3 ds x.name else if !pM c ss x.table then 7 else 0
set_option maxHeartbeats 4000000 in
def cf3 [Inhabited XO] (c:s5)(ds:List M3)(ss:List gU)(i:Nat)(hi:i<O c.idxs)(uZ:∀k,k<O ss->O (Y ss k).2.2<=100000):Pm A 151 [.ptr 5 0,.d (Z i)] (HH c ds ss) lW (.d (Z (Ml ss ds (Y c.idxs i)))) (HH c (R6 ds (Y c.idxs i).name) ss):=by
 have vu:=Ay c ds ss (Y c.idxs i).name;have ac0:=ae2 c (R6 ds (Y c.idxs i).name) ss (Y c.idxs i).source (Y c.idxs i).col uZ
 suffices h:Pq A 151 [.ptr 5 0,.d (Z i)] (HH c ds ss) lW λv H1=>v= .d (Z (Ml ss ds (Y c.idxs i)))/\H1=HH c (R6 ds (Y c.idxs i).name) ss by
  obtain ⟨v,H1,⟨rfl,rfl⟩,h⟩:=h;exact h
 generalize hx:Y c.idxs i=x at *
 unfold HH at *
 refine Pq.go 5 ?_;refine gr ?_;rw [hx]
 repeat' (first|refine c0 vu rfl (h2:=?_)|refine gx ?_|fail)
 refine tb (!u7 (T3 ds x.name) 0) (λh1=>?_) (λh1=>?_)
 .refine gr ?_
  exact ⟨_,_,rfl,by unfold Ml;rw [h1];rfl,rfl⟩
 repeat' (first|refine c1 ac0 rfl ?_|refine gx ?_|fail)
 refine tb (!u7 (ot ss x.source x.col).2 0) (λh2=>?_) (λh2=>?_)
 .refine gr ?_
  exact ⟨_,_,rfl,by unfold Ml;rw [h1,h2];rfl,rfl⟩
 refine gr ?_;refine tb (!u7 (ot ss x.source x.col).1 2) (λh3=>?_) (λh3=>?_)
 .refine gr ?_
  exact ⟨_,_,rfl,by unfold Ml;rw [h1,h2,h3];rfl,rfl⟩
 .refine gr ?_
  exact ⟨_,_,rfl,by unfold Ml;rw [h1,h2,h3];rfl,rfl⟩
set_option maxHeartbeats 4000000 in
def cf5 [Inhabited XO] (c:s5)(ds:List M3)(ss:List gU)(i:Nat)(hi:i<O c.P3)(uZ:∀k,k<O ss->O (Y ss k).2.2<=100000):Pm A 153 [.ptr 5 0,.d (Z i)] (HH c ds ss) lW (.d (Z (Lx ss ds (Y c.P3 i)))) (HH c (R6 ds (Y c.P3 i).name) ss):=by
 have vu:=Ay c ds ss (Y c.P3 i).name;have ac0:=ae2 c (R6 ds (Y c.P3 i).name) ss (Y c.P3 i).source (Y c.P3 i).col uZ
 suffices h:Pq A 153 [.ptr 5 0,.d (Z i)] (HH c ds ss) lW λv H1=>v= .d (Z (Lx ss ds (Y c.P3 i)))/\H1=HH c (R6 ds (Y c.P3 i).name) ss by
  obtain ⟨v,H1,⟨rfl,rfl⟩,h⟩:=h;exact h
 generalize hx:Y c.P3 i=x at *
 unfold HH at *
 refine Pq.go 4 ?_;refine gr ?_;rw [hx]
 repeat' (first|refine c0 vu rfl (h2:=?_)|refine gx ?_|fail)
 refine tb (!u7 (T3 ds x.name) 0) (λh1=>?_) (λh1=>?_)
 .refine gr ?_
  exact ⟨_,_,rfl,by unfold Lx;rw [h1];rfl,rfl⟩
 repeat' (first|refine c1 ac0 rfl ?_|refine gx ?_|fail)
 refine tb (!u7 (ot ss x.source x.col).2 0) (λh2=>?_) (λh2=>?_)
 .refine gr ?_
  exact ⟨_,_,rfl,by unfold Lx;rw [h1,h2];rfl,rfl⟩
 refine gr ?_;refine tc (!s7 x.ttl 1 1048576) rJ (λh3=>?_) (λh3=>?_)
 .refine gr ?_
  exact ⟨_,_,rfl,by unfold Lx;rw [h1,h2,h3];rfl,rfl⟩
 .refine gr ?_
  exact ⟨_,_,rfl,by unfold Lx;rw [h1,h2,h3];rfl,rfl⟩
set_option maxHeartbeats 4000000 in
def cf7 [Inhabited XO] (c:s5)(ds:List M3)(ss:List gU)(i:Nat)(hi:i<O c.U0)(hc:O c.k9<=1000):Pm A 155 [.ptr 5 0,.d (Z i)] (HH c ds ss) lW (.d (Z (RH c ss ds (Y c.U0 i)))) (HH c (R6 ds (Y c.U0 i).name) ss):=by
 have vu:=Ay c ds ss (Y c.U0 i).name;have ba1:=aN2 c (R6 ds (Y c.U0 i).name) ss (Y c.U0 i).table hc
 suffices h:Pq A 155 [.ptr 5 0,.d (Z i)] (HH c ds ss) lW λv H1=>v= .d (Z (RH c ss ds (Y c.U0 i)))/\H1=HH c (R6 ds (Y c.U0 i).name) ss by
  obtain ⟨v,H1,⟨rfl,rfl⟩,h⟩:=h;exact h
 generalize hx:Y c.U0 i=x at *
 unfold HH at *
 refine Pq.go 3 ?_;refine gr ?_;rw [hx]
 repeat' (first|refine c0 vu rfl (h2:=?_)|refine gx ?_|fail)
 refine tb (!u7 (T3 ds x.name) 0) (λh1=>?_) (λh1=>?_)
 .refine gr ?_
  exact ⟨_,_,rfl,by unfold RH;rw [h1];rfl,rfl⟩
 refine gr ?_;refine tB (!pM c ss x.table) ?_ (λh2=>?_) (λh2=>?_)
 .repeat' (first|refine c1 ba1 rfl ?_|refine gx ?_|refine fq (λhw=>?_) λhw=>?_|refine ⟨rfl,rfl,_,rfl,?_⟩|refine ⟨rfl,rfl⟩|fail)
  all_goals exact cc
 .refine gr ?_
  exact ⟨_,_,rfl,by unfold RH;rw [h1,h2];rfl,rfl⟩
 .refine gr ?_
  exact ⟨_,_,rfl,by unfold RH;rw [h1,h2];rfl,rfl⟩
set_option maxHeartbeats 4000000 in
def cf4 [Inhabited XO] (c:s5)(ds:List M3)(ss:List gU)(i:Nat)(hi:i<O c.O1)(uZ:∀k,k<O ss->O (Y ss k).2.2<=100000):Pm A 152 [.ptr 5 0,.d (Z i)] (HH c ds ss) lW (.d (Z (Eo ss ds (Y c.O1 i)))) (HH c (R6 ds (Y c.O1 i).name) ss):=by
 have vu:=Ay c ds ss (Y c.O1 i).name;have ac0:=ae2 c (R6 ds (Y c.O1 i).name) ss (Y c.O1 i).source (Y c.O1 i).col uZ
 suffices h:Pq A 152 [.ptr 5 0,.d (Z i)] (HH c ds ss) lW λv H1=>v= .d (Z (Eo ss ds (Y c.O1 i)))/\H1=HH c (R6 ds (Y c.O1 i).name) ss by
  obtain ⟨v,H1,⟨rfl,rfl⟩,h⟩:=h;exact h
 generalize hx:Y c.O1 i=x at *
 unfold HH at *
 refine Pq.go 4 ?_;refine gr ?_;rw [hx]
 repeat' (first|refine c0 vu rfl (h2:=?_)|refine gx ?_|fail)
 refine tb (!u7 (T3 ds x.name) 0) (λh1=>?_) (λh1=>?_)
 .refine gr ?_
  exact ⟨_,_,rfl,by unfold Eo;rw [h1];rfl,rfl⟩
 repeat' (first|refine c1 ac0 rfl ?_|refine gx ?_|fail)
 refine tb (!u7 (ot ss x.source x.col).2 0) (λh2=>?_) (λh2=>?_)
 .refine gr ?_
  exact ⟨_,_,rfl,by unfold Eo;rw [h1,h2];rfl,rfl⟩
 refine gr ?_;refine tb (!u7 x.kind 0&& !u7 x.kind 1&& !u7 x.kind 2) (λh3=>?_) (λh3=>?_)
 .refine gr ?_
  exact ⟨_,_,rfl,by unfold Eo;rw [h1,h2,h3];rfl,rfl⟩
 refine gr ?_;cases hW:s7 x.width 1 1024 with
 |false =>
  refine tB (W) ?_ (λh4=>?_) (λh4=>?_)
  .repeat' (first|refine cl (rJ _ _ _) ?_|refine gx ?_|refine fq (λhw=>?_) λhw=>?_|refine ⟨rfl,rfl,_,rfl,?_⟩|refine ⟨rfl,rfl⟩|fail)
   all_goals first|(simp [*,j3,hW];done)|(simp_all [j3,hW];done)|(simp_all [j3,hW,s9,s8,o8,D2];done)|(simp_all [j3,hW,s9,s8,o8,D2]<;>omega)
  .refine gr ?_
   exact ⟨_,_,rfl,by unfold Eo;rw [h1,h2,h3,hW];rfl,rfl⟩
  .cases h4
 |true =>
 cases hD:s7 x.depth 1 8 with
 |false =>
  refine tB (W) ?_ (λh4=>?_) (λh4=>?_)
  .repeat' (first|refine cl (rJ _ _ _) ?_|refine gx ?_|refine fq (λhw=>?_) λhw=>?_|refine ⟨rfl,rfl,_,rfl,?_⟩|refine ⟨rfl,rfl⟩|fail)
   all_goals first|(simp [*,j3,hW,hD];done)|(simp_all [j3,hW,hD];done)|(simp_all [j3,hW,hD,s9,s8,o8,D2];done)|(simp_all [j3,hW,hD,s9,s8,o8,D2]<;>omega)
  .refine gr ?_
   exact ⟨_,_,rfl,by unfold Eo;rw [h1,h2,h3,hW,hD];rfl,rfl⟩
  .cases h4
 |true =>
 have hm: -9223372036854775808<=x.width * x.depth/\x.width * x.depth<9223372036854775808:=by
  simp [s7,s8] at hW hD;have m1:=Int.mul_le_mul hW.2 hD.2 V V;have m2:=Int.mul_nonneg (a:=x.width) (b:=x.depth) V V;omega
 refine tB (!s7 x.width 1 1024|| !s7 x.depth 1 8||(u7 x.kind 2&& !u7 x.depth 1)||F6 1024 (x.width * x.depth)) ?_ (λh4=>?_) (λh4=>?_)
 .repeat' (first|refine cl (rJ _ _ _) ?_|refine mu (h0:=hm) ?_|refine gx ?_|refine fq (λhw=>?_) λhw=>?_|refine ⟨rfl,rfl,_,rfl,?_⟩|refine ⟨rfl,rfl⟩|fail)
  all_goals first|(simp [*,j3,hW,hD];done)|(simp_all [j3,hW,hD];done)|(simp_all [j3,hW,hD,s9,s8,o8,D2];done)|(simp_all [j3,hW,hD,s9,s8,o8,D2]<;>omega)
 .refine gr ?_
  exact ⟨_,_,rfl,by unfold Eo;rw [h1,h2,h3,h4];rfl,rfl⟩
 .refine gr ?_
  exact ⟨_,_,rfl,by unfold Eo;rw [h1,h2,h3,h4];rfl,rfl⟩
set_option maxHeartbeats 4000000 in
def bv5 (t:jV)(xs:List Int)(hx:O xs<=1000)(hc:O t.s6<=1000):Pf A 251 [qE t,.d (ints xs)] (.d (.bool (aU t (-1) xs))):=by
 refine Pf.gr 8 ?_;refine Ex.au (λk T H=>∃(i:Nat) (p:Int),T=[.any,.any,.ptr 0 0,.any,.d (Z p),.any,.any,.d (ints xs),.d (Z (O xs)),.d (Z i)]/\H=[.cells (t.enc.map .d)]/\i+k=O xs/\ -1<=p/\aU t (-1) xs=aU t p (xs.drop i)) ?_ (k:=O xs) ⟨0, -1,rfl,rfl,U,V,U⟩;rintro k _ _ ⟨i,p,rfl,rfl,hk,hp,hi⟩;refine Ex.seq ?_;refine tb (F6 i (O xs)) (λh1=>?_) (λh1=>?_)
 .have h2:=C4 h1
  rw [E0 V] at hi;refine gr ?_;refine tb (cg (Y xs i) p||cg (O t.s6) (Y xs i)) (λh3=>?_) (λh3=>?_)
  .refine gr ?_
   have h4:(F6 p (Y xs i)&&F6 (Y xs i) (O t.s6))=F:=by simp [s8,s9] at h3 ⊢;omega
   exact ⟨_,rfl,by rw [hi,aU,h4];rfl⟩
  have h4:F6 p (Y xs i)=W/\F6 (Y xs i) (O t.s6)=W:=by simp [s8,s9] at h3 ⊢;omega
  have h5:=C4 h4.1;have h6:=C4 h4.2;refine gr ?_;refine tb (P8 (Y t.s6 (Y xs i).toNat).space []&&P8 (Y t.s6 (Y xs i).toNat).refs []) (λh7=>?_) (λh7=>?_)
  .refine gr ?_
   exact ⟨_,rfl,by rw [hi,aU,h4.1,h4.2,h7];rfl⟩
  .refine gr ?_
   exact kk ⟨_,_,rfl,i+1,Y xs i,rfl,rfl,V,V,by rw [hi,aU,h4.1,h4.2,h7];rfl⟩
 .refine gr ?_
  have h2:=B5 h1;rw [n9 V] at hi;exact ⟨_,rfl,by rw [hi];rfl⟩
def YF (x:gu):c8:= .agg (x.enc.map .d)
def pV (t:jV)(x:gu):Bool :=
 if !u7 x.jN 0&&(!u7 x.jN 1|| !F6 0 (O x.L8)) then F
 else if !s7 x.oV 0 1048576 then F
 else if !u7 x.oV 0&& !F6 0 (O x.L8) then F
 else u7 t.cN 0||cg x.oV t.cN
set_option maxHeartbeats 4000000 in
def bv6 (t:jV)(x:gu):Pf A 252 [qE t,YF x] (.d (.bool (pV t x))):=by
 refine Pf.gr 4 ?_;refine tb (!u7 x.jN 0&&(!u7 x.jN 1|| !F6 0 (O x.L8))) (λh1=>?_) (λh1=>?_)
 .refine gr ?_
  exact ⟨_,rfl,by unfold pV;rw [h1];rfl⟩
 refine tc (!s7 x.oV 0 1048576) rJ (λh2=>?_) (λh2=>?_)
 .refine gr ?_
  exact ⟨_,rfl,by unfold pV;rw [h1,h2];rfl⟩
 refine tb (!u7 x.oV 0&& !F6 0 (O x.L8)) (λh3=>?_) (λh3=>?_)
 .refine gr ?_
  exact ⟨_,rfl,by unfold pV;rw [h1,h2,h3];rfl⟩
 repeat' (first|refine gy ?_|refine fq (λhw=>?_) λhw=>?_|refine ⟨_,rfl,?_⟩|fail)
 all_goals unfold pV
 all_goals rw [h1,h2,h3]
 all_goals simp [*,j3]
def l7:I7:=⟨0,8,8,8⟩
def by4 (a0 ax a1 a2 a3 a4 a5:y6)(x y:gu):Pm A 249 [YF y,.ptr 7 0] [a0,ax,a1,a2,a3,a4,a5,.cells (x.enc.map .d)] l7 (.d (.bool (P8 y.name x.name))) [a0,ax,a1,a2,a3,a4,a5,.cells (x.enc.map .d)]:=by
 suffices h:Pq A 249 [YF y,.ptr 7 0] [a0,ax,a1,a2,a3,a4,a5,.cells (x.enc.map .d)] l7 λv H1=>v= .d (.bool (P8 y.name x.name))/\H1=[a0,ax,a1,a2,a3,a4,a5,.cells (x.enc.map .d)] by
  obtain ⟨v,H1,⟨rfl,rfl⟩,h⟩:=h;exact h
 refine Pq.go 2 ?_;refine gr ?_;exact ⟨_,_,rfl,rfl,rfl⟩
def YX (x:gu):List gu->Nat->Int
 |[],_=> -1
 |y::r,i=>if P8 y.name x.name then i else YX x r (i+1)
theorem SE (x:gu):∀(l:List gu) (i:Nat),cg 0 (YX x l i)=l.any λy=>P8 y.name x.name
 |[],i=>by simp [YX,s8]
 |y::r,i=>by
  have h1:=SE x r (i+1);simp only [YX,List.any_cons];cases h3:P8 y.name x.name with
  |true=>simp [s8]
  |false=>simpa using h1
set_option maxHeartbeats 2000000 in
def bz0 (a0 ax a1 a2 a3 a4 a5:y6)(x:gu)(ys:List gu)(hy:O ys<=1000):Pm A 277 [.d (C6 gu.enc ys),.func 249 [] [.ptr 7 0]] [a0,ax,a1,a2,a3,a4,a5,.cells (x.enc.map .d)] l7 (.d (Z (YX x ys 0))) [a0,ax,a1,a2,a3,a4,a5,.cells (x.enc.map .d)]:=by
 suffices h:Pq A 277 [.d (C6 gu.enc ys),.func 249 [] [.ptr 7 0]] [a0,ax,a1,a2,a3,a4,a5,.cells (x.enc.map .d)] l7 λv H1=>v= .d (Z (YX x ys 0))/\H1=[a0,ax,a1,a2,a3,a4,a5,.cells (x.enc.map .d)] by
  obtain ⟨v,H1,⟨rfl,rfl⟩,h⟩:=h;exact h
 refine Pq.go 4 ?_;refine gr ?_;refine Ex.T9 (λk T H=>∃(i:Nat),T=[.d (C6 gu.enc ys),.func 249 [] [.ptr 7 0],.any,.any,.d (Z (O ys)),.d (Z i)]/\H=[a0,ax,a1,a2,a3,a4,a5,.cells (x.enc.map .d)]/\i+k=O ys/\YX x ys 0=YX x (ys.drop i) i) ?_ (k:=O ys) ⟨0,rfl,rfl,U,U⟩;rintro k _ _ ⟨i,rfl,rfl,hk,hi⟩;refine Ex.seq ?_;refine tb (F6 i (O ys)) (λh1=>?_) (λh1=>?_)
 .have h2:=C4 h1
  rw [E0 V] at hi;have p1:=by4 a0 ax a1 a2 a3 a4 a5 x (Y ys i);refine gr ?_;refine tB (P8 (Y ys i).name x.name) ?_ (λh3=>?_) (λh3=>?_)
  .repeat' (first|refine cv1 p1 rfl ?_|refine gx ?_|refine fq (λhw=>?_) λhw=>?_|refine ⟨rfl,rfl,_,rfl,?_⟩|refine ⟨rfl,rfl⟩|fail)
   all_goals exact cc
  .refine gr ?_
   exact ⟨_,_,rfl,by rw [hi,YX,h3];rfl,rfl⟩
  .refine gr ?_
   exact kk ⟨i+1,rfl,rfl,V,by rw [hi,YX,h3];rfl⟩
 .have h2:=B5 h1
  rw [n9 V] at hi;refine gr ?_;exact ⟨_,_,rfl,by rw [hi];rfl,rfl⟩
def by3 (a0 ax a1 a2 a3 a4 a5:y6)(x:gu)(ys:List gu)(hy:O ys<=1000):Pm A 248 [.d (C6 gu.enc ys),.func 249 [] [.ptr 7 0]] [a0,ax,a1,a2,a3,a4,a5,.cells (x.enc.map .d)] l7 (.d (.bool (ys.any λy=>P8 y.name x.name))) [a0,ax,a1,a2,a3,a4,a5,.cells (x.enc.map .d)]:=by
 have p1:=bz0 a0 ax a1 a2 a3 a4 a5 x ys hy;rw [<- SE x ys 0]
 suffices h:Pq A 248 [.d (C6 gu.enc ys),.func 249 [] [.ptr 7 0]] [a0,ax,a1,a2,a3,a4,a5,.cells (x.enc.map .d)] l7 λv H1=>v= .d (.bool (cg 0 (YX x ys 0)))/\H1=[a0,ax,a1,a2,a3,a4,a5,.cells (x.enc.map .d)] by
  obtain ⟨v,H1,⟨rfl,rfl⟩,h⟩:=h;exact h
 refine Pq.go 1 ?_
 repeat' (first|refine c1 p1 rfl ?_|refine gx ?_|fail)
 exact ⟨_,_,rfl,rfl,rfl⟩
def bu4 (x:gu):Pf A 214 [YF x] (.d (.str x.name)):=by
 refine Pf.gr 2 ?_;exact ⟨_,rfl,rfl⟩
def bu6 (x:gu):Pf A 216 [YF x] (.d (Z x.type)):=by
 refine Pf.gr 2 ?_;exact ⟨_,rfl,rfl⟩
set_option maxHeartbeats 2000000 in
def bu3 (xs:List gu)(hx:O xs<=1000):Pf A 213 [.d (C6 gu.enc xs),.func 214 [] []] (.d (C6 encS (xs.map gu.name))):=by
 refine Pf.gr 6 ?_;refine Ex.au (λk T H=>∃(i:Nat) (acc:List M3),T=[.any,.func 214 [] [],.any,D9 1 encS acc,.any,.d (C6 gu.enc xs),.d (Z (O xs)),.d (Z i)]/\H=[]/\i+k=O xs/\acc=(xs.take i).map gu.name) ?_ (k:=O xs) ⟨0,[],rfl,rfl,U,U⟩;rintro k _ _ ⟨i,acc,rfl,rfl,hk,hacc⟩;have hl:O acc=i:=by rw [hacc];simp;omega
 refine Ex.seq ?_;refine tl i (O xs) (λh2=>?_) (λh2=>?_)
 .have p1:=bu4 (Y xs i)
  repeat' (first|refine cv p1 ?_|refine gx ?_|fail)
  exact kk ⟨_,_,rfl,i+1,acc++[(Y xs i).name],rfl,rfl,V,by rw [E2 V,hacc];simp⟩
 .rw [z7 V] at hacc
  refine gr ?_;exact ⟨_,rfl,by rw [<- hacc];rfl⟩
set_option maxHeartbeats 2000000 in
def bu5 (xs:List gu)(hx:O xs<=1000):Pf A 215 [.d (C6 gu.enc xs),.func 216 [] []] (.d (ints (xs.map gu.type))):=by
 refine Pf.gr 6 ?_;refine Ex.au (λk T H=>∃(i:Nat) (acc:List Int),T=[.any,.func 216 [] [],.any,D9 1 (λn=>[Z n]) acc,.any,.d (C6 gu.enc xs),.d (Z (O xs)),.d (Z i)]/\H=[]/\i+k=O xs/\acc=(xs.take i).map gu.type) ?_ (k:=O xs) ⟨0,[],rfl,rfl,U,U⟩;rintro k _ _ ⟨i,acc,rfl,rfl,hk,hacc⟩;have hl:O acc=i:=by rw [hacc];simp;omega
 refine Ex.seq ?_;refine tl i (O xs) (λh2=>?_) (λh2=>?_)
 .have p1:=bu6 (Y xs i)
  repeat' (first|refine cv p1 ?_|refine gx ?_|fail)
  exact kk ⟨_,_,rfl,i+1,acc++[(Y xs i).type],rfl,rfl,V,by rw [E2 V,hacc];simp⟩
 .rw [z7 V] at hacc
  refine gr ?_;exact ⟨_,rfl,by rw [<- hacc];rfl⟩
def tL (c:s5)(ss:List gU)(t:jV)(i:Nat):Int :=
 if !M8 (Y t.s6 i).name||(!P8 (Y t.s6 i).space []&& !M8 (Y t.s6 i).space) then 3
 else if (t.s6.take i).any λy=>P8 y.name (Y t.s6 i).name then 4
 else if !P8 (Y t.s6 i).refs []&&F6 (K9 (Y t.s6 i).refs (ss.map (·.1)) 0) 0 then 7
 else if !(u7 (Y t.s6 i).type 1||u7 (Y t.s6 i).type 2)||(cg 0 (K9 (Y t.s6 i).refs (ss.map (·.1)) 0)&& !u7 (Y t.s6 i).type (Y (Y ss (K9 (Y t.s6 i).refs (ss.map (·.1)) 0).toNat).2.2 0)) then 5
 else if (!P8 (Y t.s6 i).space []&& !P8 (Y t.s6 i).refs [])|| !aU t (-1) (Y t.s6 i).L8|| !pV t (Y t.s6 i) then 1
 else if u7 i 0&&F6 0 (O (Y t.s6 i).L8)&& !u7 t.erase 1 then 1
 else if cg 0 (K9 (Y t.s6 i).refs (ss.map (·.1)) 0)&&F6 0 (O (Y (Y c.k9 (K9 (Y t.s6 i).refs (ss.map (·.1)) 0).toNat).s6 0).L8)&& !((Y t.s6 i).L8.any λy=>u7 y i) then 1
 else 0
set_option maxHeartbeats 8000000 in
def by0 [Inhabited XO] (c:s5)(ds:List M3)(ss:List gU)(t:jV)(i:Nat)(hi:i<O t.s6)(hc:O t.s6<=1000)(ho:O (Y t.s6 i).L8<=1000)(hss:O ss<=O c.k9)(ht:∀k,k<O ss->0<O (Y ss k).2.2/\0<O (Y c.k9 k).s6) :
  Pm A 211 [.ptr 5 0,qE t,.d (Z i)] (HH c ds ss) lR (.d (Z (tL c ss t i))) (HH c ds ss):=by
 have Xa:=Re c ds ss (Y t.s6 i).refs;have b1:=Dw ss (Y t.s6 i).refs;have b2:(K9 (Y t.s6 i).refs (ss.map (·.1)) 0)= -1\/(0<=(K9 (Y t.s6 i).refs (ss.map (·.1)) 0)/\(K9 (Y t.s6 i).refs (ss.map (·.1)) 0)<O ss/\0<O (Y ss (K9 (Y t.s6 i).refs (ss.map (·.1)) 0).toNat).2.2/\0<O (Y c.k9 (K9 (Y t.s6 i).refs (ss.map (·.1)) 0).toNat).s6):=by
  rcases b1 with h|h
  .exact Or.inl h
  .have:=ht (K9 (Y t.s6 i).refs (ss.map (·.1)) 0).toNat V
   exact Or.inr ⟨h.1,h.2,this.1,this.2⟩
 have ch7:=bv5 t (Y t.s6 i).L8 ho hc;have ch8:=bv6 t (Y t.s6 i);have q49:=cd7 (Y t.s6 i).L8 i V
 suffices h:Pq A 211 [.ptr 5 0,qE t,.d (Z i)] (HH c ds ss) lR λv H1=>v= .d (Z (tL c ss t i))/\H1=HH c ds ss by
  obtain ⟨v,H1,⟨rfl,rfl⟩,h⟩:=h;exact h
 unfold HH at *
 have ch6:=by3 xa xo (.cells (c.enc.map .d)) (.map (dmap ds)) (.map (gI (ss.map (·.1)) 0)) (.cells (c.enc.map .d++[.map 3,.map 4,D9 2 aG ss])) (.cells (t.enc.map .d)) (Y t.s6 i) (t.s6.take i) D;refine Pq.go 5 ?_;refine gr ?_;refine tc (!M8 (Y t.s6 i).name||(!P8 (Y t.s6 i).space []&& !M8 (Y t.s6 i).space)) ad3 (λh1=>?_) (λh1=>?_)
 .refine gr ?_
  exact ⟨_,_,rfl,by unfold tL;rw [h1];rfl,rfl⟩
 refine gr ?_;refine tB ((t.s6.take i).any λy=>P8 y.name (Y t.s6 i).name) ?_ (λh2=>?_) (λh2=>?_)
 .repeat' (first|refine c1 ch6 rfl ?_|refine gx ?_|refine fq (λhw=>?_) λhw=>?_|refine ⟨rfl,rfl,_,rfl,?_⟩|refine ⟨rfl,rfl⟩|fail)
  all_goals exact cc
 .refine gr ?_
  exact ⟨_,_,rfl,by unfold tL;rw [h1,h2];rfl,rfl⟩
 repeat' (first|refine c1 Xa rfl ?_|refine gx ?_|fail)
 refine tb (!P8 (Y t.s6 i).refs []&&F6 (K9 (Y t.s6 i).refs (ss.map (·.1)) 0) 0) (λh3=>?_) (λh3=>?_)
 .refine gr ?_
  exact ⟨_,_,rfl,by unfold tL;rw [h1,h2,h3];rfl,rfl⟩
 refine gr ?_;refine tc (!(u7 (Y t.s6 i).type 1||u7 (Y t.s6 i).type 2)||(cg 0 (K9 (Y t.s6 i).refs (ss.map (·.1)) 0)&& !u7 (Y t.s6 i).type (Y (Y ss (K9 (Y t.s6 i).refs (ss.map (·.1)) 0).toNat).2.2 0))) bv4 (λh4=>?_) (λh4=>?_)
 .refine gr ?_
  exact ⟨_,_,rfl,by unfold tL;rw [h1,h2,h3,h4];rfl,rfl⟩
 refine gr ?_;refine tc ((!P8 (Y t.s6 i).space []&& !P8 (Y t.s6 i).refs [])|| !aU t (-1) (Y t.s6 i).L8|| !pV t (Y t.s6 i)) (And.intro ch7 ch8) (λh5=>?_) (λh5=>?_)
 .refine gr ?_
  exact ⟨_,_,rfl,by unfold tL;rw [h1,h2,h3,h4,h5];rfl,rfl⟩
 refine gr ?_;refine tb (u7 i 0&&F6 0 (O (Y t.s6 i).L8)&& !u7 t.erase 1) (λh6=>?_) (λh6=>?_)
 .refine gr ?_
  exact ⟨_,_,rfl,by unfold tL;rw [h1,h2,h3,h4,h5,h6];rfl,rfl⟩
 refine gr ?_;refine tc (cg 0 (K9 (Y t.s6 i).refs (ss.map (·.1)) 0)&&F6 0 (O (Y (Y c.k9 (K9 (Y t.s6 i).refs (ss.map (·.1)) 0).toNat).s6 0).L8)&& !((Y t.s6 i).L8.any λy=>u7 y i)) q49 (λh7=>?_) (λh7=>?_)
 .refine gr ?_
  exact ⟨_,_,rfl,by unfold tL;rw [h1,h2,h3,h4,h5,h6,h7];rfl,rfl⟩
 refine gr ?_;exact ⟨_,_,rfl,by unfold tL;rw [h1,h2,h3,h4,h5,h6,h7];rfl,rfl⟩
def GI (c:s5)(ss:List gU)(t:jV):Nat->Nat->Int
 |0,_=>0
 |k+1,i=>if !u7 (tL c ss t i) 0 then tL c ss t i else GI c ss t k (i+1)
def rY (t:jV):Bool:= !s7 (O t.s6) 1 8||(!u7 t.erase 0&& !u7 t.erase 1)|| !s7 t.cN 0 1048576
def zB (c:s5)(ss:List gU)(ds:List M3)(t:jV):Int :=
 if !u7 (T3 ds t.name) 0 then T3 ds t.name else if rY t then 1 else GI c ss t (O t.s6) 0
def NS (c:s5)(ss:List gU)(ds:List M3)(t:jV):List gU:=if u7 (zB c ss ds t) 0 then ss++[(t.name,t.s6.map gu.name,t.s6.map gu.type)] else ss
set_option maxHeartbeats 8000000 in
def cf1 [Inhabited XO] (c:s5)(ds:List M3)(ss:List gU)(i:Nat)(hi:i<O c.k9)(hc:O (Y c.k9 i).s6<=1000)(ho:∀j,j<O (Y c.k9 i).s6->O (Y (Y c.k9 i).s6 j).L8<=1000)(hss:O ss<=O c.k9)(bY0:O ss<=1000)(hi2:O c.k9<=1000)
  (ht:∀k,k<O ss->0<O (Y ss k).2.2/\0<O (Y c.k9 k).s6) (hsub:∀s,(ds.any λy=>P8 y s)=F->((ss.map (·.1)).any λy=>P8 y s)=F) :
  Pm A 149 [.ptr 5 0,.d (Z i)] (HH c ds ss) lW (.d (Z (zB c ss ds (Y c.k9 i)))) (HH c (R6 ds (Y c.k9 i).name) (NS c ss ds (Y c.k9 i))):=by
 generalize hx:Y c.k9 i=t at *
 have vu:=Ay c ds ss t.name;have cc4:∀j,j<O t.s6->Pm A 211 [.ptr 5 0,qE t,.d (Z j)] (HH c (R6 ds t.name) ss) lR (.d (Z (tL c ss t j))) (HH c (R6 ds t.name) ss):=λj hj=>by0 c (R6 ds t.name) ss t j hj hc (ho j hj) hss ht
 have cg9:=bu3 t.s6 hc;have ch0:=bu5 t.s6 hc;have ab9:T3 ds t.name=0->Pm A 212 [.ptr 5 0,.d (.str t.name),Sr (t.s6.map gu.name) (t.s6.map gu.type)] (HH c (R6 ds t.name) ss) lW (.tuple []) (HH c (R6 ds t.name) (ss++[(t.name,t.s6.map gu.name,t.s6.map gu.type)])):=λh=>by
  refine ae1 c (R6 ds t.name) ss t.name _ _ (hsub _ ?_) bY0;unfold T3 at h;cases h1:(!M8 t.name) with
  |true=>rw [h1] at h;simp at h
  |false =>
   rw [h1] at h;cases h2:ds.any λy=>P8 y t.name with
   |false=>rfl
   |true=>rw [h2] at h;simp at h
 suffices h:Pq A 149 [.ptr 5 0,.d (Z i)] (HH c ds ss) lW λv H1=>v= .d (Z (zB c ss ds t))/\H1=HH c (R6 ds t.name) (NS c ss ds t) by
  obtain ⟨v,H1,⟨rfl,rfl⟩,h⟩:=h;exact h
 have fin:∀e:Int,u7 e 0=F->zB c ss ds t=e->NS c ss ds t=ss:=λe h1 h2=>by unfold NS;rw [h2,h1];rfl
 unfold HH at *
 refine Pq.go 7 ?_;refine gr ?_;rw [hx]
 repeat' (first|refine c0 vu rfl (h2:=?_)|refine gx ?_|fail)
 refine tb (!u7 (T3 ds t.name) 0) (λh1=>?_) (λh1=>?_)
 .have e1:zB c ss ds t=T3 ds t.name:=by unfold zB;rw [h1];rfl
  refine gr ?_;exact ⟨_,_,rfl,by rw [e1];rfl,by rw [fin _ (by simpa using h1) e1];rfl⟩
 refine gr ?_;refine tB (rY t) ?_ (λh2=>?_) (λh2=>?_)
 .repeat' (first|refine cl (rJ _ _ _) ?_|refine gx ?_|refine fq (λhw=>?_) λhw=>?_|refine ⟨rfl,rfl,_,rfl,?_⟩|refine ⟨rfl,rfl⟩|fail)
  all_goals first|(simp [*,j3,rY];done)|(simp_all [j3,rY];done)|(simp_all [j3,rY,s9,s8,o8,D2];done)|(simp_all [j3,rY,s9,s8,o8,D2]<;>omega)
 .have e1:zB c ss ds t=1:=by unfold zB;rw [h1,h2];rfl
  refine gr ?_;exact ⟨_,_,rfl,by rw [e1];rfl,by rw [fin 1 (by simp [o8]) e1];rfl⟩
 refine gr ?_;refine Ex.aY (λk T H=>∃(j:Nat) (w1 w2 w4 w5 w6:c8),T=[.ptr 5 0,w1,w2,.ptr 6 0,w4,w5,w6,.d (Z (O t.s6)),.d (Z j)]/\H=[xa,xo,.cells (c.enc.map .d),.map (dmap (R6 ds t.name)),.map (gI (ss.map (·.1)) 0),.cells (c.enc.map .d++[.map 3,.map 4,D9 2 aG ss]),.cells (t.enc.map .d)]/\j+k=O t.s6/\zB c ss ds t=GI c ss t k j) ?_ (k:=O t.s6) ⟨0,_,_,_,_,_,rfl,rfl,U,by unfold zB;rw [h1,h2];rfl⟩;rintro k _ _ ⟨j,w1,w2,w4,w5,w6,rfl,rfl,hk,hj⟩;refine Ex.nT ?_;refine Ex.seq ?_;refine tl j (O t.s6) (λh4=>?_) (λh4=>?_)
 .obtain ⟨k,rfl⟩:∃k',k=k' +1:=⟨k - 1,V⟩
  have cg8:=cc4 j V;rw [GI] at hj
  repeat' (first|refine c1 cg8 rfl ?_|refine gx ?_|fail)
  refine tb (!u7 (tL c ss t j) 0) (λh5=>?_) (λh5=>?_)
  .rw [h5,if_pos rfl] at hj
   refine gr ?_;exact ⟨_,_,rfl,by rw [hj];rfl,by rw [fin _ (by simpa using h5) hj];rfl⟩
  .rw [h5,if_neg U] at hj
   refine gr ?_;exact ⟨k,V,j+1,_,_,_,_,_,rfl,rfl,V,hj⟩
 .obtain rfl:k=0:=V
  have bb6:=ab9 (eE (by simpa using h1));have e1:zB c ss ds t=0:=hj;have e2:NS c ss ds t=ss++[(t.name,t.s6.map gu.name,t.s6.map gu.type)]:=by unfold NS;rw [e1];simp [o8]
  rw [e2]
  repeat' (first|refine cl (cg9) ?_|refine cl (ch0) ?_|refine c0 bb6 rfl (h2:=?_)|refine gx ?_|fail)
  exact ⟨_,_,rfl,by rw [e1];rfl,rfl⟩
def rlV (c:s5)(ss:List gU)(x:qI):Vw:=Y c.views (K9 x.source (ss.map (·.1)) 0 - O c.k9).toNat
def Nu (c:s5)(ss:List gU)(ds:List M3)(x:qI):Int:=if !u7 (T3 ds x.name) 0 then T3 ds x.name else if F6 (K9 x.source (ss.map (·.1)) 0 - O c.k9) 0 then 7
 else if !u7 (rlV c ss x).kind 1|| !u7 (Y (rlV c ss x).F4 0).func 0|| !s7 x.thr 1 1024 then 1 else 0
def bkL (c:s5)(ss:List gU):List M3->List M3->Int
 |_,[]=>0
 |seen,t::r=>if !pM c ss t then 7 else if seen.any λy=>P8 y t then 4 else bkL c ss (seen++[t]) r
def bkM (c:s5)(ss:List gU)(ds:List M3)(x:vJ):Int:=if !u7 (T3 ds x.name) 0 then T3 ds x.name else if u7 (O x.tables) 0|| !s7 x.keep 1 1048576 then 1 else bkL c ss [] x.tables
set_option maxHeartbeats 4000000 in
def cf6 [Inhabited XO] (c:s5)(ds:List M3)(ss:List gU)(i:Nat)(hi:i<O c.T0)(hc:O c.k9<=1000)(hss:O ss<=O c.k9+O c.views)(hsv:O c.views<=1000)(hg:∀k,k<O c.views->(Y c.views k).kind≠1\/0<O (Y c.views k).F4):Pm A 154 [.ptr 5 0,.d (Z i)] (HH c ds ss) lW (.d (Z (Nu c ss ds (Y c.T0 i)))) (HH c (R6 ds (Y c.T0 i).name) ss):=by
 have vu:=Ay c ds ss (Y c.T0 i).name;have Xa:=Re c (R6 ds (Y c.T0 i).name) ss (Y c.T0 i).source;have b1:=Dw ss (Y c.T0 i).source
 suffices h:Pq A 154 [.ptr 5 0,.d (Z i)] (HH c ds ss) lW λv H1=>v= .d (Z (Nu c ss ds (Y c.T0 i)))/\H1=HH c (R6 ds (Y c.T0 i).name) ss by
  obtain ⟨v,H1,⟨rfl,rfl⟩,h⟩:=h;exact h
 generalize hx:Y c.T0 i=x at *
 unfold HH at *
 refine Pq.go 5 ?_;refine gr ?_;rw [hx]
 repeat' (first|refine c0 vu rfl (h2:=?_)|refine gx ?_|fail)
 refine tb (!u7 (T3 ds x.name) 0) (λh1=>?_) (λh1=>?_)
 .refine gr ?_
  exact ⟨_,_,rfl,by unfold Nu;rw [h1];rfl,rfl⟩
 repeat' (first|refine c1 Xa rfl ?_|refine gx ?_|fail)
 refine tb (F6 (K9 x.source (ss.map (·.1)) 0 - O c.k9) 0) (λh2=>?_) (λh2=>?_)
 .refine gr ?_
  exact ⟨_,_,rfl,by unfold Nu;rw [h1,h2];rfl,rfl⟩
 have h3:=B5 h2;have h4:=hg (K9 x.source (ss.map (·.1)) 0 - O c.k9).toNat V;have hrv:Y c.views (K9 x.source (ss.map (·.1)) 0 - O c.k9).toNat=rlV c ss x:=rfl;refine gr ?_;rw [hrv] at h4 ⊢;refine gr ?_;refine tc (!u7 (rlV c ss x).kind 1|| !u7 (Y (rlV c ss x).F4 0).func 0|| !s7 x.thr 1 1024) rJ (λh5=>?_) (λh5=>?_)
 .refine gr ?_
  exact ⟨_,_,rfl,by unfold Nu;rw [h1,h2,h5];rfl,rfl⟩
 .refine gr ?_
  exact ⟨_,_,rfl,by unfold Nu;rw [h1,h2,h5];rfl,rfl⟩
set_option maxHeartbeats 4000000 in
def cf8 [Inhabited XO] (c:s5)(ds:List M3)(ss:List gU)(i:Nat)(hi:i<O c.W7)(hc:O c.k9<=1000)(hx1:O (Y c.W7 i).tables<=1000):Pm A 156 [.ptr 5 0,.d (Z i)] (HH c ds ss) lW (.d (Z (bkM c ss ds (Y c.W7 i)))) (HH c (R6 ds (Y c.W7 i).name) ss):=by
 have vu:=Ay c ds ss (Y c.W7 i).name;have ba1:∀s,Pm A 223 [.ptr 5 0,.d (.str s)] (HH c (R6 ds (Y c.W7 i).name) ss) lR (.d (.bool (pM c ss s))) (HH c (R6 ds (Y c.W7 i).name) ss):=λs=>aN2 c (R6 ds (Y c.W7 i).name) ss s hc
 suffices h:Pq A 156 [.ptr 5 0,.d (Z i)] (HH c ds ss) lW λv H1=>v= .d (Z (bkM c ss ds (Y c.W7 i)))/\H1=HH c (R6 ds (Y c.W7 i).name) ss by
  obtain ⟨v,H1,⟨rfl,rfl⟩,h⟩:=h;exact h
 generalize hx:Y c.W7 i=x at *
 unfold HH at *
 refine Pq.go 8 ?_;refine gr ?_;rw [hx]
 repeat' (first|refine c0 vu rfl (h2:=?_)|refine gx ?_|fail)
 refine tb (!u7 (T3 ds x.name) 0) (λh1=>?_) (λh1=>?_)
 .refine gr ?_
  exact ⟨_,_,rfl,by unfold bkM;rw [h1];rfl,rfl⟩
 refine gr ?_;refine tc (u7 (O x.tables) 0|| !s7 x.keep 1 1048576) rJ (λh2=>?_) (λh2=>?_)
 .refine gr ?_
  exact ⟨_,_,rfl,by unfold bkM;rw [h1,h2];rfl,rfl⟩
 refine gr ?_;refine Ex.T9 (λk T H=>∃(j:Nat),T=[.ptr 5 0,.any,.any,.ptr 6 0,.any,.any,.any,.d (C6 (λs=>[.str s]) x.tables),.d (Z (O x.tables)),.d (Z j)]/\H=[xa,xo,.cells (c.enc.map .d),.map (dmap (R6 ds x.name)),.map (gI (ss.map (·.1)) 0),.cells (c.enc.map .d++[.map 3,.map 4,D9 2 aG ss]),.cells (x.enc.map .d)]/\j+k=O x.tables/\bkM c ss ds x=bkL c ss (x.tables.take j) (x.tables.drop j)) ?_ (k:=O x.tables) ⟨0,rfl,rfl,U,by simp [bkM,h1,h2]⟩;rintro k _ _ ⟨j,rfl,rfl,hk,hj⟩;refine Ex.seq ?_;refine tl j (O x.tables) (λh4=>?_) (λh4=>?_)
 .rw [E0 V] at hj
  have ch4:=ba1 (Y x.tables j);have ch5:=aM3 (x.tables.take j) (Y x.tables j) D;refine gr ?_;refine tB (!pM c ss (Y x.tables j)) ?_ (λh5=>?_) (λh5=>?_)
  .repeat' (first|refine c1 ch4 rfl ?_|refine gx ?_|refine fq (λhw=>?_) λhw=>?_|refine ⟨rfl,rfl,_,rfl,?_⟩|refine ⟨rfl,rfl⟩|fail)
   all_goals exact cc
  .refine gr ?_
   exact ⟨_,_,rfl,by rw [hj];unfold bkL;rw [h5];rfl,rfl⟩
  refine gr ?_;refine tc ((x.tables.take j).any λy=>P8 y (Y x.tables j)) ch5 (λh6=>?_) (λh6=>?_)
  .refine gr ?_
   exact ⟨_,_,rfl,by rw [hj];unfold bkL;rw [h5,h6];rfl,rfl⟩
  .refine gr ?_
   refine kk ⟨j+1,rfl,rfl,V,?_⟩;rw [hj,E2 V];simp only [bkL,h5,h6,j4,if_false]
 .rw [n9 V] at hj
  refine gr ?_;exact ⟨_,_,rfl,by rw [hj];rfl,rfl⟩
end Go.Proofs.YtibjocmpkoepoaaGreat


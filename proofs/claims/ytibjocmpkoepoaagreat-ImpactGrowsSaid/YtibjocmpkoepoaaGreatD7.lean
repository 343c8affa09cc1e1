import Derived.Test.YtibjocmpkoepoaaGreatD4
set_option linter.all false
open Bool renaming false_eq_true→j5,true→W,false→F
open List renaming drop_of_length_le→n5,length_map→A9,take_of_length_le→A4,length→O
open Option renaming some→J,none→K
namespace Go.Proofs.YtibjocmpkoepoaaGreat
open Go.A5 Go.A5.S
attribute [local irreducible] Rx Ry Rn Ex Pf
structure XO where
 a:x4
 b:x4
 ha:a.J4=0
 hb:b.J4=0
abbrev xa [Inhabited XO]:x4:=(default:XO).a
abbrev xo [Inhabited XO]:x4:=(default:XO).b
abbrev gD:=K0×List K0×List Int
def aG (s:gD):List A5.Data:=[y6 encS s.2.1,ints s.2.2]
def HH [Inhabited XO] (c:p9)(ds:List K0)(ss:List gD):j9 :=
 [xa,xo,.cells (c.enc.map .d),.map (dmap ds),.map (gn (ss.map (·.1)) 0),.cells (c.enc.map .d++[.map 3,.map 4,B9 2 aG ss])]
def lW:J2:=⟨0,0,6,6⟩
def lR:J2:=⟨0,6,6,6⟩
theorem ES (s:K0):∀(l:List K0) (i:Nat),cA .s (.str s) (gn l i)=J (if F0 (J5 s l i) 0 then K else J (.d (Z (J5 s l i))))
 |[],i=>by simp [gn,cA,J5,A1]
 |d::l,i=>by
  have h1:=ES s l (i+1);have h2:(s==d)=O4 d s:=by
   rw [I9,Bool.eq_iff_iff]
   grind
  simp [gn,cA,Data.dK,J5,h2]
  by_cases hb:O4 d s=W
  .simp [hb,A1,Z]
  simp_all
def Nw [Inhabited XO] (c:p9)(ds:List K0)(ss:List gD)(s:K0):Pm A 125 [.ptr 5 0,.d (.str s)] (HH c ds ss) lR (.d (Z (J5 s (ss.map (·.1)) 0))) (HH c ds ss):=by
 have hf:=ES s (ss.map (·.1)) 0
 suffices h:Pq A 125 [.ptr 5 0,.d (.str s)] (HH c ds ss) lR λv H1=>v= .d (Z (J5 s (ss.map (·.1)) 0))/\H1=HH c ds ss by
  obtain ⟨v,H1,⟨rfl,rfl⟩,h⟩:=h;exact h
 refine Pq.go 3 ?_;cases h1:F0 (J5 s (ss.map (·.1)) 0) 0 with
 |true =>
  rw [h1,if_pos rfl] at hf;have h2:=C8 h1;have h3:J5 s (ss.map (·.1)) 0= -1:=by grind [gQ]
  repeat' (first|refine lk2 hf rfl rfl ?_|refine gx ?_|fail)
  refine tb (F) (λh4=>?_) (λh4=>?_)
  .cases h4
  refine gr ?_;exact ⟨_,_,rfl,by rw [h3];rfl,rfl⟩
 |false =>
  rw [h1,if_neg U] at hf
  repeat' (first|refine lk2 hf rfl rfl ?_|refine gx ?_|fail)
  refine tb (W) (λh4=>?_) (λh4=>?_)
  .refine gr ?_
   exact ⟨_,_,rfl,rfl,rfl⟩
  .cases h4
def bt0 [Inhabited XO] (c:p9)(ds:List K0)(ss:List gD)(n:Int):Pm A 173 [.ptr 5 0,.d (Z n)] (HH c ds ss) lR (.d (.bool (aH 0 n&&F0 n (O ss)))) (HH c ds ss):=by
 suffices h:Pq A 173 [.ptr 5 0,.d (Z n)] (HH c ds ss) lR λv H1=>v= .d (.bool (aH 0 n&&F0 n (O ss)))/\H1=HH c ds ss by
  obtain ⟨v,H1,⟨rfl,rfl⟩,h⟩:=h;exact h
 refine Pq.go 1 ?_
 repeat' (first|refine gy ?_|refine fq (λhw=>?_) λhw=>?_|refine ⟨_,rfl,?_⟩|fail)
 all_goals exact ⟨_,_,rfl,by simp [*,j4],rfl⟩
def nQ (c:p9)(ss:List gD)(s:K0):Bool:=s4 (J5 s (ss.map (·.1)) 0) 0 (O c.j7 - 1)
def af5 [Inhabited XO] (c:p9)(ds:List K0)(ss:List gD)(s:K0)(hc:O c.j7<=1000):Pm A 223 [.ptr 5 0,.d (.str s)] (HH c ds ss) lR (.d (.bool (nQ c ss s))) (HH c ds ss):=by
 have p1:=Nw c ds ss s
 suffices h:Pq A 223 [.ptr 5 0,.d (.str s)] (HH c ds ss) lR λv H1=>v= .d (.bool (nQ c ss s))/\H1=HH c ds ss by
  obtain ⟨v,H1,⟨rfl,rfl⟩,h⟩:=h;exact h
 refine Pq.go 1 ?_
 repeat' (first|refine c1 p1 rfl ?_|refine cl (pZ _ _ _) ?_|refine gx ?_|fail)
 exact ⟨_,_,rfl,rfl,rfl⟩
def R3 (ds:List K0)(s:K0):Int:=if !M3 s then 3 else if ds.any λy=>O4 y s then 4 else 0
def P8 (ds:List K0)(s:K0):List K0:=if x5 (R3 ds s) 0 then ds++[s] else ds
def yj [Inhabited XO] (c:p9)(ds:List K0)(ss:List gD)(s:K0):Pm A 209 [.ptr 5 0,.d (.str s)] (HH c ds ss) lW (.d (Z (R3 ds s))) (HH c (P8 ds s) ss):=by
 have hf:=Ep s ds
 suffices h:Pq A 209 [.ptr 5 0,.d (.str s)] (HH c ds ss) lW λv H1=>v= .d (Z (R3 ds s))/\H1=HH c (P8 ds s) ss by
  obtain ⟨v,H1,⟨rfl,rfl⟩,h⟩:=h;exact h
 unfold HH;refine Pq.go 1 ?_;have h10:x5 3 0=F:=by simp [o9]
 have h11:x5 4 0=F:=by simp [o9]
 have h12:x5 0 0=W:=by simp [o9]
 refine gr ?_;refine tc (!M3 s) Vv (λh1=>?_) (λh1=>?_)
 .refine gr ?_
  have e1:R3 ds s=3:=by unfold R3;rw [h1];rfl
  exact ⟨_,_,rfl,by rw [e1];rfl,by unfold P8;rw [e1,h10];rfl⟩
 cases h2:ds.any λy=>O4 y s with
 |true =>
  rw [h2,if_pos rfl] at hf;have e1:R3 ds s=4:=by unfold R3;rw [h1,h2];rfl
  refine tB (W) ?_ (λh3=>?_) (λh3=>?_)
  .repeat' (first|refine lk1 hf rfl ?_|refine gx ?_|refine fq (λhw=>?_) λhw=>?_|refine ⟨rfl,rfl,_,rfl,?_⟩|refine ⟨rfl,rfl⟩|fail)
   all_goals exact cc
  .refine gr ?_
   exact ⟨_,_,rfl,by rw [e1];rfl,by unfold P8;rw [e1,h11];rfl⟩
  .cases h3
 |false =>
  rw [h2,if_neg U] at hf;have e1:R3 ds s=0:=by unfold R3;rw [h1,h2];rfl
  have hk:Data.dK .s (.str s) (.str s)=J W:=by simp [Data.dK]
  refine tB (F) ?_ (λh3=>?_) (λh3=>?_)
  .repeat' (first|refine lk1 hf rfl ?_|refine gx ?_|refine fq (λhw=>?_) λhw=>?_|refine ⟨rfl,rfl,_,rfl,?_⟩|refine ⟨rfl,rfl⟩|fail)
   all_goals exact cc
  .cases h3
  repeat' (first|refine mp (IW s ds h2) hk (h2:=?_)|refine gx ?_|fail)
  exact ⟨_,_,rfl,by rw [e1];rfl,by unfold P8;rw [e1,h12];rfl⟩
def Ow (nm:List K0)(ty:List Int):c7:= .agg [.d (y6 encS nm),.d (ints ty)]
def VD [Inhabited XO] (c:p9)(ds:List K0)(ss:List gD)(s:K0)(nm:List K0)(ty:List Int)(hs:((ss.map (·.1)).any λy=>O4 y s)=F)(hl:O ss<=1000) :
  Pm A 212 [.ptr 5 0,.d (.str s),Ow nm ty] (HH c ds ss) lW (.tuple []) (HH c ds (ss++[(s,nm,ty)])):=by
 have hput:=JN s (ss.map (·.1)) 0 hs;rw [A9,Nat.zero_add] at hput;have hk:Data.dK .s (.str s) (.str s)=J W:=by simp [Data.dK]
 have hr:roomFor (O ss+1) 48=W:=by simp only [roomFor,decide_eq_true_eq];omega
 suffices h:Pq A 212 [.ptr 5 0,.d (.str s),Ow nm ty] (HH c ds ss) lW λv H1=>v= .tuple []/\H1=HH c ds (ss++[(s,nm,ty)]) by
  obtain ⟨v,H1,⟨rfl,rfl⟩,h⟩:=h;exact h
 unfold HH;refine Pq.go 1 ?_
 repeat' (first|refine mp hput hk (h2:=?_)|refine o2 ?_|refine ac2 (a:=(s,nm,ty)) (xs:=ss) (enc:=aG) hr rfl (h2:=?_)|refine Ik (h2:=?_)|refine gx ?_|fail)
 refine ⟨_,_,rfl,rfl,?_⟩;have e:((ss++[(s,nm,ty)]).map (·.1))=ss.map (·.1)++[s]:=U
 rw [e];rfl
def mR (ss:List gD)(s:K0)(col:Int):Int×Int :=
 if F0 (J5 s (ss.map (·.1)) 0) 0 then (0,7)
 else if !s4 col 0 (O (Y ss (J5 s (ss.map (·.1)) 0).toNat).2.2 - 1) then (0,3)
 else (Y (Y ss (J5 s (ss.map (·.1)) 0).toNat).2.2 col.toNat,0)
def Bn (ss:List gD)(s:K0):J5 s (ss.map (·.1)) 0= -1\/(0<=J5 s (ss.map (·.1)) 0/\J5 s (ss.map (·.1)) 0<O ss):=by
 rcases gQ s (ss.map (·.1)) 0 with h|h
 .exact Or.inl h
 .right;simp at h;omega
def VE [Inhabited XO] (c:p9)(ds:List K0)(ss:List gD)(s:K0)(col:Int)(tP:∀k,k<O ss->O (Y ss k).2.2<=100000):Pm A 222 [.ptr 5 0,.d (.str s),.d (Z col)] (HH c ds ss) lR (.tuple [.d (Z (mR ss s col).1),.d (Z (mR ss s col).2)]) (HH c ds ss):=by
 have p1:=Nw c ds ss s;have b1:=Bn ss s
 suffices h:Pq A 222 [.ptr 5 0,.d (.str s),.d (Z col)] (HH c ds ss) lR λv H1=>v= .tuple [.d (Z (mR ss s col).1),.d (Z (mR ss s col).2)]/\H1=HH c ds ss by
  obtain ⟨v,H1,⟨rfl,rfl⟩,h⟩:=h;exact h
 unfold HH at p1 ⊢;refine Pq.go 4 ?_
 repeat' (first|refine c1 p1 rfl ?_|refine gx ?_|fail)
 refine tb (F0 (J5 s (ss.map (·.1)) 0) 0) (λh1=>?_) (λh1=>?_)
 .refine gr ?_
  exact ⟨_,_,rfl,by unfold mR;rw [h1];rfl,rfl⟩
 have h2:=D4 h1;have h3:=tP (J5 s (ss.map (·.1)) 0).toNat V;refine gr ?_;refine tc (!s4 col 0 (O (Y ss (J5 s (ss.map (·.1)) 0).toNat).2.2 - 1)) pZ (λh4=>?_) (λh4=>?_)
 .refine gr ?_
  exact ⟨_,_,rfl,by unfold mR;rw [h1,h4];rfl,rfl⟩
 have h5:=h4;simp [s4,x8] at h5;refine gr ?_;exact ⟨_,_,rfl,by unfold mR;rw [h1,h4];rfl,rfl⟩
def rO (x:K0):List K0->Nat->Int
 |[],_=> -1
 |y::r,i=>if O4 x y then i else rO x r (i+1)
theorem Eu (x:K0):∀(l:List K0) (i:Nat),aH 0 (rO x l i)=l.any λy=>O4 y x
 |[],i=>by simp [rO,x8]
 |y::r,i=>by
  have h1:=Eu x r (i+1);have h2:O4 x y=O4 y x:=by simp [I9];grind
  grind [rO,O4,x8]
def aK1 (xs:List K0)(x:K0)(hx:O xs<=100000):Pf A 260 [.d (y6 encS xs),.d (.str x)] (.d (Z (rO x xs 0))):=by
 refine Pf.gr 4 ?_;refine Ex.M4 (λk T H=>∃(i:Nat),T=[.d (y6 encS xs),.d (.str x),.any,.any,.d (Z (O xs)),.d (Z i)]/\H=[]/\i+k=O xs/\rO x xs 0=rO x (xs.drop i) i) ?_ (k:=O xs) ⟨0,rfl,rfl,U,U⟩;rintro k _ _ ⟨i,rfl,rfl,hk,hi⟩
 repeat' (first|refine gy ?_|refine ft (λht=>?_) λht=>?_|refine ⟨_,rfl,?_⟩|fail)
 .have h1:=C8 ‹F0 i _=W›
  rw [D8 V] at hi;simp [hi,rO,ht,j4,Z]
 .have h1:=C8 ‹F0 i _=W›
  rw [D8 V] at hi;exact kk ⟨i+1,rfl,rfl,V,by simp [hi,rO,ht]⟩
 .have h1:=D4 ht
  rw [n5 V] at hi;simp [hi,rO,j4,Z]
def ae8 (xs:List K0)(x:K0)(hx:O xs<=100000):Pf A 224 [.d (y6 encS xs),.d (.str x)] (.d (.bool (xs.any λy=>O4 y x))):=by
 rw [<- Eu x xs 0];refine Pf.go 1 ?_;refine gc (aK1 xs x hx) ?_;exact ⟨_,rfl,rfl⟩
def Dz (x:Int):List Int->Nat->Int
 |[],_=> -1
 |y::r,i=>if x5 x y then i else Dz x r (i+1)
theorem IY (x:Int):∀(l:List Int) (i:Nat),aH 0 (Dz x l i)=l.any λy=>x5 y x
 |[],i=>by simp [Dz,x8]
 |y::r,i=>by
  have h1:=IY x r (i+1);have h2:x5 x y=x5 y x:=by simp [o9];grind
  grind [Dz,x5,x8]
def bs0 (xs:List Int)(x:Int)(hx:O xs<=100000):Pf A 278 [.d (y6 (λn=>[Z n]) xs),.d (Z x)] (.d (Z (Dz x xs 0))):=by
 refine Pf.gr 4 ?_;refine Ex.M4 (λk T H=>∃(i:Nat),T=[.d (y6 (λn=>[Z n]) xs),.d (Z x),.any,.any,.d (Z (O xs)),.d (Z i)]/\H=[]/\i+k=O xs/\Dz x xs 0=Dz x (xs.drop i) i) ?_ (k:=O xs) ⟨0,rfl,rfl,U,U⟩;rintro k _ _ ⟨i,rfl,rfl,hk,hi⟩
 repeat' (first|refine gy ?_|refine ft (λht=>?_) λht=>?_|refine ⟨_,rfl,?_⟩|fail)
 .have h1:=C8 ‹F0 i _=W›
  rw [D8 V] at hi;simp [hi,Dz,ht,j4,Z]
 .have h1:=C8 ‹F0 i _=W›
  rw [D8 V] at hi;exact kk ⟨i+1,rfl,rfl,V,by simp [hi,Dz,ht]⟩
 .have h1:=D4 ht
  rw [n5 V] at hi;simp [hi,Dz,j4,Z]
def br4 (xs:List Int)(x:Int)(hx:O xs<=100000):Pf A 253 [.d (y6 (λn=>[Z n]) xs),.d (Z x)] (.d (.bool (xs.any λy=>x5 y x))):=by
 rw [<- IY x xs 0];refine Pf.go 1 ?_;refine gc (bs0 xs x hx) ?_;exact ⟨_,rfl,rfl⟩
def Jv (ss:List gD)(ds:List K0)(x:mg):Int:=if !x5 (R3 ds x.name) 0 then R3 ds x.name else if !x5 (mR ss x.source x.col).2 0 then (mR ss x.source x.col).2 else if !x5 (mR ss x.source x.col).1 2 then 5 else 0
def BV (ss:List gD)(ds:List K0)(x:mb):Int:=if !x5 (R3 ds x.name) 0 then R3 ds x.name else if !x5 (mR ss x.source x.col).2 0 then (mR ss x.source x.col).2
 else if !x5 x.kind 0&& !x5 x.kind 1&& !x5 x.kind 2 then 1
 else if !s4 x.width 1 1024|| !s4 x.depth 1 8||(x5 x.kind 2&& !x5 x.depth 1)||F0 1024 (x.width * x.depth) then 1 else 0
def IG (ss:List gD)(ds:List K0)(x:oF):Int:=if !x5 (R3 ds x.name) 0 then R3 ds x.name else if !x5 (mR ss x.source x.col).2 0 then (mR ss x.source x.col).2 else if !s4 x.ttl 1 1048576 then 1 else 0
def NO (c:p9)(ss:List gD)(ds:List K0)(x:rA):Int:=if !x5 (R3 ds x.name) 0 then R3 ds x.name else if !nQ c ss x.table then 7 else 0
set_option maxHeartbeats 4000000 in
def bt3 [Inhabited XO] (c:p9)(ds:List K0)(ss:List gD)(i:Nat)(hi:i<O c.idxs)(tP:∀k,k<O ss->O (Y ss k).2.2<=100000):Pm A 151 [.ptr 5 0,.d (Z i)] (HH c ds ss) lW (.d (Z (Jv ss ds (Y c.idxs i)))) (HH c (P8 ds (Y c.idxs i).name) ss):=by
 have tD:=yj c ds ss (Y c.idxs i).name;have Nt:=VE c (P8 ds (Y c.idxs i).name) ss (Y c.idxs i).source (Y c.idxs i).col tP
 suffices h:Pq A 151 [.ptr 5 0,.d (Z i)] (HH c ds ss) lW λv H1=>v= .d (Z (Jv ss ds (Y c.idxs i)))/\H1=HH c (P8 ds (Y c.idxs i).name) ss by
  obtain ⟨v,H1,⟨rfl,rfl⟩,h⟩:=h;exact h
 generalize hx:Y c.idxs i=x at *
 unfold HH at *
 refine Pq.go 5 ?_;refine gr ?_;rw [hx]
 repeat' (first|refine c0 tD rfl (h2:=?_)|refine gx ?_|fail)
 refine tb (!x5 (R3 ds x.name) 0) (λh1=>?_) (λh1=>?_)
 .refine gr ?_
  exact ⟨_,_,rfl,by unfold Jv;rw [h1];rfl,rfl⟩
 repeat' (first|refine c1 Nt rfl ?_|refine gx ?_|fail)
 refine tb (!x5 (mR ss x.source x.col).2 0) (λh2=>?_) (λh2=>?_)
 .refine gr ?_
  exact ⟨_,_,rfl,by unfold Jv;rw [h1,h2];rfl,rfl⟩
 refine gr ?_;refine tb (!x5 (mR ss x.source x.col).1 2) (λh3=>?_) (λh3=>?_)
 .refine gr ?_
  exact ⟨_,_,rfl,by unfold Jv;rw [h1,h2,h3];rfl,rfl⟩
 .refine gr ?_
  exact ⟨_,_,rfl,by unfold Jv;rw [h1,h2,h3];rfl,rfl⟩
set_option maxHeartbeats 4000000 in
def bt5 [Inhabited XO] (c:p9)(ds:List K0)(ss:List gD)(i:Nat)(hi:i<O c.L0)(tP:∀k,k<O ss->O (Y ss k).2.2<=100000):Pm A 153 [.ptr 5 0,.d (Z i)] (HH c ds ss) lW (.d (Z (IG ss ds (Y c.L0 i)))) (HH c (P8 ds (Y c.L0 i).name) ss):=by
 have tD:=yj c ds ss (Y c.L0 i).name;have Nt:=VE c (P8 ds (Y c.L0 i).name) ss (Y c.L0 i).source (Y c.L0 i).col tP
 suffices h:Pq A 153 [.ptr 5 0,.d (Z i)] (HH c ds ss) lW λv H1=>v= .d (Z (IG ss ds (Y c.L0 i)))/\H1=HH c (P8 ds (Y c.L0 i).name) ss by
  obtain ⟨v,H1,⟨rfl,rfl⟩,h⟩:=h;exact h
 generalize hx:Y c.L0 i=x at *
 unfold HH at *
 refine Pq.go 4 ?_;refine gr ?_;rw [hx]
 repeat' (first|refine c0 tD rfl (h2:=?_)|refine gx ?_|fail)
 refine tb (!x5 (R3 ds x.name) 0) (λh1=>?_) (λh1=>?_)
 .refine gr ?_
  exact ⟨_,_,rfl,by unfold IG;rw [h1];rfl,rfl⟩
 repeat' (first|refine c1 Nt rfl ?_|refine gx ?_|fail)
 refine tb (!x5 (mR ss x.source x.col).2 0) (λh2=>?_) (λh2=>?_)
 .refine gr ?_
  exact ⟨_,_,rfl,by unfold IG;rw [h1,h2];rfl,rfl⟩
 refine gr ?_;refine tc (!s4 x.ttl 1 1048576) pZ (λh3=>?_) (λh3=>?_)
 .refine gr ?_
  exact ⟨_,_,rfl,by unfold IG;rw [h1,h2,h3];rfl,rfl⟩
 .refine gr ?_
  exact ⟨_,_,rfl,by unfold IG;rw [h1,h2,h3];rfl,rfl⟩
set_option maxHeartbeats 4000000 in
def bt7 [Inhabited XO] (c:p9)(ds:List K0)(ss:List gD)(i:Nat)(hi:i<O c.O0)(hc:O c.j7<=1000):Pm A 155 [.ptr 5 0,.d (Z i)] (HH c ds ss) lW (.d (Z (NO c ss ds (Y c.O0 i)))) (HH c (P8 ds (Y c.O0 i).name) ss):=by
 have tD:=yj c ds ss (Y c.O0 i).name;have SD:=af5 c (P8 ds (Y c.O0 i).name) ss (Y c.O0 i).table hc
 suffices h:Pq A 155 [.ptr 5 0,.d (Z i)] (HH c ds ss) lW λv H1=>v= .d (Z (NO c ss ds (Y c.O0 i)))/\H1=HH c (P8 ds (Y c.O0 i).name) ss by
  obtain ⟨v,H1,⟨rfl,rfl⟩,h⟩:=h;exact h
 generalize hx:Y c.O0 i=x at *
 unfold HH at *
 refine Pq.go 3 ?_;refine gr ?_;rw [hx]
 repeat' (first|refine c0 tD rfl (h2:=?_)|refine gx ?_|fail)
 refine tb (!x5 (R3 ds x.name) 0) (λh1=>?_) (λh1=>?_)
 .refine gr ?_
  exact ⟨_,_,rfl,by unfold NO;rw [h1];rfl,rfl⟩
 refine gr ?_;refine tB (!nQ c ss x.table) ?_ (λh2=>?_) (λh2=>?_)
 .repeat' (first|refine c1 SD rfl ?_|refine gx ?_|refine fq (λhw=>?_) λhw=>?_|refine ⟨rfl,rfl,_,rfl,?_⟩|refine ⟨rfl,rfl⟩|fail)
  all_goals exact cc
 .refine gr ?_
  exact ⟨_,_,rfl,by unfold NO;rw [h1,h2];rfl,rfl⟩
 .refine gr ?_
  exact ⟨_,_,rfl,by unfold NO;rw [h1,h2];rfl,rfl⟩
set_option maxHeartbeats 4000000 in
def bt4 [Inhabited XO] (c:p9)(ds:List K0)(ss:List gD)(i:Nat)(hi:i<O c.J7)(tP:∀k,k<O ss->O (Y ss k).2.2<=100000):Pm A 152 [.ptr 5 0,.d (Z i)] (HH c ds ss) lW (.d (Z (BV ss ds (Y c.J7 i)))) (HH c (P8 ds (Y c.J7 i).name) ss):=by
 have tD:=yj c ds ss (Y c.J7 i).name;have Nt:=VE c (P8 ds (Y c.J7 i).name) ss (Y c.J7 i).source (Y c.J7 i).col tP
 suffices h:Pq A 152 [.ptr 5 0,.d (Z i)] (HH c ds ss) lW λv H1=>v= .d (Z (BV ss ds (Y c.J7 i)))/\H1=HH c (P8 ds (Y c.J7 i).name) ss by
  obtain ⟨v,H1,⟨rfl,rfl⟩,h⟩:=h;exact h
 generalize hx:Y c.J7 i=x at *
 unfold HH at *
 refine Pq.go 4 ?_;refine gr ?_;rw [hx]
 repeat' (first|refine c0 tD rfl (h2:=?_)|refine gx ?_|fail)
 refine tb (!x5 (R3 ds x.name) 0) (λh1=>?_) (λh1=>?_)
 .refine gr ?_
  exact ⟨_,_,rfl,by unfold BV;rw [h1];rfl,rfl⟩
 repeat' (first|refine c1 Nt rfl ?_|refine gx ?_|fail)
 refine tb (!x5 (mR ss x.source x.col).2 0) (λh2=>?_) (λh2=>?_)
 .refine gr ?_
  exact ⟨_,_,rfl,by unfold BV;rw [h1,h2];rfl,rfl⟩
 refine gr ?_;refine tb (!x5 x.kind 0&& !x5 x.kind 1&& !x5 x.kind 2) (λh3=>?_) (λh3=>?_)
 .refine gr ?_
  exact ⟨_,_,rfl,by unfold BV;rw [h1,h2,h3];rfl,rfl⟩
 refine gr ?_;cases hW:s4 x.width 1 1024 with
 |false =>
  refine tB (W) ?_ (λh4=>?_) (λh4=>?_)
  .repeat' (first|refine cl (pZ _ _ _) ?_|refine gx ?_|refine fq (λhw=>?_) λhw=>?_|refine ⟨rfl,rfl,_,rfl,?_⟩|refine ⟨rfl,rfl⟩|fail)
   all_goals first|(simp [*,j4,hW];done)|(simp_all [j4,hW];done)|(simp_all [j4,hW,A1,x8,o9,I9];done)|(simp_all [j4,hW,A1,x8,o9,I9]<;>omega)
  .refine gr ?_
   exact ⟨_,_,rfl,by unfold BV;rw [h1,h2,h3,hW];rfl,rfl⟩
  .cases h4
 |true =>
 cases hD:s4 x.depth 1 8 with
 |false =>
  refine tB (W) ?_ (λh4=>?_) (λh4=>?_)
  .repeat' (first|refine cl (pZ _ _ _) ?_|refine gx ?_|refine fq (λhw=>?_) λhw=>?_|refine ⟨rfl,rfl,_,rfl,?_⟩|refine ⟨rfl,rfl⟩|fail)
   all_goals first|(simp [*,j4,hW,hD];done)|(simp_all [j4,hW,hD];done)|(simp_all [j4,hW,hD,A1,x8,o9,I9];done)|(simp_all [j4,hW,hD,A1,x8,o9,I9]<;>omega)
  .refine gr ?_
   exact ⟨_,_,rfl,by unfold BV;rw [h1,h2,h3,hW,hD];rfl,rfl⟩
  .cases h4
 |true =>
 have hm: -9223372036854775808<=x.width * x.depth/\x.width * x.depth<9223372036854775808:=by
  simp [s4,x8] at hW hD;have m1:=Int.mul_le_mul hW.2 hD.2 V V;have m2:=Int.mul_nonneg (a:=x.width) (b:=x.depth) V V;omega
 refine tB (!s4 x.width 1 1024|| !s4 x.depth 1 8||(x5 x.kind 2&& !x5 x.depth 1)||F0 1024 (x.width * x.depth)) ?_ (λh4=>?_) (λh4=>?_)
 .repeat' (first|refine cl (pZ _ _ _) ?_|refine mu (h0:=hm) ?_|refine gx ?_|refine fq (λhw=>?_) λhw=>?_|refine ⟨rfl,rfl,_,rfl,?_⟩|refine ⟨rfl,rfl⟩|fail)
  all_goals first|(simp [*,j4,hW,hD];done)|(simp_all [j4,hW,hD];done)|(simp_all [j4,hW,hD,A1,x8,o9,I9];done)|(simp_all [j4,hW,hD,A1,x8,o9,I9]<;>omega)
 .refine gr ?_
  exact ⟨_,_,rfl,by unfold BV;rw [h1,h2,h3,h4];rfl,rfl⟩
 .refine gr ?_
  exact ⟨_,_,rfl,by unfold BV;rw [h1,h2,h3,h4];rfl,rfl⟩
set_option maxHeartbeats 4000000 in
def aJ7 (t:fR)(xs:List Int)(hx:O xs<=1000)(hc:O t.o7<=1000):Pf A 251 [U1 t,.d (ints xs)] (.d (.bool (W3 t (-1) xs))):=by
 refine Pf.gr 8 ?_;refine Ex.S4 (λk T H=>∃(i:Nat) (p:Int),T=[.any,.any,.ptr 0 0,.any,.d (Z p),.any,.any,.d (ints xs),.d (Z (O xs)),.d (Z i)]/\H=[.cells (t.enc.map .d)]/\i+k=O xs/\ -1<=p/\W3 t (-1) xs=W3 t p (xs.drop i)) ?_ (k:=O xs) ⟨0, -1,rfl,rfl,U,V,U⟩;rintro k _ _ ⟨i,p,rfl,rfl,hk,hp,hi⟩;refine Ex.seq ?_;refine tb (F0 i (O xs)) (λh1=>?_) (λh1=>?_)
 .have h2:=C8 h1
  rw [D8 V] at hi;refine gr ?_;refine tb (aH (Y xs i) p||aH (O t.o7) (Y xs i)) (λh3=>?_) (λh3=>?_)
  .refine gr ?_
   have h4:(F0 p (Y xs i)&&F0 (Y xs i) (O t.o7))=F:=by simp [x8,A1] at h3 ⊢;omega
   exact ⟨_,rfl,by rw [hi,W3,h4];rfl⟩
  have h4:F0 p (Y xs i)=W/\F0 (Y xs i) (O t.o7)=W:=by simp [x8,A1] at h3 ⊢;omega
  have h5:=C8 h4.1;refine gr ?_;refine tb (O4 (Y t.o7 (Y xs i).toNat).space []&&O4 (Y t.o7 (Y xs i).toNat).refs []) (λh7=>?_) (λh7=>?_)
  .refine gr ?_
   exact ⟨_,rfl,by rw [hi,W3,h4.1,h4.2,h7];rfl⟩
  .refine gr ?_
   exact kk ⟨_,_,rfl,i+1,Y xs i,rfl,rfl,V,V,by rw [hi,W3,h4.1,h4.2,h7];rfl⟩
 .refine gr ?_
  have h2:=D4 h1;rw [n5 V] at hi;exact ⟨_,rfl,by rw [hi];rfl⟩
def TV (x:U4):c7:= .agg (x.enc.map .d)
def nW (t:fR)(x:U4):Bool :=
 if !x5 x.fc 0&&(!x5 x.fc 1|| !F0 0 (O x.D6)) then F
 else if !s4 x.kA 0 1048576 then F
 else if !x5 x.kA 0&& !F0 0 (O x.D6) then F
 else x5 t.cz 0||aH x.kA t.cz
set_option maxHeartbeats 4000000 in
def aJ8 (t:fR)(x:U4):Pf A 252 [U1 t,TV x] (.d (.bool (nW t x))):=by
 refine Pf.gr 4 ?_;refine tb (!x5 x.fc 0&&(!x5 x.fc 1|| !F0 0 (O x.D6))) (λh1=>?_) (λh1=>?_)
 .refine gr ?_
  exact ⟨_,rfl,by unfold nW;rw [h1];rfl⟩
 refine tc (!s4 x.kA 0 1048576) pZ (λh2=>?_) (λh2=>?_)
 .refine gr ?_
  exact ⟨_,rfl,by unfold nW;rw [h1,h2];rfl⟩
 refine tb (!x5 x.kA 0&& !F0 0 (O x.D6)) (λh3=>?_) (λh3=>?_)
 .refine gr ?_
  exact ⟨_,rfl,by unfold nW;rw [h1,h2,h3];rfl⟩
 repeat' (first|refine gy ?_|refine fq (λhw=>?_) λhw=>?_|refine ⟨_,rfl,?_⟩|fail)
 all_goals unfold nW
 all_goals rw [h1,h2,h3]
 all_goals simp [*,j4]
def l7:J2:=⟨0,8,8,8⟩
def aM5 (a0 ax a1 a2 a3 a4 a5:x4)(x y:U4):Pm A 249 [TV y,.ptr 7 0] [a0,ax,a1,a2,a3,a4,a5,.cells (x.enc.map .d)] l7 (.d (.bool (O4 y.name x.name))) [a0,ax,a1,a2,a3,a4,a5,.cells (x.enc.map .d)]:=by
 suffices h:Pq A 249 [TV y,.ptr 7 0] [a0,ax,a1,a2,a3,a4,a5,.cells (x.enc.map .d)] l7 λv H1=>v= .d (.bool (O4 y.name x.name))/\H1=[a0,ax,a1,a2,a3,a4,a5,.cells (x.enc.map .d)] by
  obtain ⟨v,H1,⟨rfl,rfl⟩,h⟩:=h;exact h
 refine Pq.go 2 ?_;refine gr ?_;exact ⟨_,_,rfl,rfl,rfl⟩
def Uk (x:U4):List U4->Nat->Int
 |[],_=> -1
 |y::r,i=>if O4 y.name x.name then i else Uk x r (i+1)
theorem OE (x:U4):∀(l:List U4) (i:Nat),aH 0 (Uk x l i)=l.any λy=>O4 y.name x.name
 |[],i=>by simp [Uk,x8]
 |y::r,i=>by
  have h1:=OE x r (i+1)
  grind [Uk,O4,x8]
set_option maxHeartbeats 2000000 in
def aN1 (a0 ax a1 a2 a3 a4 a5:x4)(x:U4)(ys:List U4)(hy:O ys<=1000):Pm A 277 [.d (y6 U4.enc ys),.func 249 [] [.ptr 7 0]] [a0,ax,a1,a2,a3,a4,a5,.cells (x.enc.map .d)] l7 (.d (Z (Uk x ys 0))) [a0,ax,a1,a2,a3,a4,a5,.cells (x.enc.map .d)]:=by
 suffices h:Pq A 277 [.d (y6 U4.enc ys),.func 249 [] [.ptr 7 0]] [a0,ax,a1,a2,a3,a4,a5,.cells (x.enc.map .d)] l7 λv H1=>v= .d (Z (Uk x ys 0))/\H1=[a0,ax,a1,a2,a3,a4,a5,.cells (x.enc.map .d)] by
  obtain ⟨v,H1,⟨rfl,rfl⟩,h⟩:=h;exact h
 refine Pq.go 4 ?_;refine gr ?_;refine Ex.M4 (λk T H=>∃(i:Nat),T=[.d (y6 U4.enc ys),.func 249 [] [.ptr 7 0],.any,.any,.d (Z (O ys)),.d (Z i)]/\H=[a0,ax,a1,a2,a3,a4,a5,.cells (x.enc.map .d)]/\i+k=O ys/\Uk x ys 0=Uk x (ys.drop i) i) ?_ (k:=O ys) ⟨0,rfl,rfl,U,U⟩;rintro k _ _ ⟨i,rfl,rfl,hk,hi⟩;refine Ex.seq ?_;refine tb (F0 i (O ys)) (λh1=>?_) (λh1=>?_)
 .have h2:=C8 h1
  rw [D8 V] at hi;have p1:=aM5 a0 ax a1 a2 a3 a4 a5 x (Y ys i);refine gr ?_;refine tB (O4 (Y ys i).name x.name) ?_ (λh3=>?_) (λh3=>?_)
  .repeat' (first|refine cv1 p1 rfl ?_|refine gx ?_|refine fq (λhw=>?_) λhw=>?_|refine ⟨rfl,rfl,_,rfl,?_⟩|rfl|fail)
  .refine gr ?_
   exact ⟨_,_,rfl,by rw [hi,Uk,h3];rfl,rfl⟩
  .refine gr ?_
   exact kk ⟨i+1,rfl,rfl,V,by simp_all [Uk]⟩
 .have h2:=D4 h1
  rw [n5 V] at hi;refine gr ?_;exact ⟨_,_,rfl,by rw [hi];rfl,rfl⟩
def aM4 (a0 ax a1 a2 a3 a4 a5:x4)(x:U4)(ys:List U4)(hy:O ys<=1000):Pm A 248 [.d (y6 U4.enc ys),.func 249 [] [.ptr 7 0]] [a0,ax,a1,a2,a3,a4,a5,.cells (x.enc.map .d)] l7 (.d (.bool (ys.any λy=>O4 y.name x.name))) [a0,ax,a1,a2,a3,a4,a5,.cells (x.enc.map .d)]:=by
 have p1:=aN1 a0 ax a1 a2 a3 a4 a5 x ys hy;rw [<- OE x ys 0]
 suffices h:Pq A 248 [.d (y6 U4.enc ys),.func 249 [] [.ptr 7 0]] [a0,ax,a1,a2,a3,a4,a5,.cells (x.enc.map .d)] l7 λv H1=>v= .d (.bool (aH 0 (Uk x ys 0)))/\H1=[a0,ax,a1,a2,a3,a4,a5,.cells (x.enc.map .d)] by
  obtain ⟨v,H1,⟨rfl,rfl⟩,h⟩:=h;exact h
 refine Pq.go 1 ?_
 repeat' (first|refine c1 p1 rfl ?_|refine gx ?_|fail)
 exact ⟨_,_,rfl,rfl,rfl⟩
def aI5 (x:U4):Pf A 214 [TV x] (.d (.str x.name)):=by
 refine Pf.gr 2 ?_;exact ⟨_,rfl,rfl⟩
def aI7 (x:U4):Pf A 216 [TV x] (.d (Z x.type)):=by
 refine Pf.gr 2 ?_;exact ⟨_,rfl,rfl⟩
set_option maxHeartbeats 2000000 in
def aI4 (xs:List U4)(hx:O xs<=1000):Pf A 213 [.d (y6 U4.enc xs),.func 214 [] []] (.d (y6 encS (xs.map U4.name))):=by
 refine Pf.gr 6 ?_;refine Ex.S4 (λk T H=>∃(i:Nat) (acc:List K0),T=[.any,.func 214 [] [],.any,B9 1 encS acc,.any,.d (y6 U4.enc xs),.d (Z (O xs)),.d (Z i)]/\H=[]/\i+k=O xs/\acc=(xs.take i).map U4.name) ?_ (k:=O xs) ⟨0,[],rfl,rfl,U,U⟩;rintro k _ _ ⟨i,acc,rfl,rfl,hk,hacc⟩;have hl:O acc=i:=by rw [hacc];simp;omega
 refine Ex.seq ?_;refine tl i (O xs) (λh2=>?_) (λh2=>?_)
 .have p1:=aI5 (Y xs i)
  repeat' (first|refine cv p1 ?_|refine gx ?_|fail)
  exact kk ⟨_,_,rfl,i+1,acc++[(Y xs i).name],rfl,rfl,V,by rw [H8 V,hacc];simp⟩
 .rw [A4 V] at hacc
  refine gr ?_;exact ⟨_,rfl,by rw [<- hacc];rfl⟩
set_option maxHeartbeats 2000000 in
def aI6 (xs:List U4)(hx:O xs<=1000):Pf A 215 [.d (y6 U4.enc xs),.func 216 [] []] (.d (ints (xs.map U4.type))):=by
 refine Pf.gr 6 ?_;refine Ex.S4 (λk T H=>∃(i:Nat) (acc:List Int),T=[.any,.func 216 [] [],.any,B9 1 (λn=>[Z n]) acc,.any,.d (y6 U4.enc xs),.d (Z (O xs)),.d (Z i)]/\H=[]/\i+k=O xs/\acc=(xs.take i).map U4.type) ?_ (k:=O xs) ⟨0,[],rfl,rfl,U,U⟩;rintro k _ _ ⟨i,acc,rfl,rfl,hk,hacc⟩;have hl:O acc=i:=by rw [hacc];simp;omega
 refine Ex.seq ?_;refine tl i (O xs) (λh2=>?_) (λh2=>?_)
 .have p1:=aI7 (Y xs i)
  repeat' (first|refine cv p1 ?_|refine gx ?_|fail)
  exact kk ⟨_,_,rfl,i+1,acc++[(Y xs i).type],rfl,rfl,V,by rw [H8 V,hacc];simp⟩
 .rw [A4 V] at hacc
  refine gr ?_;exact ⟨_,rfl,by rw [<- hacc];rfl⟩
def rD (c:p9)(ss:List gD)(t:fR)(i:Nat):Int :=
 if !M3 (Y t.o7 i).name||(!O4 (Y t.o7 i).space []&& !M3 (Y t.o7 i).space) then 3
 else if (t.o7.take i).any λy=>O4 y.name (Y t.o7 i).name then 4
 else if !O4 (Y t.o7 i).refs []&&F0 (J5 (Y t.o7 i).refs (ss.map (·.1)) 0) 0 then 7
 else if !(x5 (Y t.o7 i).type 1||x5 (Y t.o7 i).type 2)||(aH 0 (J5 (Y t.o7 i).refs (ss.map (·.1)) 0)&& !x5 (Y t.o7 i).type (Y (Y ss (J5 (Y t.o7 i).refs (ss.map (·.1)) 0).toNat).2.2 0)) then 5
 else if (!O4 (Y t.o7 i).space []&& !O4 (Y t.o7 i).refs [])|| !W3 t (-1) (Y t.o7 i).D6|| !nW t (Y t.o7 i) then 1
 else if x5 i 0&&F0 0 (O (Y t.o7 i).D6)&& !x5 t.erase 1 then 1
 else if aH 0 (J5 (Y t.o7 i).refs (ss.map (·.1)) 0)&&F0 0 (O (Y (Y c.j7 (J5 (Y t.o7 i).refs (ss.map (·.1)) 0).toNat).o7 0).D6)&& !((Y t.o7 i).D6.any λy=>x5 y i) then 1
 else 0
set_option maxHeartbeats 8000000 in
def aM2 [Inhabited XO] (c:p9)(ds:List K0)(ss:List gD)(t:fR)(i:Nat)(hi:i<O t.o7)(hc:O t.o7<=1000)(ho:O (Y t.o7 i).D6<=1000)(hss:O ss<=O c.j7)(ht:∀k,k<O ss->0<O (Y ss k).2.2/\0<O (Y c.j7 k).o7) :
  Pm A 211 [.ptr 5 0,U1 t,.d (Z i)] (HH c ds ss) lR (.d (Z (rD c ss t i))) (HH c ds ss):=by
 have p61:=Nw c ds ss (Y t.o7 i).refs;have b1:=Bn ss (Y t.o7 i).refs;have b2:(J5 (Y t.o7 i).refs (ss.map (·.1)) 0)= -1\/(0<=(J5 (Y t.o7 i).refs (ss.map (·.1)) 0)/\(J5 (Y t.o7 i).refs (ss.map (·.1)) 0)<O ss/\0<O (Y ss (J5 (Y t.o7 i).refs (ss.map (·.1)) 0).toNat).2.2/\0<O (Y c.j7 (J5 (Y t.o7 i).refs (ss.map (·.1)) 0).toNat).o7):=by
  rcases b1 with h|h
  .exact Or.inl h
  .have:=ht (J5 (Y t.o7 i).refs (ss.map (·.1)) 0).toNat V
   exact Or.inr ⟨h.1,h.2,this.1,this.2⟩
 have bv7:=aJ7 t (Y t.o7 i).D6 ho hc;have bv8:=aJ8 t (Y t.o7 i);have q49:=br4 (Y t.o7 i).D6 i V
 suffices h:Pq A 211 [.ptr 5 0,U1 t,.d (Z i)] (HH c ds ss) lR λv H1=>v= .d (Z (rD c ss t i))/\H1=HH c ds ss by
  obtain ⟨v,H1,⟨rfl,rfl⟩,h⟩:=h;exact h
 unfold HH at *
 have bv6:=aM4 xa xo (.cells (c.enc.map .d)) (.map (dmap ds)) (.map (gn (ss.map (·.1)) 0)) (.cells (c.enc.map .d++[.map 3,.map 4,B9 2 aG ss])) (.cells (t.enc.map .d)) (Y t.o7 i) (t.o7.take i) D;refine Pq.go 5 ?_;refine gr ?_;refine tc (!M3 (Y t.o7 i).name||(!O4 (Y t.o7 i).space []&& !M3 (Y t.o7 i).space)) Vv (λh1=>?_) (λh1=>?_)
 .refine gr ?_
  exact ⟨_,_,rfl,by unfold rD;rw [h1];rfl,rfl⟩
 refine gr ?_;refine tB ((t.o7.take i).any λy=>O4 y.name (Y t.o7 i).name) ?_ (λh2=>?_) (λh2=>?_)
 .repeat' (first|refine c1 bv6 rfl ?_|refine gx ?_|refine fq (λhw=>?_) λhw=>?_|refine ⟨rfl,rfl,_,rfl,?_⟩|refine ⟨rfl,rfl⟩|fail)
  all_goals exact cc
 .refine gr ?_
  exact ⟨_,_,rfl,by unfold rD;rw [h1,h2];rfl,rfl⟩
 repeat' (first|refine c1 p61 rfl ?_|refine gx ?_|fail)
 refine tb (!O4 (Y t.o7 i).refs []&&F0 (J5 (Y t.o7 i).refs (ss.map (·.1)) 0) 0) (λh3=>?_) (λh3=>?_)
 .refine gr ?_
  exact ⟨_,_,rfl,by unfold rD;rw [h1,h2,h3];rfl,rfl⟩
 refine gr ?_;refine tc (!(x5 (Y t.o7 i).type 1||x5 (Y t.o7 i).type 2)||(aH 0 (J5 (Y t.o7 i).refs (ss.map (·.1)) 0)&& !x5 (Y t.o7 i).type (Y (Y ss (J5 (Y t.o7 i).refs (ss.map (·.1)) 0).toNat).2.2 0))) aJ6 (λh4=>?_) (λh4=>?_)
 .refine gr ?_
  exact ⟨_,_,rfl,by unfold rD;rw [h1,h2,h3,h4];rfl,rfl⟩
 refine gr ?_;refine tc ((!O4 (Y t.o7 i).space []&& !O4 (Y t.o7 i).refs [])|| !W3 t (-1) (Y t.o7 i).D6|| !nW t (Y t.o7 i)) (And.intro bv7 bv8) (λh5=>?_) (λh5=>?_)
 .refine gr ?_
  exact ⟨_,_,rfl,by unfold rD;rw [h1,h2,h3,h4,h5];rfl,rfl⟩
 refine gr ?_;refine tb (x5 i 0&&F0 0 (O (Y t.o7 i).D6)&& !x5 t.erase 1) (λh6=>?_) (λh6=>?_)
 .refine gr ?_
  exact ⟨_,_,rfl,by unfold rD;rw [h1,h2,h3,h4,h5,h6];rfl,rfl⟩
 refine gr ?_;refine tc (aH 0 (J5 (Y t.o7 i).refs (ss.map (·.1)) 0)&&F0 0 (O (Y (Y c.j7 (J5 (Y t.o7 i).refs (ss.map (·.1)) 0).toNat).o7 0).D6)&& !((Y t.o7 i).D6.any λy=>x5 y i)) q49 (λh7=>?_) (λh7=>?_)
 .refine gr ?_
  exact ⟨_,_,rfl,by unfold rD;rw [h1,h2,h3,h4,h5,h6,h7];rfl,rfl⟩
 refine gr ?_;exact ⟨_,_,rfl,by unfold rD;rw [h1,h2,h3,h4,h5,h6,h7];rfl,rfl⟩
def Eh (c:p9)(ss:List gD)(t:fR):Nat->Nat->Int
 |0,_=>0
 |k+1,i=>if !x5 (rD c ss t i) 0 then rD c ss t i else Eh c ss t k (i+1)
def qo (t:fR):Bool:= !s4 (O t.o7) 1 8||(!x5 t.erase 0&& !x5 t.erase 1)|| !s4 t.cz 0 1048576
def wY (c:p9)(ss:List gD)(ds:List K0)(t:fR):Int :=
 if !x5 (R3 ds t.name) 0 then R3 ds t.name else if qo t then 1 else Eh c ss t (O t.o7) 0
def KE (c:p9)(ss:List gD)(ds:List K0)(t:fR):List gD:=if x5 (wY c ss ds t) 0 then ss++[(t.name,t.o7.map U4.name,t.o7.map U4.type)] else ss
set_option maxHeartbeats 8000000 in
def bt1 [Inhabited XO] (c:p9)(ds:List K0)(ss:List gD)(i:Nat)(hi:i<O c.j7)(hc:O (Y c.j7 i).o7<=1000)(ho:∀j,j<O (Y c.j7 i).o7->O (Y (Y c.j7 i).o7 j).D6<=1000)(hss:O ss<=O c.j7)(bl3:O ss<=1000)(hi2:O c.j7<=1000)
  (ht:∀k,k<O ss->0<O (Y ss k).2.2/\0<O (Y c.j7 k).o7) (hsub:∀s,(ds.any λy=>O4 y s)=F->((ss.map (·.1)).any λy=>O4 y s)=F) :
  Pm A 149 [.ptr 5 0,.d (Z i)] (HH c ds ss) lW (.d (Z (wY c ss ds (Y c.j7 i)))) (HH c (P8 ds (Y c.j7 i).name) (KE c ss ds (Y c.j7 i))):=by
 generalize hx:Y c.j7 i=t at *
 have tD:=yj c ds ss t.name;have aq3:∀j,j<O t.o7->Pm A 211 [.ptr 5 0,U1 t,.d (Z j)] (HH c (P8 ds t.name) ss) lR (.d (Z (rD c ss t j))) (HH c (P8 ds t.name) ss):=λj hj=>aM2 c (P8 ds t.name) ss t j hj hc (ho j hj) hss ht
 have bu9:=aI4 t.o7 hc;have bv0:=aI6 t.o7 hc;have Vp:R3 ds t.name=0->Pm A 212 [.ptr 5 0,.d (.str t.name),Ow (t.o7.map U4.name) (t.o7.map U4.type)] (HH c (P8 ds t.name) ss) lW (.tuple []) (HH c (P8 ds t.name) (ss++[(t.name,t.o7.map U4.name,t.o7.map U4.type)])):=λh=>by
  refine VD c (P8 ds t.name) ss t.name _ _ (hsub _ ?_) bl3;unfold R3 at h;cases h1:(!M3 t.name) with
  |true=>rw [h1] at h;simp at h
  |false =>
   rw [h1] at h;cases h2:ds.any λy=>O4 y t.name with
   |false=>rfl
   |true=>rw [h2] at h;simp at h
 suffices h:Pq A 149 [.ptr 5 0,.d (Z i)] (HH c ds ss) lW λv H1=>v= .d (Z (wY c ss ds t))/\H1=HH c (P8 ds t.name) (KE c ss ds t) by
  obtain ⟨v,H1,⟨rfl,rfl⟩,h⟩:=h;exact h
 have fin:∀e:Int,x5 e 0=F->wY c ss ds t=e->KE c ss ds t=ss:=λe h1 h2=>by unfold KE;rw [h2,h1];rfl
 unfold HH at *
 refine Pq.go 7 ?_;refine gr ?_;rw [hx]
 repeat' (first|refine c0 tD rfl (h2:=?_)|refine gx ?_|fail)
 refine tb (!x5 (R3 ds t.name) 0) (λh1=>?_) (λh1=>?_)
 .have e1:wY c ss ds t=R3 ds t.name:=by unfold wY;rw [h1];rfl
  refine gr ?_;exact ⟨_,_,rfl,by rw [e1];rfl,by rw [fin _ (by simpa using h1) e1];rfl⟩
 refine gr ?_;refine tB (qo t) ?_ (λh2=>?_) (λh2=>?_)
 .repeat' (first|refine cl (pZ _ _ _) ?_|refine gx ?_|refine fq (λhw=>?_) λhw=>?_|refine ⟨rfl,rfl,_,rfl,?_⟩|refine ⟨rfl,rfl⟩|fail)
  all_goals first|(simp [*,j4,qo];done)|(simp_all [j4,qo];done)|(simp_all [j4,qo,A1,x8,o9,I9];done)|(simp_all [j4,qo,A1,x8,o9,I9]<;>omega)
 .have e1:wY c ss ds t=1:=by unfold wY;rw [h1,h2];rfl
  refine gr ?_;exact ⟨_,_,rfl,by rw [e1];rfl,by rw [fin 1 (by simp [o9]) e1];rfl⟩
 refine gr ?_;refine Ex.fh (λk T H=>∃(j:Nat) (w1 w2 w4 w5 w6:c7),T=[.ptr 5 0,w1,w2,.ptr 6 0,w4,w5,w6,.d (Z (O t.o7)),.d (Z j)]/\H=[xa,xo,.cells (c.enc.map .d),.map (dmap (P8 ds t.name)),.map (gn (ss.map (·.1)) 0),.cells (c.enc.map .d++[.map 3,.map 4,B9 2 aG ss]),.cells (t.enc.map .d)]/\j+k=O t.o7/\wY c ss ds t=Eh c ss t k j) ?_ (k:=O t.o7) ⟨0,_,_,_,_,_,rfl,rfl,U,by unfold wY;rw [h1,h2];rfl⟩;rintro k _ _ ⟨j,w1,w2,w4,w5,w6,rfl,rfl,hk,hj⟩;refine Ex.nT ?_;refine Ex.seq ?_;refine tl j (O t.o7) (λh4=>?_) (λh4=>?_)
 .obtain ⟨k,rfl⟩:∃k',k=k' +1:=⟨k - 1,V⟩
  have bu8:=aq3 j V;rw [Eh] at hj
  repeat' (first|refine c1 bu8 rfl ?_|refine gx ?_|fail)
  refine tb (!x5 (rD c ss t j) 0) (λh5=>?_) (λh5=>?_)
  .rw [h5,if_pos rfl] at hj
   refine gr ?_;exact ⟨_,_,rfl,by rw [hj];rfl,by rw [fin _ (by simpa using h5) hj];rfl⟩
  .rw [h5,if_neg U] at hj
   refine gr ?_;exact ⟨k,V,j+1,_,_,_,_,_,rfl,rfl,V,hj⟩
 .obtain rfl:k=0:=V
  have as2:=Vp (br (by simpa using h1));have e1:wY c ss ds t=0:=hj;have e2:KE c ss ds t=ss++[(t.name,t.o7.map U4.name,t.o7.map U4.type)]:=by unfold KE;rw [e1];simp [o9]
  rw [e2]
  repeat' (first|refine cl (bu9) ?_|refine cl (bv0) ?_|refine c0 as2 rfl (h2:=?_)|refine gx ?_|fail)
  exact ⟨_,_,rfl,by rw [e1];rfl,rfl⟩
def rlV (c:p9)(ss:List gD)(x:oo):Vw:=Y c.views (J5 x.source (ss.map (·.1)) 0 - O c.j7).toNat
def Kn (c:p9)(ss:List gD)(ds:List K0)(x:oo):Int:=if !x5 (R3 ds x.name) 0 then R3 ds x.name else if F0 (J5 x.source (ss.map (·.1)) 0 - O c.j7) 0 then 7
 else if !x5 (rlV c ss x).kind 1|| !x5 (Y (rlV c ss x).I6 0).func 0|| !s4 x.thr 1 1024 then 1 else 0
def bkL (c:p9)(ss:List gD):List K0->List K0->Int
 |_,[]=>0
 |seen,t::r=>if !nQ c ss t then 7 else if seen.any λy=>O4 y t then 4 else bkL c ss (seen++[t]) r
def bkM (c:p9)(ss:List gD)(ds:List K0)(x:ru):Int:=if !x5 (R3 ds x.name) 0 then R3 ds x.name else if x5 (O x.tables) 0|| !s4 x.keep 1 1048576 then 1 else bkL c ss [] x.tables
set_option maxHeartbeats 4000000 in
def bt6 [Inhabited XO] (c:p9)(ds:List K0)(ss:List gD)(i:Nat)(hi:i<O c.M7)(hc:O c.j7<=1000)(hss:O ss<=O c.j7+O c.views)(hsv:O c.views<=1000)(hg:∀k,k<O c.views->(Y c.views k).kind≠1\/0<O (Y c.views k).I6):Pm A 154 [.ptr 5 0,.d (Z i)] (HH c ds ss) lW (.d (Z (Kn c ss ds (Y c.M7 i)))) (HH c (P8 ds (Y c.M7 i).name) ss):=by
 have tD:=yj c ds ss (Y c.M7 i).name;have p61:=Nw c (P8 ds (Y c.M7 i).name) ss (Y c.M7 i).source;have b1:=Bn ss (Y c.M7 i).source
 suffices h:Pq A 154 [.ptr 5 0,.d (Z i)] (HH c ds ss) lW λv H1=>v= .d (Z (Kn c ss ds (Y c.M7 i)))/\H1=HH c (P8 ds (Y c.M7 i).name) ss by
  obtain ⟨v,H1,⟨rfl,rfl⟩,h⟩:=h;exact h
 generalize hx:Y c.M7 i=x at *
 unfold HH at *
 refine Pq.go 5 ?_;refine gr ?_;rw [hx]
 repeat' (first|refine c0 tD rfl (h2:=?_)|refine gx ?_|fail)
 refine tb (!x5 (R3 ds x.name) 0) (λh1=>?_) (λh1=>?_)
 .refine gr ?_
  exact ⟨_,_,rfl,by unfold Kn;rw [h1];rfl,rfl⟩
 repeat' (first|refine c1 p61 rfl ?_|refine gx ?_|fail)
 refine tb (F0 (J5 x.source (ss.map (·.1)) 0 - O c.j7) 0) (λh2=>?_) (λh2=>?_)
 .refine gr ?_
  exact ⟨_,_,rfl,by unfold Kn;rw [h1,h2];rfl,rfl⟩
 have h3:=D4 h2;have h4:=hg (J5 x.source (ss.map (·.1)) 0 - O c.j7).toNat V;have hrv:Y c.views (J5 x.source (ss.map (·.1)) 0 - O c.j7).toNat=rlV c ss x:=rfl;refine gr ?_;rw [hrv] at h4 ⊢;refine gr ?_;refine tc (!x5 (rlV c ss x).kind 1|| !x5 (Y (rlV c ss x).I6 0).func 0|| !s4 x.thr 1 1024) pZ (λh5=>?_) (λh5=>?_)
 .refine gr ?_
  exact ⟨_,_,rfl,by unfold Kn;rw [h1,h2,h5];rfl,rfl⟩
 .refine gr ?_
  exact ⟨_,_,rfl,by unfold Kn;rw [h1,h2,h5];rfl,rfl⟩
set_option maxHeartbeats 4000000 in
def bt8 [Inhabited XO] (c:p9)(ds:List K0)(ss:List gD)(i:Nat)(hi:i<O c.Q3)(hc:O c.j7<=1000)(hx1:O (Y c.Q3 i).tables<=1000):Pm A 156 [.ptr 5 0,.d (Z i)] (HH c ds ss) lW (.d (Z (bkM c ss ds (Y c.Q3 i)))) (HH c (P8 ds (Y c.Q3 i).name) ss):=by
 have tD:=yj c ds ss (Y c.Q3 i).name;have SD:∀s,Pm A 223 [.ptr 5 0,.d (.str s)] (HH c (P8 ds (Y c.Q3 i).name) ss) lR (.d (.bool (nQ c ss s))) (HH c (P8 ds (Y c.Q3 i).name) ss):=λs=>af5 c (P8 ds (Y c.Q3 i).name) ss s hc
 suffices h:Pq A 156 [.ptr 5 0,.d (Z i)] (HH c ds ss) lW λv H1=>v= .d (Z (bkM c ss ds (Y c.Q3 i)))/\H1=HH c (P8 ds (Y c.Q3 i).name) ss by
  obtain ⟨v,H1,⟨rfl,rfl⟩,h⟩:=h;exact h
 generalize hx:Y c.Q3 i=x at *
 unfold HH at *
 refine Pq.go 8 ?_;refine gr ?_;rw [hx]
 repeat' (first|refine c0 tD rfl (h2:=?_)|refine gx ?_|fail)
 refine tb (!x5 (R3 ds x.name) 0) (λh1=>?_) (λh1=>?_)
 .refine gr ?_
  exact ⟨_,_,rfl,by unfold bkM;rw [h1];rfl,rfl⟩
 refine gr ?_;refine tc (x5 (O x.tables) 0|| !s4 x.keep 1 1048576) pZ (λh2=>?_) (λh2=>?_)
 .refine gr ?_
  exact ⟨_,_,rfl,by unfold bkM;rw [h1,h2];rfl,rfl⟩
 refine gr ?_;refine Ex.M4 (λk T H=>∃(j:Nat),T=[.ptr 5 0,.any,.any,.ptr 6 0,.any,.any,.any,.d (y6 (λs=>[.str s]) x.tables),.d (Z (O x.tables)),.d (Z j)]/\H=[xa,xo,.cells (c.enc.map .d),.map (dmap (P8 ds x.name)),.map (gn (ss.map (·.1)) 0),.cells (c.enc.map .d++[.map 3,.map 4,B9 2 aG ss]),.cells (x.enc.map .d)]/\j+k=O x.tables/\bkM c ss ds x=bkL c ss (x.tables.take j) (x.tables.drop j)) ?_ (k:=O x.tables) ⟨0,rfl,rfl,U,by simp [bkM,h1,h2]⟩;rintro k _ _ ⟨j,rfl,rfl,hk,hj⟩;refine Ex.seq ?_;refine tl j (O x.tables) (λh4=>?_) (λh4=>?_)
 .rw [D8 V] at hj
  have bv4:=SD (Y x.tables j);have bv5:=ae8 (x.tables.take j) (Y x.tables j) D;refine gr ?_;refine tB (!nQ c ss (Y x.tables j)) ?_ (λh5=>?_) (λh5=>?_)
  .repeat' (first|refine c1 bv4 rfl ?_|refine gx ?_|refine fq (λhw=>?_) λhw=>?_|refine ⟨rfl,rfl,_,rfl,?_⟩|refine ⟨rfl,rfl⟩|fail)
   all_goals exact cc
  .refine gr ?_
   exact ⟨_,_,rfl,by rw [hj];unfold bkL;rw [h5];rfl,rfl⟩
  refine gr ?_;refine tc ((x.tables.take j).any λy=>O4 y (Y x.tables j)) bv5 (λh6=>?_) (λh6=>?_)
  .refine gr ?_
   exact ⟨_,_,rfl,by rw [hj];unfold bkL;rw [h5,h6];rfl,rfl⟩
  .refine gr ?_
   refine kk ⟨j+1,rfl,rfl,V,?_⟩;rw [hj,H8 V];simp only [bkL,h5,h6,j5,if_false]
 .rw [n5 V] at hj
  refine gr ?_;exact ⟨_,_,rfl,by rw [hj];rfl,rfl⟩
end Go.Proofs.YtibjocmpkoepoaaGreat


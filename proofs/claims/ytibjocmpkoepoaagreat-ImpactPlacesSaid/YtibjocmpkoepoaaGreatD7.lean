import Derived.Test.YtibjocmpkoepoaaGreatD4
set_option linter.all false
open Bool renaming false_eq_true→e8,true→W,false→F
open List renaming drop_of_length_le→o7,length_map→C5,take_of_length_le→y6,length→O
open Option renaming some→J,none→K
namespace Go.Proofs.YtibjocmpkoepoaaGreat
open Go.B3 Go.B3.S
attribute [local irreducible] Rx Ry Rn Ex Pf
structure XO where
 a:B4
 b:B4
 ha:a.K9=0
 hb:b.K9=0
abbrev xa [Inhabited XO]:B4:=(default:XO).a
abbrev xo [Inhabited XO]:B4:=(default:XO).b
abbrev gU:=M6×List M6×List Int
def aL (s:gU):List B3.Data:=[B8 encS s.2.1,ints s.2.2]
def HH [Inhabited XO] (c:s6)(ds:List M6)(ss:List gU):n9 :=
 [xa,xo,.cells (c.enc.map .d),.map (dmap ds),.map (gH (ss.map (·.1)) 0),.cells (c.enc.map .d++[.map 3,.map 4,L1 2 aL ss])]
def lW:H8:=⟨0,0,6,6⟩
def lR:H8:=⟨0,6,6,6⟩
theorem Ge (s:M6):∀(l:List M6) (i:Nat),eV .s (.str s) (gH l i)=J (if J2 (K6 s l i) 0 then K else J (.d (Z (K6 s l i))))
 |[],i=>by simp [gH,eV,K6,A5]
 |d::l,i=>by
  have h1:=Ge s l (i+1);have h2:(s==d)=Q2 d s:=by
   rw [I5,Bool.eq_iff_iff];simp only [beq_iff_eq];exact eq_comm
  simp only [gH,eV,Data.gA,K6,h2]
  by_cases hb:Q2 d s=W
  .simp [hb,A5,Z]
  .have hb' :Q2 d s=F:=by simpa using hb
   simp only [hb',e8,if_false];exact h1
def Vz [Inhabited XO] (c:s6)(ds:List M6)(ss:List gU)(s:M6):Pm A 125 [.ptr 5 0,.d (.str s)] (HH c ds ss) lR (.d (Z (K6 s (ss.map (·.1)) 0))) (HH c ds ss):=by
 have hf:=Ge s (ss.map (·.1)) 0
 suffices h:Pq A 125 [.ptr 5 0,.d (.str s)] (HH c ds ss) lR λv H1=>v= .d (Z (K6 s (ss.map (·.1)) 0))/\H1=HH c ds ss by
  obtain ⟨v,H1,⟨rfl,rfl⟩,h⟩:=h;exact h
 unfold HH;refine Pq.go 3 ?_;cases h1:J2 (K6 s (ss.map (·.1)) 0) 0 with
 |true =>
  rw [h1,if_pos rfl] at hf;have h2:=F5 h1;have h3:K6 s (ss.map (·.1)) 0= -1:=by rcases iH s (ss.map (·.1)) 0 with h|h<;>omega
  repeat' (first|refine lk2 hf rfl rfl ?_|refine gx ?_|fail)
  refine tb (F) (λh4=>?_) (λh4=>?_)
  .cases h4
  refine gr ?_;exact ⟨_,_,rfl,by rw [h3];rfl,rfl⟩
 |false =>
  rw [h1,if_neg U] at hf
  repeat' (first|refine lk2 hf rfl rfl ?_|refine gx ?_|fail)
  refine tb (W) (λh4=>?_) (λh4=>?_)
  .refine gr ?_
   exact ⟨_,_,rfl,rfl,rfl⟩
  .cases h4
def oK (c:s6)(ss:List gU)(s:M6):Bool:=s4 (K6 s (ss.map (·.1)) 0) 0 (O c.k9 - 1)
def aB7 [Inhabited XO] (c:s6)(ds:List M6)(ss:List gU)(s:M6)(hc:O c.k9<=1000):Pm A 223 [.ptr 5 0,.d (.str s)] (HH c ds ss) lR (.d (.bool (oK c ss s))) (HH c ds ss):=by
 have p1:=Vz c ds ss s
 suffices h:Pq A 223 [.ptr 5 0,.d (.str s)] (HH c ds ss) lR λv H1=>v= .d (.bool (oK c ss s))/\H1=HH c ds ss by
  obtain ⟨v,H1,⟨rfl,rfl⟩,h⟩:=h;exact h
 unfold HH at p1 ⊢;refine Pq.go 1 ?_
 repeat' (first|refine c1 p1 rfl ?_|refine cl (qN _ _ _) ?_|refine gx ?_|fail)
 exact ⟨_,_,rfl,rfl,rfl⟩
def R7 (ds:List M6)(s:M6):Int:=if !M5 s then 3 else if ds.any λy=>Q2 y s then 4 else 0
def P9 (ds:List M6)(s:M6):List M6:=if A1 (R7 ds s) 0 then ds++[s] else ds
def zk [Inhabited XO] (c:s6)(ds:List M6)(ss:List gU)(s:M6):Pm A 209 [.ptr 5 0,.d (.str s)] (HH c ds ss) lW (.d (Z (R7 ds s))) (HH c (P9 ds s) ss):=by
 have hf:=FE s ds
 suffices h:Pq A 209 [.ptr 5 0,.d (.str s)] (HH c ds ss) lW λv H1=>v= .d (Z (R7 ds s))/\H1=HH c (P9 ds s) ss by
  obtain ⟨v,H1,⟨rfl,rfl⟩,h⟩:=h;exact h
 unfold HH;refine Pq.go 1 ?_;have h10:A1 3 0=F:=by simp [p7]
 have h11:A1 4 0=F:=by simp [p7]
 have h12:A1 0 0=W:=by simp [p7]
 refine gr ?_;refine tc (!M5 s) YQ (λh1=>?_) (λh1=>?_)
 .refine gr ?_
  have e1:R7 ds s=3:=by unfold R7;rw [h1];rfl
  exact ⟨_,_,rfl,by rw [e1];rfl,by unfold P9;rw [e1,h10];rfl⟩
 cases h2:ds.any λy=>Q2 y s with
 |true =>
  rw [h2,if_pos rfl] at hf;have e1:R7 ds s=4:=by unfold R7;rw [h1,h2];rfl
  refine tB (W) ?_ (λh3=>?_) (λh3=>?_)
  .repeat' (first|refine lk1 hf rfl ?_|refine gx ?_|refine fq (λhw=>?_) λhw=>?_|refine ⟨rfl,rfl,_,rfl,?_⟩|refine ⟨rfl,rfl⟩|fail)
   all_goals exact cc
  .refine gr ?_
   exact ⟨_,_,rfl,by rw [e1];rfl,by unfold P9;rw [e1,h11];rfl⟩
  .cases h3
 |false =>
  rw [h2,if_neg U] at hf;have e1:R7 ds s=0:=by unfold R7;rw [h1,h2];rfl
  have hk:Data.gA .s (.str s) (.str s)=J W:=by simp [Data.gA]
  refine tB (F) ?_ (λh3=>?_) (λh3=>?_)
  .repeat' (first|refine lk1 hf rfl ?_|refine gx ?_|refine fq (λhw=>?_) λhw=>?_|refine ⟨rfl,rfl,_,rfl,?_⟩|refine ⟨rfl,rfl⟩|fail)
   all_goals exact cc
  .cases h3
  repeat' (first|refine mp (KJ s ds h2) hk (h2:=?_)|refine gx ?_|fail)
  exact ⟨_,_,rfl,by rw [e1];rfl,by unfold P9;rw [e1,h12];rfl⟩
def QL (nm:List M6)(ty:List Int):c7:= .agg [.d (B8 encS nm),.d (ints ty)]
def YT [Inhabited XO] (c:s6)(ds:List M6)(ss:List gU)(s:M6)(nm:List M6)(ty:List Int)(hs:((ss.map (·.1)).any λy=>Q2 y s)=F)(hl:O ss<=1000) :
  Pm A 212 [.ptr 5 0,.d (.str s),QL nm ty] (HH c ds ss) lW (.tuple []) (HH c ds (ss++[(s,nm,ty)])):=by
 have hput:=LJ s (ss.map (·.1)) 0 hs;rw [C5,Nat.zero_add] at hput;have hk:Data.gA .s (.str s) (.str s)=J W:=by simp [Data.gA]
 have hr:roomFor (O ss+1) 48=W:=by simp only [roomFor,decide_eq_true_eq];omega
 suffices h:Pq A 212 [.ptr 5 0,.d (.str s),QL nm ty] (HH c ds ss) lW λv H1=>v= .tuple []/\H1=HH c ds (ss++[(s,nm,ty)]) by
  obtain ⟨v,H1,⟨rfl,rfl⟩,h⟩:=h;exact h
 unfold HH;refine Pq.go 1 ?_
 repeat' (first|refine mp hput hk (h2:=?_)|refine o2 ?_|refine ac2 (a:=(s,nm,ty)) (xs:=ss) (enc:=aL) hr rfl (h2:=?_)|refine soO (h2:=?_)|refine gx ?_|fail)
 refine ⟨_,_,rfl,rfl,?_⟩;have e:((ss++[(s,nm,ty)]).map (·.1))=ss.map (·.1)++[s]:=U
 rw [e];rfl
def nN (ss:List gU)(s:M6)(col:Int):Int×Int :=
 if J2 (K6 s (ss.map (·.1)) 0) 0 then (0,7)
 else if !s4 col 0 (O (Y ss (K6 s (ss.map (·.1)) 0).toNat).2.2 - 1) then (0,3)
 else (Y (Y ss (K6 s (ss.map (·.1)) 0).toNat).2.2 col.toNat,0)
def CA (ss:List gU)(s:M6):K6 s (ss.map (·.1)) 0= -1\/(0<=K6 s (ss.map (·.1)) 0/\K6 s (ss.map (·.1)) 0<O ss):=by
 rcases iH s (ss.map (·.1)) 0 with h|h
 .exact Or.inl h
 .right;simp at h;omega
def YU [Inhabited XO] (c:s6)(ds:List M6)(ss:List gU)(s:M6)(col:Int)(uQ:∀k,k<O ss->O (Y ss k).2.2<=100000):Pm A 222 [.ptr 5 0,.d (.str s),.d (Z col)] (HH c ds ss) lR (.tuple [.d (Z (nN ss s col).1),.d (Z (nN ss s col).2)]) (HH c ds ss):=by
 have p1:=Vz c ds ss s;have b1:=CA ss s
 suffices h:Pq A 222 [.ptr 5 0,.d (.str s),.d (Z col)] (HH c ds ss) lR λv H1=>v= .tuple [.d (Z (nN ss s col).1),.d (Z (nN ss s col).2)]/\H1=HH c ds ss by
  obtain ⟨v,H1,⟨rfl,rfl⟩,h⟩:=h;exact h
 unfold HH at p1 ⊢;refine Pq.go 4 ?_
 repeat' (first|refine c1 p1 rfl ?_|refine gx ?_|fail)
 refine tb (J2 (K6 s (ss.map (·.1)) 0) 0) (λh1=>?_) (λh1=>?_)
 .refine gr ?_
  exact ⟨_,_,rfl,by unfold nN;rw [h1];rfl,rfl⟩
 have h2:=G7 h1;have h3:=uQ (K6 s (ss.map (·.1)) 0).toNat V;refine gr ?_;refine tc (!s4 col 0 (O (Y ss (K6 s (ss.map (·.1)) 0).toNat).2.2 - 1)) qN (λh4=>?_) (λh4=>?_)
 .refine gr ?_
  exact ⟨_,_,rfl,by unfold nN;rw [h1,h4];rfl,rfl⟩
 have h5:=h4;simp [s4,A7] at h5;refine gr ?_;exact ⟨_,_,rfl,by unfold nN;rw [h1,h4];rfl,rfl⟩
def tv (x:M6):List M6->Nat->Int
 |[],_=> -1
 |y::r,i=>if Q2 x y then i else tv x r (i+1)
theorem FI (x:M6):∀(l:List M6) (i:Nat),bC 0 (tv x l i)=l.any λy=>Q2 y x
 |[],i=>by simp [tv,A7]
 |y::r,i=>by
  have h1:=FI x r (i+1);have h2:Q2 x y=Q2 y x:=by simp [I5];grind
  grind [tv,Q2,A7]
def bg3 (xs:List M6)(x:M6)(hx:O xs<=100000):Pf A 260 [.d (B8 encS xs),.d (.str x)] (.d (Z (tv x xs 0))):=by
 refine Pf.gr 4 ?_;refine Ex.R8 (λk T H=>∃(i:Nat),T=[.d (B8 encS xs),.d (.str x),.any,.any,.d (Z (O xs)),.d (Z i)]/\H=[]/\i+k=O xs/\tv x xs 0=tv x (xs.drop i) i) ?_ (k:=O xs) ⟨0,rfl,rfl,U,U⟩;rintro k _ _ ⟨i,rfl,rfl,hk,hi⟩
 repeat' (first|refine gy ?_|refine ft (λht=>?_) λht=>?_|refine ⟨_,rfl,?_⟩|fail)
 .have h1:=F5 ‹J2 i _=W›
  rw [E3 V] at hi;simp [hi,tv,ht,j5,Z]
 .have h1:=F5 ‹J2 i _=W›
  rw [E3 V] at hi;exact kk ⟨i+1,rfl,rfl,V,by simp [hi,tv,ht]⟩
 .have h1:=G7 ht
  rw [o7 V] at hi;simp [hi,tv,j5,Z]
def aB3 (xs:List M6)(x:M6)(hx:O xs<=100000):Pf A 224 [.d (B8 encS xs),.d (.str x)] (.d (.bool (xs.any λy=>Q2 y x))):=by
 rw [<- FI x xs 0];refine Pf.go 1 ?_;refine gc (bg3 xs x hx) ?_;exact ⟨_,rfl,rfl⟩
def EV (x:Int):List Int->Nat->Int
 |[],_=> -1
 |y::r,i=>if A1 x y then i else EV x r (i+1)
theorem KM (x:Int):∀(l:List Int) (i:Nat),bC 0 (EV x l i)=l.any λy=>A1 y x
 |[],i=>by simp [EV,A7]
 |y::r,i=>by
  have h1:=KM x r (i+1);have h2:A1 x y=A1 y x:=by simp [p7];grind
  grind [EV,A1,A7]
def bO3 (xs:List Int)(x:Int)(hx:O xs<=100000):Pf A 278 [.d (B8 (λn=>[Z n]) xs),.d (Z x)] (.d (Z (EV x xs 0))):=by
 refine Pf.gr 4 ?_;refine Ex.R8 (λk T H=>∃(i:Nat),T=[.d (B8 (λn=>[Z n]) xs),.d (Z x),.any,.any,.d (Z (O xs)),.d (Z i)]/\H=[]/\i+k=O xs/\EV x xs 0=EV x (xs.drop i) i) ?_ (k:=O xs) ⟨0,rfl,rfl,U,U⟩;rintro k _ _ ⟨i,rfl,rfl,hk,hi⟩
 repeat' (first|refine gy ?_|refine ft (λht=>?_) λht=>?_|refine ⟨_,rfl,?_⟩|fail)
 .have h1:=F5 ‹J2 i _=W›
  rw [E3 V] at hi;simp [hi,EV,ht,j5,Z]
 .have h1:=F5 ‹J2 i _=W›
  rw [E3 V] at hi;exact kk ⟨i+1,rfl,rfl,V,by simp [hi,EV,ht]⟩
 .have h1:=G7 ht
  rw [o7 V] at hi;simp [hi,EV,j5,Z]
def bN9 (xs:List Int)(x:Int)(hx:O xs<=100000):Pf A 253 [.d (B8 (λn=>[Z n]) xs),.d (Z x)] (.d (.bool (xs.any λy=>A1 y x))):=by
 rw [<- KM x xs 0];refine Pf.go 1 ?_;refine gc (bO3 xs x hx) ?_;exact ⟨_,rfl,rfl⟩
def Lk (ss:List gU)(ds:List M6)(x:pe):Int:=if !A1 (R7 ds x.name) 0 then R7 ds x.name else if !A1 (nN ss x.source x.col).2 0 then (nN ss x.source x.col).2 else if !A1 (nN ss x.source x.col).1 2 then 5 else 0
def Dq (ss:List gU)(ds:List M6)(x:oh):Int:=if !A1 (R7 ds x.name) 0 then R7 ds x.name else if !A1 (nN ss x.source x.col).2 0 then (nN ss x.source x.col).2
 else if !A1 x.kind 0&& !A1 x.kind 1&& !A1 x.kind 2 then 1
 else if !s4 x.width 1 1024|| !s4 x.depth 1 8||(A1 x.kind 2&& !A1 x.depth 1)||J2 1024 (x.width * x.depth) then 1 else 0
def Ky (ss:List gU)(ds:List M6)(x:rY):Int:=if !A1 (R7 ds x.name) 0 then R7 ds x.name else if !A1 (nN ss x.source x.col).2 0 then (nN ss x.source x.col).2 else if !s4 x.ttl 1 1048576 then 1 else 0
def Qj (c:s6)(ss:List gU)(ds:List M6)(x:uP):Int:=if !A1 (R7 ds x.name) 0 then R7 ds x.name else if !oK c ss x.table then 7 else 0
set_option maxHeartbeats 4000000 in
def bP4 [Inhabited XO] (c:s6)(ds:List M6)(ss:List gU)(i:Nat)(hi:i<O c.idxs)(uQ:∀k,k<O ss->O (Y ss k).2.2<=100000):Pm A 151 [.ptr 5 0,.d (Z i)] (HH c ds ss) lW (.d (Z (Lk ss ds (Y c.idxs i)))) (HH c (P9 ds (Y c.idxs i).name) ss):=by
 have uF:=zk c ds ss (Y c.idxs i).name;have PG:=YU c (P9 ds (Y c.idxs i).name) ss (Y c.idxs i).source (Y c.idxs i).col uQ
 suffices h:Pq A 151 [.ptr 5 0,.d (Z i)] (HH c ds ss) lW λv H1=>v= .d (Z (Lk ss ds (Y c.idxs i)))/\H1=HH c (P9 ds (Y c.idxs i).name) ss by
  obtain ⟨v,H1,⟨rfl,rfl⟩,h⟩:=h;exact h
 generalize hx:Y c.idxs i=x at *
 unfold HH at *
 refine Pq.go 5 ?_;refine gr ?_;rw [hx]
 repeat' (first|refine c0 uF rfl (h2:=?_)|refine gx ?_|fail)
 refine tb (!A1 (R7 ds x.name) 0) (λh1=>?_) (λh1=>?_)
 .refine gr ?_
  exact ⟨_,_,rfl,by unfold Lk;rw [h1];rfl,rfl⟩
 repeat' (first|refine c1 PG rfl ?_|refine gx ?_|fail)
 refine tb (!A1 (nN ss x.source x.col).2 0) (λh2=>?_) (λh2=>?_)
 .refine gr ?_
  exact ⟨_,_,rfl,by unfold Lk;rw [h1,h2];rfl,rfl⟩
 refine gr ?_;refine tb (!A1 (nN ss x.source x.col).1 2) (λh3=>?_) (λh3=>?_)
 .refine gr ?_
  exact ⟨_,_,rfl,by unfold Lk;rw [h1,h2,h3];rfl,rfl⟩
 .refine gr ?_
  exact ⟨_,_,rfl,by unfold Lk;rw [h1,h2,h3];rfl,rfl⟩
set_option maxHeartbeats 4000000 in
def bP6 [Inhabited XO] (c:s6)(ds:List M6)(ss:List gU)(i:Nat)(hi:i<O c.O0)(uQ:∀k,k<O ss->O (Y ss k).2.2<=100000):Pm A 153 [.ptr 5 0,.d (Z i)] (HH c ds ss) lW (.d (Z (Ky ss ds (Y c.O0 i)))) (HH c (P9 ds (Y c.O0 i).name) ss):=by
 have uF:=zk c ds ss (Y c.O0 i).name;have PG:=YU c (P9 ds (Y c.O0 i).name) ss (Y c.O0 i).source (Y c.O0 i).col uQ
 suffices h:Pq A 153 [.ptr 5 0,.d (Z i)] (HH c ds ss) lW λv H1=>v= .d (Z (Ky ss ds (Y c.O0 i)))/\H1=HH c (P9 ds (Y c.O0 i).name) ss by
  obtain ⟨v,H1,⟨rfl,rfl⟩,h⟩:=h;exact h
 generalize hx:Y c.O0 i=x at *
 unfold HH at *
 refine Pq.go 4 ?_;refine gr ?_;rw [hx]
 repeat' (first|refine c0 uF rfl (h2:=?_)|refine gx ?_|fail)
 refine tb (!A1 (R7 ds x.name) 0) (λh1=>?_) (λh1=>?_)
 .refine gr ?_
  exact ⟨_,_,rfl,by unfold Ky;rw [h1];rfl,rfl⟩
 repeat' (first|refine c1 PG rfl ?_|refine gx ?_|fail)
 refine tb (!A1 (nN ss x.source x.col).2 0) (λh2=>?_) (λh2=>?_)
 .refine gr ?_
  exact ⟨_,_,rfl,by unfold Ky;rw [h1,h2];rfl,rfl⟩
 refine gr ?_;refine tc (!s4 x.ttl 1 1048576) qN (λh3=>?_) (λh3=>?_)
 .refine gr ?_
  exact ⟨_,_,rfl,by unfold Ky;rw [h1,h2,h3];rfl,rfl⟩
 .refine gr ?_
  exact ⟨_,_,rfl,by unfold Ky;rw [h1,h2,h3];rfl,rfl⟩
set_option maxHeartbeats 4000000 in
def bP8 [Inhabited XO] (c:s6)(ds:List M6)(ss:List gU)(i:Nat)(hi:i<O c.S8)(hc:O c.k9<=1000):Pm A 155 [.ptr 5 0,.d (Z i)] (HH c ds ss) lW (.d (Z (Qj c ss ds (Y c.S8 i)))) (HH c (P9 ds (Y c.S8 i).name) ss):=by
 have uF:=zk c ds ss (Y c.S8 i).name;have Vu:=aB7 c (P9 ds (Y c.S8 i).name) ss (Y c.S8 i).table hc
 suffices h:Pq A 155 [.ptr 5 0,.d (Z i)] (HH c ds ss) lW λv H1=>v= .d (Z (Qj c ss ds (Y c.S8 i)))/\H1=HH c (P9 ds (Y c.S8 i).name) ss by
  obtain ⟨v,H1,⟨rfl,rfl⟩,h⟩:=h;exact h
 generalize hx:Y c.S8 i=x at *
 unfold HH at *
 refine Pq.go 3 ?_;refine gr ?_;rw [hx]
 repeat' (first|refine c0 uF rfl (h2:=?_)|refine gx ?_|fail)
 refine tb (!A1 (R7 ds x.name) 0) (λh1=>?_) (λh1=>?_)
 .refine gr ?_
  exact ⟨_,_,rfl,by unfold Qj;rw [h1];rfl,rfl⟩
 refine gr ?_;refine tB (!oK c ss x.table) ?_ (λh2=>?_) (λh2=>?_)
 .repeat' (first|refine c1 Vu rfl ?_|refine gx ?_|refine fq (λhw=>?_) λhw=>?_|refine ⟨rfl,rfl,_,rfl,?_⟩|refine ⟨rfl,rfl⟩|fail)
  all_goals exact cc
 .refine gr ?_
  exact ⟨_,_,rfl,by unfold Qj;rw [h1,h2];rfl,rfl⟩
 .refine gr ?_
  exact ⟨_,_,rfl,by unfold Qj;rw [h1,h2];rfl,rfl⟩
set_option maxHeartbeats 4000000 in
def bP5 [Inhabited XO] (c:s6)(ds:List M6)(ss:List gU)(i:Nat)(hi:i<O c.M7)(uQ:∀k,k<O ss->O (Y ss k).2.2<=100000):Pm A 152 [.ptr 5 0,.d (Z i)] (HH c ds ss) lW (.d (Z (Dq ss ds (Y c.M7 i)))) (HH c (P9 ds (Y c.M7 i).name) ss):=by
 have uF:=zk c ds ss (Y c.M7 i).name;have PG:=YU c (P9 ds (Y c.M7 i).name) ss (Y c.M7 i).source (Y c.M7 i).col uQ
 suffices h:Pq A 152 [.ptr 5 0,.d (Z i)] (HH c ds ss) lW λv H1=>v= .d (Z (Dq ss ds (Y c.M7 i)))/\H1=HH c (P9 ds (Y c.M7 i).name) ss by
  obtain ⟨v,H1,⟨rfl,rfl⟩,h⟩:=h;exact h
 generalize hx:Y c.M7 i=x at *
 unfold HH at *
 refine Pq.go 4 ?_;refine gr ?_;rw [hx]
 repeat' (first|refine c0 uF rfl (h2:=?_)|refine gx ?_|fail)
 refine tb (!A1 (R7 ds x.name) 0) (λh1=>?_) (λh1=>?_)
 .refine gr ?_
  exact ⟨_,_,rfl,by unfold Dq;rw [h1];rfl,rfl⟩
 repeat' (first|refine c1 PG rfl ?_|refine gx ?_|fail)
 refine tb (!A1 (nN ss x.source x.col).2 0) (λh2=>?_) (λh2=>?_)
 .refine gr ?_
  exact ⟨_,_,rfl,by unfold Dq;rw [h1,h2];rfl,rfl⟩
 refine gr ?_;refine tb (!A1 x.kind 0&& !A1 x.kind 1&& !A1 x.kind 2) (λh3=>?_) (λh3=>?_)
 .refine gr ?_
  exact ⟨_,_,rfl,by unfold Dq;rw [h1,h2,h3];rfl,rfl⟩
 refine gr ?_;cases hW:s4 x.width 1 1024 with
 |false =>
  refine tB (W) ?_ (λh4=>?_) (λh4=>?_)
  .repeat' (first|refine cl (qN _ _ _) ?_|refine gx ?_|refine fq (λhw=>?_) λhw=>?_|refine ⟨rfl,rfl,_,rfl,?_⟩|refine ⟨rfl,rfl⟩|fail)
   all_goals first|(simp [*,j5,hW];done)|(simp_all [j5,hW];done)|(simp_all [j5,hW,A5,A7,p7,I5];done)|(simp_all [j5,hW,A5,A7,p7,I5]<;>omega)
  .refine gr ?_
   exact ⟨_,_,rfl,by unfold Dq;rw [h1,h2,h3,hW];rfl,rfl⟩
  .cases h4
 |true =>
 cases hD:s4 x.depth 1 8 with
 |false =>
  refine tB (W) ?_ (λh4=>?_) (λh4=>?_)
  .repeat' (first|refine cl (qN _ _ _) ?_|refine gx ?_|refine fq (λhw=>?_) λhw=>?_|refine ⟨rfl,rfl,_,rfl,?_⟩|refine ⟨rfl,rfl⟩|fail)
   all_goals first|(simp [*,j5,hW,hD];done)|(simp_all [j5,hW,hD];done)|(simp_all [j5,hW,hD,A5,A7,p7,I5];done)|(simp_all [j5,hW,hD,A5,A7,p7,I5]<;>omega)
  .refine gr ?_
   exact ⟨_,_,rfl,by unfold Dq;rw [h1,h2,h3,hW,hD];rfl,rfl⟩
  .cases h4
 |true =>
 have hm: -9223372036854775808<=x.width * x.depth/\x.width * x.depth<9223372036854775808:=by
  simp [s4,A7] at hW hD;have m1:=Int.mul_le_mul hW.2 hD.2 V V;have m2:=Int.mul_nonneg (a:=x.width) (b:=x.depth) V V;omega
 refine tB (!s4 x.width 1 1024|| !s4 x.depth 1 8||(A1 x.kind 2&& !A1 x.depth 1)||J2 1024 (x.width * x.depth)) ?_ (λh4=>?_) (λh4=>?_)
 .repeat' (first|refine cl (qN _ _ _) ?_|refine mu (h0:=hm) ?_|refine gx ?_|refine fq (λhw=>?_) λhw=>?_|refine ⟨rfl,rfl,_,rfl,?_⟩|refine ⟨rfl,rfl⟩|fail)
  all_goals first|(simp [*,j5,hW,hD];done)|(simp_all [j5,hW,hD];done)|(simp_all [j5,hW,hD,A5,A7,p7,I5];done)|(simp_all [j5,hW,hD,A5,A7,p7,I5]<;>omega)
 .refine gr ?_
  exact ⟨_,_,rfl,by unfold Dq;rw [h1,h2,h3,h4];rfl,rfl⟩
 .refine gr ?_
  exact ⟨_,_,rfl,by unfold Dq;rw [h1,h2,h3,h4];rfl,rfl⟩
set_option maxHeartbeats 4000000 in
def bf9 (t:jt)(xs:List Int)(hx:O xs<=1000)(hc:O t.p9<=1000):Pf A 251 [W5 t,.d (ints xs)] (.d (.bool (X1 t (-1) xs))):=by
 refine Pf.gr 8 ?_;refine Ex.gX (λk T H=>∃(i:Nat) (p:Int),T=[.any,.any,.ptr 0 0,.any,.d (Z p),.any,.any,.d (ints xs),.d (Z (O xs)),.d (Z i)]/\H=[.cells (t.enc.map .d)]/\i+k=O xs/\ -1<=p/\X1 t (-1) xs=X1 t p (xs.drop i)) ?_ (k:=O xs) ⟨0, -1,rfl,rfl,U,V,U⟩;rintro k _ _ ⟨i,p,rfl,rfl,hk,hp,hi⟩;refine Ex.seq ?_;refine tb (J2 i (O xs)) (λh1=>?_) (λh1=>?_)
 .have h2:=F5 h1
  rw [E3 V] at hi;refine gr ?_;refine tb (bC (Y xs i) p||bC (O t.p9) (Y xs i)) (λh3=>?_) (λh3=>?_)
  .refine gr ?_
   have h4:(J2 p (Y xs i)&&J2 (Y xs i) (O t.p9))=F:=by simp [A7,A5] at h3 ⊢;omega
   exact ⟨_,rfl,by rw [hi,X1,h4];rfl⟩
  have h4:J2 p (Y xs i)=W/\J2 (Y xs i) (O t.p9)=W:=by simp [A7,A5] at h3 ⊢;omega
  have h5:=F5 h4.1;have h6:=F5 h4.2;refine gr ?_;refine tb (Q2 (Y t.p9 (Y xs i).toNat).space []&&Q2 (Y t.p9 (Y xs i).toNat).refs []) (λh7=>?_) (λh7=>?_)
  .refine gr ?_
   exact ⟨_,rfl,by rw [hi,X1,h4.1,h4.2,h7];rfl⟩
  .refine gr ?_
   exact kk ⟨_,_,rfl,i+1,Y xs i,rfl,rfl,V,V,by rw [hi,X1,h4.1,h4.2,h7];rfl⟩
 .refine gr ?_
  have h2:=G7 h1;rw [o7 V] at hi;exact ⟨_,rfl,by rw [hi];rfl⟩
def WY (x:dY):c7:= .agg (x.enc.map .d)
def oO (t:jt)(x:dY):Bool :=
 if !A1 x.jG 0&&(!A1 x.jG 1|| !J2 0 (O x.L0)) then F
 else if !s4 x.oA 0 1048576 then F
 else if !A1 x.oA 0&& !J2 0 (O x.L0) then F
 else A1 t.cE 0||bC x.oA t.cE
set_option maxHeartbeats 4000000 in
def bg0 (t:jt)(x:dY):Pf A 252 [W5 t,WY x] (.d (.bool (oO t x))):=by
 refine Pf.gr 4 ?_;refine tb (!A1 x.jG 0&&(!A1 x.jG 1|| !J2 0 (O x.L0))) (λh1=>?_) (λh1=>?_)
 .refine gr ?_
  exact ⟨_,rfl,by unfold oO;rw [h1];rfl⟩
 refine tc (!s4 x.oA 0 1048576) qN (λh2=>?_) (λh2=>?_)
 .refine gr ?_
  exact ⟨_,rfl,by unfold oO;rw [h1,h2];rfl⟩
 refine tb (!A1 x.oA 0&& !J2 0 (O x.L0)) (λh3=>?_) (λh3=>?_)
 .refine gr ?_
  exact ⟨_,rfl,by unfold oO;rw [h1,h2,h3];rfl⟩
 repeat' (first|refine gy ?_|refine fq (λhw=>?_) λhw=>?_|refine ⟨_,rfl,?_⟩|fail)
 all_goals unfold oO
 all_goals rw [h1,h2,h3]
 all_goals simp [*,j5]
def l7:H8:=⟨0,8,8,8⟩
def bi4 (a0 ax a1 a2 a3 a4 a5:B4)(x y:dY):Pm A 249 [WY y,.ptr 7 0] [a0,ax,a1,a2,a3,a4,a5,.cells (x.enc.map .d)] l7 (.d (.bool (Q2 y.name x.name))) [a0,ax,a1,a2,a3,a4,a5,.cells (x.enc.map .d)]:=by
 suffices h:Pq A 249 [WY y,.ptr 7 0] [a0,ax,a1,a2,a3,a4,a5,.cells (x.enc.map .d)] l7 λv H1=>v= .d (.bool (Q2 y.name x.name))/\H1=[a0,ax,a1,a2,a3,a4,a5,.cells (x.enc.map .d)] by
  obtain ⟨v,H1,⟨rfl,rfl⟩,h⟩:=h;exact h
 refine Pq.go 2 ?_;refine gr ?_;exact ⟨_,_,rfl,rfl,rfl⟩
def Xp (x:dY):List dY->Nat->Int
 |[],_=> -1
 |y::r,i=>if Q2 y.name x.name then i else Xp x r (i+1)
theorem QX (x:dY):∀(l:List dY) (i:Nat),bC 0 (Xp x l i)=l.any λy=>Q2 y.name x.name
 |[],i=>by simp [Xp,A7]
 |y::r,i=>by
  have h1:=QX x r (i+1);simp only [Xp,List.any_cons];cases h3:Q2 y.name x.name with
  |true=>simp [A7]
  |false=>simpa using h1
set_option maxHeartbeats 2000000 in
def bi7 (a0 ax a1 a2 a3 a4 a5:B4)(x:dY)(ys:List dY)(hy:O ys<=1000):Pm A 277 [.d (B8 dY.enc ys),.func 249 [] [.ptr 7 0]] [a0,ax,a1,a2,a3,a4,a5,.cells (x.enc.map .d)] l7 (.d (Z (Xp x ys 0))) [a0,ax,a1,a2,a3,a4,a5,.cells (x.enc.map .d)]:=by
 suffices h:Pq A 277 [.d (B8 dY.enc ys),.func 249 [] [.ptr 7 0]] [a0,ax,a1,a2,a3,a4,a5,.cells (x.enc.map .d)] l7 λv H1=>v= .d (Z (Xp x ys 0))/\H1=[a0,ax,a1,a2,a3,a4,a5,.cells (x.enc.map .d)] by
  obtain ⟨v,H1,⟨rfl,rfl⟩,h⟩:=h;exact h
 refine Pq.go 4 ?_;refine gr ?_;refine Ex.R8 (λk T H=>∃(i:Nat),T=[.d (B8 dY.enc ys),.func 249 [] [.ptr 7 0],.any,.any,.d (Z (O ys)),.d (Z i)]/\H=[a0,ax,a1,a2,a3,a4,a5,.cells (x.enc.map .d)]/\i+k=O ys/\Xp x ys 0=Xp x (ys.drop i) i) ?_ (k:=O ys) ⟨0,rfl,rfl,U,U⟩;rintro k _ _ ⟨i,rfl,rfl,hk,hi⟩;refine Ex.seq ?_;refine tb (J2 i (O ys)) (λh1=>?_) (λh1=>?_)
 .have h2:=F5 h1
  rw [E3 V] at hi;have p1:=bi4 a0 ax a1 a2 a3 a4 a5 x (Y ys i);refine gr ?_;refine tB (Q2 (Y ys i).name x.name) ?_ (λh3=>?_) (λh3=>?_)
  .repeat' (first|refine cv1 p1 rfl ?_|refine gx ?_|refine fq (λhw=>?_) λhw=>?_|refine ⟨rfl,rfl,_,rfl,?_⟩|refine ⟨rfl,rfl⟩|fail)
   all_goals exact cc
  .refine gr ?_
   exact ⟨_,_,rfl,by rw [hi,Xp,h3];rfl,rfl⟩
  .refine gr ?_
   exact kk ⟨i+1,rfl,rfl,V,by rw [hi,Xp,h3];rfl⟩
 .have h2:=G7 h1
  rw [o7 V] at hi;refine gr ?_;exact ⟨_,_,rfl,by rw [hi];rfl,rfl⟩
def bi2 (a0 ax a1 a2 a3 a4 a5:B4)(x:dY)(ys:List dY)(hy:O ys<=1000):Pm A 248 [.d (B8 dY.enc ys),.func 249 [] [.ptr 7 0]] [a0,ax,a1,a2,a3,a4,a5,.cells (x.enc.map .d)] l7 (.d (.bool (ys.any λy=>Q2 y.name x.name))) [a0,ax,a1,a2,a3,a4,a5,.cells (x.enc.map .d)]:=by
 have p1:=bi7 a0 ax a1 a2 a3 a4 a5 x ys hy;rw [<- QX x ys 0]
 suffices h:Pq A 248 [.d (B8 dY.enc ys),.func 249 [] [.ptr 7 0]] [a0,ax,a1,a2,a3,a4,a5,.cells (x.enc.map .d)] l7 λv H1=>v= .d (.bool (bC 0 (Xp x ys 0)))/\H1=[a0,ax,a1,a2,a3,a4,a5,.cells (x.enc.map .d)] by
  obtain ⟨v,H1,⟨rfl,rfl⟩,h⟩:=h;exact h
 refine Pq.go 1 ?_
 repeat' (first|refine c1 p1 rfl ?_|refine gx ?_|fail)
 exact ⟨_,_,rfl,rfl,rfl⟩
def be7 (x:dY):Pf A 214 [WY x] (.d (.str x.name)):=by
 refine Pf.gr 2 ?_;exact ⟨_,rfl,rfl⟩
def be9 (x:dY):Pf A 216 [WY x] (.d (Z x.type)):=by
 refine Pf.gr 2 ?_;exact ⟨_,rfl,rfl⟩
set_option maxHeartbeats 2000000 in
def be6 (xs:List dY)(hx:O xs<=1000):Pf A 213 [.d (B8 dY.enc xs),.func 214 [] []] (.d (B8 encS (xs.map dY.name))):=by
 refine Pf.gr 6 ?_;refine Ex.gX (λk T H=>∃(i:Nat) (acc:List M6),T=[.any,.func 214 [] [],.any,L1 1 encS acc,.any,.d (B8 dY.enc xs),.d (Z (O xs)),.d (Z i)]/\H=[]/\i+k=O xs/\acc=(xs.take i).map dY.name) ?_ (k:=O xs) ⟨0,[],rfl,rfl,U,U⟩;rintro k _ _ ⟨i,acc,rfl,rfl,hk,hacc⟩;have hl:O acc=i:=by rw [hacc];simp;omega
 refine Ex.seq ?_;refine tl i (O xs) (λh2=>?_) (λh2=>?_)
 .have p1:=be7 (Y xs i)
  repeat' (first|refine cv p1 ?_|refine gx ?_|fail)
  exact kk ⟨_,_,rfl,i+1,acc++[(Y xs i).name],rfl,rfl,V,by rw [N7 V,hacc];simp⟩
 .rw [y6 V] at hacc
  refine gr ?_;exact ⟨_,rfl,by rw [<- hacc];rfl⟩
set_option maxHeartbeats 2000000 in
def be8 (xs:List dY)(hx:O xs<=1000):Pf A 215 [.d (B8 dY.enc xs),.func 216 [] []] (.d (ints (xs.map dY.type))):=by
 refine Pf.gr 6 ?_;refine Ex.gX (λk T H=>∃(i:Nat) (acc:List Int),T=[.any,.func 216 [] [],.any,L1 1 (λn=>[Z n]) acc,.any,.d (B8 dY.enc xs),.d (Z (O xs)),.d (Z i)]/\H=[]/\i+k=O xs/\acc=(xs.take i).map dY.type) ?_ (k:=O xs) ⟨0,[],rfl,rfl,U,U⟩;rintro k _ _ ⟨i,acc,rfl,rfl,hk,hacc⟩;have hl:O acc=i:=by rw [hacc];simp;omega
 refine Ex.seq ?_;refine tl i (O xs) (λh2=>?_) (λh2=>?_)
 .have p1:=be9 (Y xs i)
  repeat' (first|refine cv p1 ?_|refine gx ?_|fail)
  exact kk ⟨_,_,rfl,i+1,acc++[(Y xs i).type],rfl,rfl,V,by rw [N7 V,hacc];simp⟩
 .rw [y6 V] at hacc
  refine gr ?_;exact ⟨_,rfl,by rw [<- hacc];rfl⟩
def sW (c:s6)(ss:List gU)(t:jt)(i:Nat):Int :=
 if !M5 (Y t.p9 i).name||(!Q2 (Y t.p9 i).space []&& !M5 (Y t.p9 i).space) then 3
 else if (t.p9.take i).any λy=>Q2 y.name (Y t.p9 i).name then 4
 else if !Q2 (Y t.p9 i).refs []&&J2 (K6 (Y t.p9 i).refs (ss.map (·.1)) 0) 0 then 7
 else if !(A1 (Y t.p9 i).type 1||A1 (Y t.p9 i).type 2)||(bC 0 (K6 (Y t.p9 i).refs (ss.map (·.1)) 0)&& !A1 (Y t.p9 i).type (Y (Y ss (K6 (Y t.p9 i).refs (ss.map (·.1)) 0).toNat).2.2 0)) then 5
 else if (!Q2 (Y t.p9 i).space []&& !Q2 (Y t.p9 i).refs [])|| !X1 t (-1) (Y t.p9 i).L0|| !oO t (Y t.p9 i) then 1
 else if A1 i 0&&J2 0 (O (Y t.p9 i).L0)&& !A1 t.erase 1 then 1
 else if bC 0 (K6 (Y t.p9 i).refs (ss.map (·.1)) 0)&&J2 0 (O (Y (Y c.k9 (K6 (Y t.p9 i).refs (ss.map (·.1)) 0).toNat).p9 0).L0)&& !((Y t.p9 i).L0.any λy=>A1 y i) then 1
 else 0
set_option maxHeartbeats 8000000 in
def bi0 [Inhabited XO] (c:s6)(ds:List M6)(ss:List gU)(t:jt)(i:Nat)(hi:i<O t.p9)(hc:O t.p9<=1000)(ho:O (Y t.p9 i).L0<=1000)(hss:O ss<=O c.k9)(ht:∀k,k<O ss->0<O (Y ss k).2.2/\0<O (Y c.k9 k).p9) :
  Pm A 211 [.ptr 5 0,W5 t,.d (Z i)] (HH c ds ss) lR (.d (Z (sW c ss t i))) (HH c ds ss):=by
 have p61:=Vz c ds ss (Y t.p9 i).refs;have b1:=CA ss (Y t.p9 i).refs;have b2:(K6 (Y t.p9 i).refs (ss.map (·.1)) 0)= -1\/(0<=(K6 (Y t.p9 i).refs (ss.map (·.1)) 0)/\(K6 (Y t.p9 i).refs (ss.map (·.1)) 0)<O ss/\0<O (Y ss (K6 (Y t.p9 i).refs (ss.map (·.1)) 0).toNat).2.2/\0<O (Y c.k9 (K6 (Y t.p9 i).refs (ss.map (·.1)) 0).toNat).p9):=by
  rcases b1 with h|h
  .exact Or.inl h
  .have:=ht (K6 (Y t.p9 i).refs (ss.map (·.1)) 0).toNat V
   exact Or.inr ⟨h.1,h.2,this.1,this.2⟩
 have bR5:=bf9 t (Y t.p9 i).L0 ho hc;have bR6:=bg0 t (Y t.p9 i);have q49:=bN9 (Y t.p9 i).L0 i V
 suffices h:Pq A 211 [.ptr 5 0,W5 t,.d (Z i)] (HH c ds ss) lR λv H1=>v= .d (Z (sW c ss t i))/\H1=HH c ds ss by
  obtain ⟨v,H1,⟨rfl,rfl⟩,h⟩:=h;exact h
 unfold HH at *
 have bR4:=bi2 xa xo (.cells (c.enc.map .d)) (.map (dmap ds)) (.map (gH (ss.map (·.1)) 0)) (.cells (c.enc.map .d++[.map 3,.map 4,L1 2 aL ss])) (.cells (t.enc.map .d)) (Y t.p9 i) (t.p9.take i) D;refine Pq.go 5 ?_;refine gr ?_;refine tc (!M5 (Y t.p9 i).name||(!Q2 (Y t.p9 i).space []&& !M5 (Y t.p9 i).space)) YQ (λh1=>?_) (λh1=>?_)
 .refine gr ?_
  exact ⟨_,_,rfl,by unfold sW;rw [h1];rfl,rfl⟩
 refine gr ?_;refine tB ((t.p9.take i).any λy=>Q2 y.name (Y t.p9 i).name) ?_ (λh2=>?_) (λh2=>?_)
 .repeat' (first|refine c1 bR4 rfl ?_|refine gx ?_|refine fq (λhw=>?_) λhw=>?_|refine ⟨rfl,rfl,_,rfl,?_⟩|refine ⟨rfl,rfl⟩|fail)
  all_goals exact cc
 .refine gr ?_
  exact ⟨_,_,rfl,by unfold sW;rw [h1,h2];rfl,rfl⟩
 repeat' (first|refine c1 p61 rfl ?_|refine gx ?_|fail)
 refine tb (!Q2 (Y t.p9 i).refs []&&J2 (K6 (Y t.p9 i).refs (ss.map (·.1)) 0) 0) (λh3=>?_) (λh3=>?_)
 .refine gr ?_
  exact ⟨_,_,rfl,by unfold sW;rw [h1,h2,h3];rfl,rfl⟩
 refine gr ?_;refine tc (!(A1 (Y t.p9 i).type 1||A1 (Y t.p9 i).type 2)||(bC 0 (K6 (Y t.p9 i).refs (ss.map (·.1)) 0)&& !A1 (Y t.p9 i).type (Y (Y ss (K6 (Y t.p9 i).refs (ss.map (·.1)) 0).toNat).2.2 0))) bf8 (λh4=>?_) (λh4=>?_)
 .refine gr ?_
  exact ⟨_,_,rfl,by unfold sW;rw [h1,h2,h3,h4];rfl,rfl⟩
 refine gr ?_;refine tc ((!Q2 (Y t.p9 i).space []&& !Q2 (Y t.p9 i).refs [])|| !X1 t (-1) (Y t.p9 i).L0|| !oO t (Y t.p9 i)) (And.intro bR5 bR6) (λh5=>?_) (λh5=>?_)
 .refine gr ?_
  exact ⟨_,_,rfl,by unfold sW;rw [h1,h2,h3,h4,h5];rfl,rfl⟩
 refine gr ?_;refine tb (A1 i 0&&J2 0 (O (Y t.p9 i).L0)&& !A1 t.erase 1) (λh6=>?_) (λh6=>?_)
 .refine gr ?_
  exact ⟨_,_,rfl,by unfold sW;rw [h1,h2,h3,h4,h5,h6];rfl,rfl⟩
 refine gr ?_;refine tc (bC 0 (K6 (Y t.p9 i).refs (ss.map (·.1)) 0)&&J2 0 (O (Y (Y c.k9 (K6 (Y t.p9 i).refs (ss.map (·.1)) 0).toNat).p9 0).L0)&& !((Y t.p9 i).L0.any λy=>A1 y i)) q49 (λh7=>?_) (λh7=>?_)
 .refine gr ?_
  exact ⟨_,_,rfl,by unfold sW;rw [h1,h2,h3,h4,h5,h6,h7];rfl,rfl⟩
 refine gr ?_;exact ⟨_,_,rfl,by unfold sW;rw [h1,h2,h3,h4,h5,h6,h7];rfl,rfl⟩
def Fz (c:s6)(ss:List gU)(t:jt):Nat->Nat->Int
 |0,_=>0
 |k+1,i=>if !A1 (sW c ss t i) 0 then sW c ss t i else Fz c ss t k (i+1)
def rA (t:jt):Bool:= !s4 (O t.p9) 1 8||(!A1 t.erase 0&& !A1 t.erase 1)|| !s4 t.cE 0 1048576
def yg (c:s6)(ss:List gU)(ds:List M6)(t:jt):Int :=
 if !A1 (R7 ds t.name) 0 then R7 ds t.name else if rA t then 1 else Fz c ss t (O t.p9) 0
def Mw (c:s6)(ss:List gU)(ds:List M6)(t:jt):List gU:=if A1 (yg c ss ds t) 0 then ss++[(t.name,t.p9.map dY.name,t.p9.map dY.type)] else ss
set_option maxHeartbeats 8000000 in
def bP2 [Inhabited XO] (c:s6)(ds:List M6)(ss:List gU)(i:Nat)(hi:i<O c.k9)(hc:O (Y c.k9 i).p9<=1000)(ho:∀j,j<O (Y c.k9 i).p9->O (Y (Y c.k9 i).p9 j).L0<=1000)(hss:O ss<=O c.k9)(bI2:O ss<=1000)(hi2:O c.k9<=1000)
  (ht:∀k,k<O ss->0<O (Y ss k).2.2/\0<O (Y c.k9 k).p9) (hsub:∀s,(ds.any λy=>Q2 y s)=F->((ss.map (·.1)).any λy=>Q2 y s)=F) :
  Pm A 149 [.ptr 5 0,.d (Z i)] (HH c ds ss) lW (.d (Z (yg c ss ds (Y c.k9 i)))) (HH c (P9 ds (Y c.k9 i).name) (Mw c ss ds (Y c.k9 i))):=by
 generalize hx:Y c.k9 i=t at *
 have uF:=zk c ds ss t.name;have bL6:∀j,j<O t.p9->Pm A 211 [.ptr 5 0,W5 t,.d (Z j)] (HH c (P9 ds t.name) ss) lR (.d (Z (sW c ss t j))) (HH c (P9 ds t.name) ss):=λj hj=>bi0 c (P9 ds t.name) ss t j hj hc (ho j hj) hss ht
 have bQ7:=be6 t.p9 hc;have bQ8:=be8 t.p9 hc;have YJ:R7 ds t.name=0->Pm A 212 [.ptr 5 0,.d (.str t.name),QL (t.p9.map dY.name) (t.p9.map dY.type)] (HH c (P9 ds t.name) ss) lW (.tuple []) (HH c (P9 ds t.name) (ss++[(t.name,t.p9.map dY.name,t.p9.map dY.type)])):=λh=>by
  refine YT c (P9 ds t.name) ss t.name _ _ (hsub _ ?_) bI2;unfold R7 at h;cases h1:(!M5 t.name) with
  |true=>rw [h1] at h;simp at h
  |false =>
   rw [h1] at h;cases h2:ds.any λy=>Q2 y t.name with
   |false=>rfl
   |true=>rw [h2] at h;simp at h
 suffices h:Pq A 149 [.ptr 5 0,.d (Z i)] (HH c ds ss) lW λv H1=>v= .d (Z (yg c ss ds t))/\H1=HH c (P9 ds t.name) (Mw c ss ds t) by
  obtain ⟨v,H1,⟨rfl,rfl⟩,h⟩:=h;exact h
 have fin:∀e:Int,A1 e 0=F->yg c ss ds t=e->Mw c ss ds t=ss:=λe h1 h2=>by unfold Mw;rw [h2,h1];rfl
 unfold HH at *
 refine Pq.go 7 ?_;refine gr ?_;rw [hx]
 repeat' (first|refine c0 uF rfl (h2:=?_)|refine gx ?_|fail)
 refine tb (!A1 (R7 ds t.name) 0) (λh1=>?_) (λh1=>?_)
 .have e1:yg c ss ds t=R7 ds t.name:=by unfold yg;rw [h1];rfl
  refine gr ?_;exact ⟨_,_,rfl,by rw [e1];rfl,by rw [fin _ (by simpa using h1) e1];rfl⟩
 refine gr ?_;refine tB (rA t) ?_ (λh2=>?_) (λh2=>?_)
 .repeat' (first|refine cl (qN _ _ _) ?_|refine gx ?_|refine fq (λhw=>?_) λhw=>?_|refine ⟨rfl,rfl,_,rfl,?_⟩|refine ⟨rfl,rfl⟩|fail)
  all_goals first|(simp [*,j5,rA];done)|(simp_all [j5,rA];done)|(simp_all [j5,rA,A5,A7,p7,I5];done)|(simp_all [j5,rA,A5,A7,p7,I5]<;>omega)
 .have e1:yg c ss ds t=1:=by unfold yg;rw [h1,h2];rfl
  refine gr ?_;exact ⟨_,_,rfl,by rw [e1];rfl,by rw [fin 1 (by simp [p7]) e1];rfl⟩
 refine gr ?_;refine Ex.jH (λk T H=>∃(j:Nat) (w1 w2 w4 w5 w6:c7),T=[.ptr 5 0,w1,w2,.ptr 6 0,w4,w5,w6,.d (Z (O t.p9)),.d (Z j)]/\H=[xa,xo,.cells (c.enc.map .d),.map (dmap (P9 ds t.name)),.map (gH (ss.map (·.1)) 0),.cells (c.enc.map .d++[.map 3,.map 4,L1 2 aL ss]),.cells (t.enc.map .d)]/\j+k=O t.p9/\yg c ss ds t=Fz c ss t k j) ?_ (k:=O t.p9) ⟨0,_,_,_,_,_,rfl,rfl,U,by unfold yg;rw [h1,h2];rfl⟩;rintro k _ _ ⟨j,w1,w2,w4,w5,w6,rfl,rfl,hk,hj⟩;refine Ex.nT ?_;refine Ex.seq ?_;refine tl j (O t.p9) (λh4=>?_) (λh4=>?_)
 .obtain ⟨k,rfl⟩:∃k',k=k' +1:=⟨k - 1,V⟩
  have bQ6:=bL6 j V;rw [Fz] at hj
  repeat' (first|refine c1 bQ6 rfl ?_|refine gx ?_|fail)
  refine tb (!A1 (sW c ss t j) 0) (λh5=>?_) (λh5=>?_)
  .rw [h5,if_pos rfl] at hj
   refine gr ?_;exact ⟨_,_,rfl,by rw [hj];rfl,by rw [fin _ (by simpa using h5) hj];rfl⟩
  .rw [h5,if_neg U] at hj
   refine gr ?_;exact ⟨k,V,j+1,_,_,_,_,_,rfl,rfl,V,hj⟩
 .obtain rfl:k=0:=V
  have aO4:=YJ (aT (by simpa using h1));have e1:yg c ss ds t=0:=hj;have e2:Mw c ss ds t=ss++[(t.name,t.p9.map dY.name,t.p9.map dY.type)]:=by unfold Mw;rw [e1];simp [p7]
  rw [e2]
  repeat' (first|refine cl (bQ7) ?_|refine cl (bQ8) ?_|refine c0 aO4 rfl (h2:=?_)|refine gx ?_|fail)
  exact ⟨_,_,rfl,by rw [e1];rfl,rfl⟩
def rlV (c:s6)(ss:List gU)(x:qh):Vw:=Y c.views (K6 x.source (ss.map (·.1)) 0 - O c.k9).toNat
def Me (c:s6)(ss:List gU)(ds:List M6)(x:qh):Int:=if !A1 (R7 ds x.name) 0 then R7 ds x.name else if J2 (K6 x.source (ss.map (·.1)) 0 - O c.k9) 0 then 7
 else if !A1 (rlV c ss x).kind 1|| !A1 (Y (rlV c ss x).L7 0).func 0|| !s4 x.thr 1 1024 then 1 else 0
def bkL (c:s6)(ss:List gU):List M6->List M6->Int
 |_,[]=>0
 |seen,t::r=>if !oK c ss t then 7 else if seen.any λy=>Q2 y t then 4 else bkL c ss (seen++[t]) r
def bkM (c:s6)(ss:List gU)(ds:List M6)(x:uO):Int:=if !A1 (R7 ds x.name) 0 then R7 ds x.name else if A1 (O x.tables) 0|| !s4 x.keep 1 1048576 then 1 else bkL c ss [] x.tables
set_option maxHeartbeats 4000000 in
def bP7 [Inhabited XO] (c:s6)(ds:List M6)(ss:List gU)(i:Nat)(hi:i<O c.R1)(hc:O c.k9<=1000)(hss:O ss<=O c.k9+O c.views)(hsv:O c.views<=1000)(hg:∀k,k<O c.views->(Y c.views k).kind≠1\/0<O (Y c.views k).L7):Pm A 154 [.ptr 5 0,.d (Z i)] (HH c ds ss) lW (.d (Z (Me c ss ds (Y c.R1 i)))) (HH c (P9 ds (Y c.R1 i).name) ss):=by
 have uF:=zk c ds ss (Y c.R1 i).name;have p61:=Vz c (P9 ds (Y c.R1 i).name) ss (Y c.R1 i).source;have b1:=CA ss (Y c.R1 i).source
 suffices h:Pq A 154 [.ptr 5 0,.d (Z i)] (HH c ds ss) lW λv H1=>v= .d (Z (Me c ss ds (Y c.R1 i)))/\H1=HH c (P9 ds (Y c.R1 i).name) ss by
  obtain ⟨v,H1,⟨rfl,rfl⟩,h⟩:=h;exact h
 generalize hx:Y c.R1 i=x at *
 unfold HH at *
 refine Pq.go 5 ?_;refine gr ?_;rw [hx]
 repeat' (first|refine c0 uF rfl (h2:=?_)|refine gx ?_|fail)
 refine tb (!A1 (R7 ds x.name) 0) (λh1=>?_) (λh1=>?_)
 .refine gr ?_
  exact ⟨_,_,rfl,by unfold Me;rw [h1];rfl,rfl⟩
 repeat' (first|refine c1 p61 rfl ?_|refine gx ?_|fail)
 refine tb (J2 (K6 x.source (ss.map (·.1)) 0 - O c.k9) 0) (λh2=>?_) (λh2=>?_)
 .refine gr ?_
  exact ⟨_,_,rfl,by unfold Me;rw [h1,h2];rfl,rfl⟩
 have h3:=G7 h2;have h4:=hg (K6 x.source (ss.map (·.1)) 0 - O c.k9).toNat V;have hrv:Y c.views (K6 x.source (ss.map (·.1)) 0 - O c.k9).toNat=rlV c ss x:=rfl;refine gr ?_;rw [hrv] at h4 ⊢;refine gr ?_;refine tc (!A1 (rlV c ss x).kind 1|| !A1 (Y (rlV c ss x).L7 0).func 0|| !s4 x.thr 1 1024) qN (λh5=>?_) (λh5=>?_)
 .refine gr ?_
  exact ⟨_,_,rfl,by unfold Me;rw [h1,h2,h5];rfl,rfl⟩
 .refine gr ?_
  exact ⟨_,_,rfl,by unfold Me;rw [h1,h2,h5];rfl,rfl⟩
set_option maxHeartbeats 4000000 in
def bP9 [Inhabited XO] (c:s6)(ds:List M6)(ss:List gU)(i:Nat)(hi:i<O c.W6)(hc:O c.k9<=1000)(hx1:O (Y c.W6 i).tables<=1000):Pm A 156 [.ptr 5 0,.d (Z i)] (HH c ds ss) lW (.d (Z (bkM c ss ds (Y c.W6 i)))) (HH c (P9 ds (Y c.W6 i).name) ss):=by
 have uF:=zk c ds ss (Y c.W6 i).name;have Vu:∀s,Pm A 223 [.ptr 5 0,.d (.str s)] (HH c (P9 ds (Y c.W6 i).name) ss) lR (.d (.bool (oK c ss s))) (HH c (P9 ds (Y c.W6 i).name) ss):=λs=>aB7 c (P9 ds (Y c.W6 i).name) ss s hc
 suffices h:Pq A 156 [.ptr 5 0,.d (Z i)] (HH c ds ss) lW λv H1=>v= .d (Z (bkM c ss ds (Y c.W6 i)))/\H1=HH c (P9 ds (Y c.W6 i).name) ss by
  obtain ⟨v,H1,⟨rfl,rfl⟩,h⟩:=h;exact h
 generalize hx:Y c.W6 i=x at *
 unfold HH at *
 refine Pq.go 8 ?_;refine gr ?_;rw [hx]
 repeat' (first|refine c0 uF rfl (h2:=?_)|refine gx ?_|fail)
 refine tb (!A1 (R7 ds x.name) 0) (λh1=>?_) (λh1=>?_)
 .refine gr ?_
  exact ⟨_,_,rfl,by unfold bkM;rw [h1];rfl,rfl⟩
 refine gr ?_;refine tc (A1 (O x.tables) 0|| !s4 x.keep 1 1048576) qN (λh2=>?_) (λh2=>?_)
 .refine gr ?_
  exact ⟨_,_,rfl,by unfold bkM;rw [h1,h2];rfl,rfl⟩
 refine gr ?_;refine Ex.R8 (λk T H=>∃(j:Nat),T=[.ptr 5 0,.any,.any,.ptr 6 0,.any,.any,.any,.d (B8 (λs=>[.str s]) x.tables),.d (Z (O x.tables)),.d (Z j)]/\H=[xa,xo,.cells (c.enc.map .d),.map (dmap (P9 ds x.name)),.map (gH (ss.map (·.1)) 0),.cells (c.enc.map .d++[.map 3,.map 4,L1 2 aL ss]),.cells (x.enc.map .d)]/\j+k=O x.tables/\bkM c ss ds x=bkL c ss (x.tables.take j) (x.tables.drop j)) ?_ (k:=O x.tables) ⟨0,rfl,rfl,U,by simp [bkM,h1,h2]⟩;rintro k _ _ ⟨j,rfl,rfl,hk,hj⟩;refine Ex.seq ?_;refine tl j (O x.tables) (λh4=>?_) (λh4=>?_)
 .rw [E3 V] at hj
  have bR2:=Vu (Y x.tables j);have bR3:=aB3 (x.tables.take j) (Y x.tables j) D;refine gr ?_;refine tB (!oK c ss (Y x.tables j)) ?_ (λh5=>?_) (λh5=>?_)
  .repeat' (first|refine c1 bR2 rfl ?_|refine gx ?_|refine fq (λhw=>?_) λhw=>?_|refine ⟨rfl,rfl,_,rfl,?_⟩|refine ⟨rfl,rfl⟩|fail)
   all_goals exact cc
  .refine gr ?_
   exact ⟨_,_,rfl,by rw [hj];unfold bkL;rw [h5];rfl,rfl⟩
  refine gr ?_;refine tc ((x.tables.take j).any λy=>Q2 y (Y x.tables j)) bR3 (λh6=>?_) (λh6=>?_)
  .refine gr ?_
   exact ⟨_,_,rfl,by rw [hj];unfold bkL;rw [h5,h6];rfl,rfl⟩
  .refine gr ?_
   refine kk ⟨j+1,rfl,rfl,V,?_⟩;rw [hj,N7 V];simp only [bkL,h5,h6,e8,if_false]
 .rw [o7 V] at hj
  refine gr ?_;exact ⟨_,_,rfl,by rw [hj];rfl,rfl⟩
end Go.Proofs.YtibjocmpkoepoaaGreat


import Derived.Test.YtibjocmpkoepoaaGreatD4
set_option linter.all false
open Bool renaming false_eq_true→j6,true→W,false→F
open List renaming drop_of_length_le→n5,length_map→A3,take_of_length_le→s9,length→O
open Option renaming some→J,none→K
namespace Go.Proofs.YtibjocmpkoepoaaGreat
open Go.z6 Go.z6.S
attribute [local irreducible] Rx Ry Rn Ex Pf
structure XO where
 a:x6
 b:x6
 ha:a.H7=0
 hb:b.H7=0
abbrev xa [Inhabited XO]:x6:=(default:XO).a
abbrev xo [Inhabited XO]:x6:=(default:XO).b
abbrev dB:=I4×List I4×List Int
def V4 (s:dB):List z6.Data:=[x3 encS s.2.1,ints s.2.2]
def HH [Inhabited XO] (c:p7)(ds:List I4)(ss:List dB):k8 :=
 [xa,xo,.cells (c.enc.map .d),.map (dmap ds),.map (dc (ss.map (·.1)) 0),.cells (c.enc.map .d++[.map 3,.map 4,A8 2 V4 ss])]
def lW:G9:=⟨0,0,6,6⟩
def lR:G9:=⟨0,6,6,6⟩
theorem zY (s:I4):∀(l:List I4) (i:Nat),aA .s (.str s) (dc l i)=J (if D0 (I5 s l i) 0 then K else J (.d (Z (I5 s l i))))
 |[],i=>by simp [dc,aA,I5,s4]
 |d::l,i=>by
  have h1:=zY s l (i+1);have h2:(s==d)=K7 d s:=by
   rw [E2,Bool.eq_iff_iff]
   grind
  simp [dc,aA,Data.aZ,I5,h2]
  by_cases hb:K7 d s=W
  .simp [hb,s4,Z]
  simp_all
def Gq [Inhabited XO] (c:p7)(ds:List I4)(ss:List dB)(s:I4):Pm A 125 [.ptr 5 0,.d (.str s)] (HH c ds ss) lR (.d (Z (I5 s (ss.map (·.1)) 0))) (HH c ds ss):=by
 have hf:=zY s (ss.map (·.1)) 0
 suffices h:Pq A 125 [.ptr 5 0,.d (.str s)] (HH c ds ss) lR λv H1=>v= .d (Z (I5 s (ss.map (·.1)) 0))/\H1=HH c ds ss by
  obtain ⟨v,H1,⟨rfl,rfl⟩,h⟩:=h;exact h
 refine Pq.go 3 ?_;cases h1:D0 (I5 s (ss.map (·.1)) 0) 0 with
 |true =>
  rw [h1,if_pos rfl] at hf;have h2:=A5 h1;have h3:I5 s (ss.map (·.1)) 0= -1:=by grind [dR]
  repeat' (first|refine lk2 hf rfl rfl ?_|refine gx ?_|fail)
  refine tb (F) (λh4=>?_) (λh4=>?_)
  .cases h4
  refine gr ?_;exact ⟨_,_,rfl,by rw [h3];rfl,rfl⟩
 |false =>
  rw [h1,if_neg U] at hf
  repeat' (first|refine lk2 hf rfl rfl ?_|refine gx ?_|fail)
  refine tb (W) (λh4=>?_) (λh4=>?_)
  .refine gr ?_
   exact ⟨_,_,rfl,rfl,rfl⟩
  .cases h4
def az0 [Inhabited XO] (c:p7)(ds:List I4)(ss:List dB)(n:Int):Pm A 173 [.ptr 5 0,.d (Z n)] (HH c ds ss) lR (.d (.bool (U4 0 n&&D0 n (O ss)))) (HH c ds ss):=by
 suffices h:Pq A 173 [.ptr 5 0,.d (Z n)] (HH c ds ss) lR λv H1=>v= .d (.bool (U4 0 n&&D0 n (O ss)))/\H1=HH c ds ss by
  obtain ⟨v,H1,⟨rfl,rfl⟩,h⟩:=h;exact h
 refine Pq.go 1 ?_
 repeat' (first|refine gy ?_|refine fq (λhw=>?_) λhw=>?_|refine ⟨_,rfl,?_⟩|fail)
 all_goals exact ⟨_,_,rfl,by simp [*,j4],rfl⟩
def jQ (c:p7)(ss:List dB)(s:I4):Bool:=p9 (I5 s (ss.map (·.1)) 0) 0 (O c.j7 - 1)
def Sy [Inhabited XO] (c:p7)(ds:List I4)(ss:List dB)(s:I4)(hc:O c.j7<=1000):Pm A 223 [.ptr 5 0,.d (.str s)] (HH c ds ss) lR (.d (.bool (jQ c ss s))) (HH c ds ss):=by
 have p1:=Gq c ds ss s
 suffices h:Pq A 223 [.ptr 5 0,.d (.str s)] (HH c ds ss) lR λv H1=>v= .d (.bool (jQ c ss s))/\H1=HH c ds ss by
  obtain ⟨v,H1,⟨rfl,rfl⟩,h⟩:=h;exact h
 refine Pq.go 1 ?_
 repeat' (first|refine c1 p1 rfl ?_|refine cl (lX _ _ _) ?_|refine gx ?_|fail)
 exact ⟨_,_,rfl,rfl,rfl⟩
def N7 (ds:List I4)(s:I4):Int:=if !K1 s then 3 else if ds.any λy=>K7 y s then 4 else 0
def M1 (ds:List I4)(s:I4):List I4:=if s7 (N7 ds s) 0 then ds++[s] else ds
def tM [Inhabited XO] (c:p7)(ds:List I4)(ss:List dB)(s:I4):Pm A 209 [.ptr 5 0,.d (.str s)] (HH c ds ss) lW (.d (Z (N7 ds s))) (HH c (M1 ds s) ss):=by
 have hf:=zx s ds
 suffices h:Pq A 209 [.ptr 5 0,.d (.str s)] (HH c ds ss) lW λv H1=>v= .d (Z (N7 ds s))/\H1=HH c (M1 ds s) ss by
  obtain ⟨v,H1,⟨rfl,rfl⟩,h⟩:=h;exact h
 unfold HH;refine Pq.go 1 ?_;have OJ:s7 3 0=F:=by simp [o6]
 have Wo:s7 4 0=F:=by simp [o6]
 have h12:s7 0 0=W:=by simp [o6]
 refine gr ?_;refine tc (!K1 s) No (λh1=>?_) (λh1=>?_)
 .refine gr ?_
  have e1:N7 ds s=3:=by unfold N7;rw [h1];rfl
  exact ⟨_,_,rfl,by rw [e1];rfl,by unfold M1;rw [e1,OJ];rfl⟩
 cases h2:ds.any λy=>K7 y s with
 |true =>
  rw [h2,if_pos rfl] at hf;have e1:N7 ds s=4:=by unfold N7;rw [h1,h2];rfl
  refine tB (W) ?_ (λh3=>?_) (λh3=>?_)
  .repeat' (first|refine lk1 hf rfl ?_|refine gx ?_|refine fq (λhw=>?_) λhw=>?_|refine ⟨rfl,rfl,_,rfl,?_⟩|refine ⟨rfl,rfl⟩|fail)
   all_goals exact cc
  .refine gr ?_
   exact ⟨_,_,rfl,by rw [e1];rfl,by unfold M1;rw [e1,Wo];rfl⟩
  .cases h3
 |false =>
  rw [h2,if_neg U] at hf;have e1:N7 ds s=0:=by unfold N7;rw [h1,h2];rfl
  have hk:Data.aZ .s (.str s) (.str s)=J W:=by simp [Data.aZ]
  refine tB (F) ?_ (λh3=>?_) (λh3=>?_)
  .repeat' (first|refine lk1 hf rfl ?_|refine gx ?_|refine fq (λhw=>?_) λhw=>?_|refine ⟨rfl,rfl,_,rfl,?_⟩|refine ⟨rfl,rfl⟩|fail)
   all_goals exact cc
  .cases h3
  repeat' (first|refine mp (CS s ds h2) hk (h2:=?_)|refine gx ?_|fail)
  exact ⟨_,_,rfl,by rw [e1];rfl,by unfold M1;rw [e1,h12];rfl⟩
def Hq (nm:List I4)(ty:List Int):c7:= .agg [.d (x3 encS nm),.d (ints ty)]
def Nv [Inhabited XO] (c:p7)(ds:List I4)(ss:List dB)(s:I4)(nm:List I4)(ty:List Int)(hs:((ss.map (·.1)).any λy=>K7 y s)=F)(hl:O ss<=1000) :
  Pm A 212 [.ptr 5 0,.d (.str s),Hq nm ty] (HH c ds ss) lW (.tuple []) (HH c ds (ss++[(s,nm,ty)])):=by
 have hput:=DP s (ss.map (·.1)) 0 hs;rw [A3,Nat.zero_add] at hput;have hk:Data.aZ .s (.str s) (.str s)=J W:=by simp [Data.aZ]
 have hr:roomFor (O ss+1) 48=W:=by simp only [roomFor,decide_eq_true_eq];omega
 suffices h:Pq A 212 [.ptr 5 0,.d (.str s),Hq nm ty] (HH c ds ss) lW λv H1=>v= .tuple []/\H1=HH c ds (ss++[(s,nm,ty)]) by
  obtain ⟨v,H1,⟨rfl,rfl⟩,h⟩:=h;exact h
 unfold HH;refine Pq.go 1 ?_
 repeat' (first|refine mp hput hk (h2:=?_)|refine o2 ?_|refine ac2 (a:=(s,nm,ty)) (xs:=ss) (enc:=V4) hr rfl (h2:=?_)|refine Ce (h2:=?_)|refine gx ?_|fail)
 refine ⟨_,_,rfl,rfl,?_⟩;have e:((ss++[(s,nm,ty)]).map (·.1))=ss.map (·.1)++[s]:=U
 rw [e];rfl
def jt (ss:List dB)(s:I4)(col:Int):Int×Int :=
 if D0 (I5 s (ss.map (·.1)) 0) 0 then (0,7)
 else if !p9 col 0 (O (Y ss (I5 s (ss.map (·.1)) 0).toNat).2.2 - 1) then (0,3)
 else (Y (Y ss (I5 s (ss.map (·.1)) 0).toNat).2.2 col.toNat,0)
def wv (ss:List dB)(s:I4):I5 s (ss.map (·.1)) 0= -1\/(0<=I5 s (ss.map (·.1)) 0/\I5 s (ss.map (·.1)) 0<O ss):=by
 rcases dR s (ss.map (·.1)) 0 with h|h
 .exact Or.inl h
 .right;simp at h;omega
def Nw [Inhabited XO] (c:p7)(ds:List I4)(ss:List dB)(s:I4)(col:Int)(nM:∀k,k<O ss->O (Y ss k).2.2<=100000):Pm A 222 [.ptr 5 0,.d (.str s),.d (Z col)] (HH c ds ss) lR (.tuple [.d (Z (jt ss s col).1),.d (Z (jt ss s col).2)]) (HH c ds ss):=by
 have p1:=Gq c ds ss s;have b1:=wv ss s
 suffices h:Pq A 222 [.ptr 5 0,.d (.str s),.d (Z col)] (HH c ds ss) lR λv H1=>v= .tuple [.d (Z (jt ss s col).1),.d (Z (jt ss s col).2)]/\H1=HH c ds ss by
  obtain ⟨v,H1,⟨rfl,rfl⟩,h⟩:=h;exact h
 unfold HH at p1 ⊢;refine Pq.go 4 ?_
 repeat' (first|refine c1 p1 rfl ?_|refine gx ?_|fail)
 refine tb (D0 (I5 s (ss.map (·.1)) 0) 0) (λh1=>?_) (λh1=>?_)
 .refine gr ?_
  exact ⟨_,_,rfl,by unfold jt;rw [h1];rfl,rfl⟩
 have h2:=A9 h1;have h3:=nM (I5 s (ss.map (·.1)) 0).toNat V;refine gr ?_;refine tc (!p9 col 0 (O (Y ss (I5 s (ss.map (·.1)) 0).toNat).2.2 - 1)) lX (λh4=>?_) (λh4=>?_)
 .refine gr ?_
  exact ⟨_,_,rfl,by unfold jt;rw [h1,h4];rfl,rfl⟩
 have h5:=h4;simp [p9,r7] at h5;refine gr ?_;exact ⟨_,_,rfl,by unfold jt;rw [h1,h4];rfl,rfl⟩
def nJ (x:I4):List I4->Nat->Int
 |[],_=> -1
 |y::r,i=>if K7 x y then i else nJ x r (i+1)
theorem zB (x:I4):∀(l:List I4) (i:Nat),U4 0 (nJ x l i)=l.any λy=>K7 y x
 |[],i=>by simp [nJ,r7]
 |y::r,i=>by
  have h1:=zB x r (i+1);have h2:K7 x y=K7 y x:=by simp [E2];grind
  grind [nJ,K7,r7]
def Yq (xs:List I4)(x:I4)(hx:O xs<=100000):Pf A 260 [.d (x3 encS xs),.d (.str x)] (.d (Z (nJ x xs 0))):=by
 refine Pf.gr 4 ?_;refine Ex.J1 (λk T H=>∃(i:Nat),T=[.d (x3 encS xs),.d (.str x),.any,.any,.d (Z (O xs)),.d (Z i)]/\H=[]/\i+k=O xs/\nJ x xs 0=nJ x (xs.drop i) i) ?_ (k:=O xs) ⟨0,rfl,rfl,U,U⟩;rintro k _ _ ⟨i,rfl,rfl,hk,hi⟩
 repeat' (first|refine gy ?_|refine ft (λht=>?_) λht=>?_|refine ⟨_,rfl,?_⟩|fail)
 .have h1:=A5 ‹D0 i _=W›
  rw [C5 V] at hi;simp [hi,nJ,ht,j4,Z]
 .have h1:=A5 ‹D0 i _=W›
  rw [C5 V] at hi;exact kk ⟨i+1,rfl,rfl,V,by simp [hi,nJ,ht]⟩
 .have h1:=A9 ht
  rw [n5 V] at hi;simp [hi,nJ,j4,Z]
def Sm (xs:List I4)(x:I4)(hx:O xs<=100000):Pf A 224 [.d (x3 encS xs),.d (.str x)] (.d (.bool (xs.any λy=>K7 y x))):=by
 rw [<- zB x xs 0];refine Pf.go 1 ?_;refine gc (Yq xs x hx) ?_;exact ⟨_,rfl,rfl⟩
def yG (x:Int):List Int->Nat->Int
 |[],_=> -1
 |y::r,i=>if s7 x y then i else yG x r (i+1)
theorem CV (x:Int):∀(l:List Int) (i:Nat),U4 0 (yG x l i)=l.any λy=>s7 y x
 |[],i=>by simp [yG,r7]
 |y::r,i=>by
  have h1:=CV x r (i+1);have h2:s7 x y=s7 y x:=by simp [o6];grind
  grind [yG,s7,r7]
def ay2 (xs:List Int)(x:Int)(hx:O xs<=100000):Pf A 278 [.d (x3 (λn=>[Z n]) xs),.d (Z x)] (.d (Z (yG x xs 0))):=by
 refine Pf.gr 4 ?_;refine Ex.J1 (λk T H=>∃(i:Nat),T=[.d (x3 (λn=>[Z n]) xs),.d (Z x),.any,.any,.d (Z (O xs)),.d (Z i)]/\H=[]/\i+k=O xs/\yG x xs 0=yG x (xs.drop i) i) ?_ (k:=O xs) ⟨0,rfl,rfl,U,U⟩;rintro k _ _ ⟨i,rfl,rfl,hk,hi⟩
 repeat' (first|refine gy ?_|refine ft (λht=>?_) λht=>?_|refine ⟨_,rfl,?_⟩|fail)
 .have h1:=A5 ‹D0 i _=W›
  rw [C5 V] at hi;simp [hi,yG,ht,j4,Z]
 .have h1:=A5 ‹D0 i _=W›
  rw [C5 V] at hi;exact kk ⟨i+1,rfl,rfl,V,by simp [hi,yG,ht]⟩
 .have h1:=A9 ht
  rw [n5 V] at hi;simp [hi,yG,j4,Z]
def ax6 (xs:List Int)(x:Int)(hx:O xs<=100000):Pf A 253 [.d (x3 (λn=>[Z n]) xs),.d (Z x)] (.d (.bool (xs.any λy=>s7 y x))):=by
 rw [<- CV x xs 0];refine Pf.go 1 ?_;refine gc (ay2 xs x hx) ?_;exact ⟨_,rfl,rfl⟩
def Ds (ss:List dB)(ds:List I4)(x:iL):Int:=if !s7 (N7 ds x.name) 0 then N7 ds x.name else if !s7 (jt ss x.source x.col).2 0 then (jt ss x.source x.col).2 else if !s7 (jt ss x.source x.col).1 2 then 5 else 0
def xu (ss:List dB)(ds:List I4)(x:iI):Int:=if !s7 (N7 ds x.name) 0 then N7 ds x.name else if !s7 (jt ss x.source x.col).2 0 then (jt ss x.source x.col).2
 else if !s7 x.kind 0&& !s7 x.kind 1&& !s7 x.kind 2 then 1
 else if !p9 x.width 1 1024|| !p9 x.depth 1 8||(s7 x.kind 2&& !s7 x.depth 1)||D0 1024 (x.width * x.depth) then 1 else 0
def CA (ss:List dB)(ds:List I4)(x:kG):Int:=if !s7 (N7 ds x.name) 0 then N7 ds x.name else if !s7 (jt ss x.source x.col).2 0 then (jt ss x.source x.col).2 else if !p9 x.ttl 1 1048576 then 1 else 0
def GI (c:p7)(ss:List dB)(ds:List I4)(x:nr):Int:=if !s7 (N7 ds x.name) 0 then N7 ds x.name else if !jQ c ss x.table then 7 else 0
set_option maxHeartbeats 4000000 in
def az3 [Inhabited XO] (c:p7)(ds:List I4)(ss:List dB)(i:Nat)(hi:i<O c.idxs)(nM:∀k,k<O ss->O (Y ss k).2.2<=100000):Pm A 151 [.ptr 5 0,.d (Z i)] (HH c ds ss) lW (.d (Z (Ds ss ds (Y c.idxs i)))) (HH c (M1 ds (Y c.idxs i).name) ss):=by
 have oO:=tM c ds ss (Y c.idxs i).name;have Gn:=Nw c (M1 ds (Y c.idxs i).name) ss (Y c.idxs i).source (Y c.idxs i).col nM
 suffices h:Pq A 151 [.ptr 5 0,.d (Z i)] (HH c ds ss) lW λv H1=>v= .d (Z (Ds ss ds (Y c.idxs i)))/\H1=HH c (M1 ds (Y c.idxs i).name) ss by
  obtain ⟨v,H1,⟨rfl,rfl⟩,h⟩:=h;exact h
 generalize hx:Y c.idxs i=x at *
 unfold HH at *
 refine Pq.go 5 ?_;refine gr ?_;rw [hx]
 repeat' (first|refine c0 oO rfl (h2:=?_)|refine gx ?_|fail)
 refine tb (!s7 (N7 ds x.name) 0) (λh1=>?_) (λh1=>?_)
 .refine gr ?_
  exact ⟨_,_,rfl,by unfold Ds;rw [h1];rfl,rfl⟩
 repeat' (first|refine c1 Gn rfl ?_|refine gx ?_|fail)
 refine tb (!s7 (jt ss x.source x.col).2 0) (λh2=>?_) (λh2=>?_)
 .refine gr ?_
  exact ⟨_,_,rfl,by unfold Ds;rw [h1,h2];rfl,rfl⟩
 refine gr ?_;refine tb (!s7 (jt ss x.source x.col).1 2) (λh3=>?_) (λh3=>?_)
 .refine gr ?_
  exact ⟨_,_,rfl,by unfold Ds;rw [h1,h2,h3];rfl,rfl⟩
 .refine gr ?_
  exact ⟨_,_,rfl,by unfold Ds;rw [h1,h2,h3];rfl,rfl⟩
set_option maxHeartbeats 4000000 in
def az5 [Inhabited XO] (c:p7)(ds:List I4)(ss:List dB)(i:Nat)(hi:i<O c.H8)(nM:∀k,k<O ss->O (Y ss k).2.2<=100000):Pm A 153 [.ptr 5 0,.d (Z i)] (HH c ds ss) lW (.d (Z (CA ss ds (Y c.H8 i)))) (HH c (M1 ds (Y c.H8 i).name) ss):=by
 have oO:=tM c ds ss (Y c.H8 i).name;have Gn:=Nw c (M1 ds (Y c.H8 i).name) ss (Y c.H8 i).source (Y c.H8 i).col nM
 suffices h:Pq A 153 [.ptr 5 0,.d (Z i)] (HH c ds ss) lW λv H1=>v= .d (Z (CA ss ds (Y c.H8 i)))/\H1=HH c (M1 ds (Y c.H8 i).name) ss by
  obtain ⟨v,H1,⟨rfl,rfl⟩,h⟩:=h;exact h
 generalize hx:Y c.H8 i=x at *
 unfold HH at *
 refine Pq.go 4 ?_;refine gr ?_;rw [hx]
 repeat' (first|refine c0 oO rfl (h2:=?_)|refine gx ?_|fail)
 refine tb (!s7 (N7 ds x.name) 0) (λh1=>?_) (λh1=>?_)
 .refine gr ?_
  exact ⟨_,_,rfl,by unfold CA;rw [h1];rfl,rfl⟩
 repeat' (first|refine c1 Gn rfl ?_|refine gx ?_|fail)
 refine tb (!s7 (jt ss x.source x.col).2 0) (λh2=>?_) (λh2=>?_)
 .refine gr ?_
  exact ⟨_,_,rfl,by unfold CA;rw [h1,h2];rfl,rfl⟩
 refine gr ?_;refine tc (!p9 x.ttl 1 1048576) lX (λh3=>?_) (λh3=>?_)
 .refine gr ?_
  exact ⟨_,_,rfl,by unfold CA;rw [h1,h2,h3];rfl,rfl⟩
 .refine gr ?_
  exact ⟨_,_,rfl,by unfold CA;rw [h1,h2,h3];rfl,rfl⟩
set_option maxHeartbeats 4000000 in
def az7 [Inhabited XO] (c:p7)(ds:List I4)(ss:List dB)(i:Nat)(hi:i<O c.J9)(hc:O c.j7<=1000):Pm A 155 [.ptr 5 0,.d (Z i)] (HH c ds ss) lW (.d (Z (GI c ss ds (Y c.J9 i)))) (HH c (M1 ds (Y c.J9 i).name) ss):=by
 have oO:=tM c ds ss (Y c.J9 i).name;have JP:=Sy c (M1 ds (Y c.J9 i).name) ss (Y c.J9 i).table hc
 suffices h:Pq A 155 [.ptr 5 0,.d (Z i)] (HH c ds ss) lW λv H1=>v= .d (Z (GI c ss ds (Y c.J9 i)))/\H1=HH c (M1 ds (Y c.J9 i).name) ss by
  obtain ⟨v,H1,⟨rfl,rfl⟩,h⟩:=h;exact h
 generalize hx:Y c.J9 i=x at *
 unfold HH at *
 refine Pq.go 3 ?_;refine gr ?_;rw [hx]
 repeat' (first|refine c0 oO rfl (h2:=?_)|refine gx ?_|fail)
 refine tb (!s7 (N7 ds x.name) 0) (λh1=>?_) (λh1=>?_)
 .refine gr ?_
  exact ⟨_,_,rfl,by unfold GI;rw [h1];rfl,rfl⟩
 refine gr ?_;refine tB (!jQ c ss x.table) ?_ (λh2=>?_) (λh2=>?_)
 .repeat' (first|refine c1 JP rfl ?_|refine gx ?_|refine fq (λhw=>?_) λhw=>?_|refine ⟨rfl,rfl,_,rfl,?_⟩|refine ⟨rfl,rfl⟩|fail)
  all_goals exact cc
 .refine gr ?_
  exact ⟨_,_,rfl,by unfold GI;rw [h1,h2];rfl,rfl⟩
 .refine gr ?_
  exact ⟨_,_,rfl,by unfold GI;rw [h1,h2];rfl,rfl⟩
set_option maxHeartbeats 4000000 in
def az4 [Inhabited XO] (c:p7)(ds:List I4)(ss:List dB)(i:Nat)(hi:i<O c.F4)(nM:∀k,k<O ss->O (Y ss k).2.2<=100000):Pm A 152 [.ptr 5 0,.d (Z i)] (HH c ds ss) lW (.d (Z (xu ss ds (Y c.F4 i)))) (HH c (M1 ds (Y c.F4 i).name) ss):=by
 have oO:=tM c ds ss (Y c.F4 i).name;have Gn:=Nw c (M1 ds (Y c.F4 i).name) ss (Y c.F4 i).source (Y c.F4 i).col nM
 suffices h:Pq A 152 [.ptr 5 0,.d (Z i)] (HH c ds ss) lW λv H1=>v= .d (Z (xu ss ds (Y c.F4 i)))/\H1=HH c (M1 ds (Y c.F4 i).name) ss by
  obtain ⟨v,H1,⟨rfl,rfl⟩,h⟩:=h;exact h
 generalize hx:Y c.F4 i=x at *
 unfold HH at *
 refine Pq.go 4 ?_;refine gr ?_;rw [hx]
 repeat' (first|refine c0 oO rfl (h2:=?_)|refine gx ?_|fail)
 refine tb (!s7 (N7 ds x.name) 0) (λh1=>?_) (λh1=>?_)
 .refine gr ?_
  exact ⟨_,_,rfl,by unfold xu;rw [h1];rfl,rfl⟩
 repeat' (first|refine c1 Gn rfl ?_|refine gx ?_|fail)
 refine tb (!s7 (jt ss x.source x.col).2 0) (λh2=>?_) (λh2=>?_)
 .refine gr ?_
  exact ⟨_,_,rfl,by unfold xu;rw [h1,h2];rfl,rfl⟩
 refine gr ?_;refine tb (!s7 x.kind 0&& !s7 x.kind 1&& !s7 x.kind 2) (λh3=>?_) (λh3=>?_)
 .refine gr ?_
  exact ⟨_,_,rfl,by unfold xu;rw [h1,h2,h3];rfl,rfl⟩
 refine gr ?_;cases hW:p9 x.width 1 1024 with
 |false =>
  refine tB (W) ?_ (λh4=>?_) (λh4=>?_)
  .repeat' (first|refine cl (lX _ _ _) ?_|refine gx ?_|refine fq (λhw=>?_) λhw=>?_|refine ⟨rfl,rfl,_,rfl,?_⟩|refine ⟨rfl,rfl⟩|fail)
   all_goals first|(simp [*,j4,hW];done)|(simp_all [j4,hW];done)|(simp_all [j4,hW,s4,r7,o6,E2];done)|(simp_all [j4,hW,s4,r7,o6,E2]<;>omega)
  .refine gr ?_
   exact ⟨_,_,rfl,by unfold xu;rw [h1,h2,h3,hW];rfl,rfl⟩
  .cases h4
 |true =>
 cases hD:p9 x.depth 1 8 with
 |false =>
  refine tB (W) ?_ (λh4=>?_) (λh4=>?_)
  .repeat' (first|refine cl (lX _ _ _) ?_|refine gx ?_|refine fq (λhw=>?_) λhw=>?_|refine ⟨rfl,rfl,_,rfl,?_⟩|refine ⟨rfl,rfl⟩|fail)
   all_goals first|(simp [*,j4,hW,hD];done)|(simp_all [j4,hW,hD];done)|(simp_all [j4,hW,hD,s4,r7,o6,E2];done)|(simp_all [j4,hW,hD,s4,r7,o6,E2]<;>omega)
  .refine gr ?_
   exact ⟨_,_,rfl,by unfold xu;rw [h1,h2,h3,hW,hD];rfl,rfl⟩
  .cases h4
 |true =>
 have hm: -9223372036854775808<=x.width * x.depth/\x.width * x.depth<9223372036854775808:=by
  simp [p9,r7] at hW hD;have m1:=Int.mul_le_mul hW.2 hD.2 V V;have m2:=Int.mul_nonneg (a:=x.width) (b:=x.depth) V V;omega
 refine tB (!p9 x.width 1 1024|| !p9 x.depth 1 8||(s7 x.kind 2&& !s7 x.depth 1)||D0 1024 (x.width * x.depth)) ?_ (λh4=>?_) (λh4=>?_)
 .repeat' (first|refine cl (lX _ _ _) ?_|refine mu (h0:=hm) ?_|refine gx ?_|refine fq (λhw=>?_) λhw=>?_|refine ⟨rfl,rfl,_,rfl,?_⟩|refine ⟨rfl,rfl⟩|fail)
  all_goals first|(simp [*,j4,hW,hD];done)|(simp_all [j4,hW,hD];done)|(simp_all [j4,hW,hD,s4,r7,o6,E2];done)|(simp_all [j4,hW,hD,s4,r7,o6,E2]<;>omega)
 .refine gr ?_
  exact ⟨_,_,rfl,by unfold xu;rw [h1,h2,h3,h4];rfl,rfl⟩
 .refine gr ?_
  exact ⟨_,_,rfl,by unfold xu;rw [h1,h2,h3,h4];rfl,rfl⟩
set_option maxHeartbeats 4000000 in
def Ym (t:cI)(xs:List Int)(hx:O xs<=1000)(hc:O t.o4<=1000):Pf A 251 [Q0 t,.d (ints xs)] (.d (.bool (S0 t (-1) xs))):=by
 refine Pf.gr 8 ?_;refine Ex.L4 (λk T H=>∃(i:Nat) (p:Int),T=[.any,.any,.ptr 0 0,.any,.d (Z p),.any,.any,.d (ints xs),.d (Z (O xs)),.d (Z i)]/\H=[.cells (t.enc.map .d)]/\i+k=O xs/\ -1<=p/\S0 t (-1) xs=S0 t p (xs.drop i)) ?_ (k:=O xs) ⟨0, -1,rfl,rfl,U,V,U⟩;rintro k _ _ ⟨i,p,rfl,rfl,hk,hp,hi⟩;refine Ex.seq ?_;refine tb (D0 i (O xs)) (λh1=>?_) (λh1=>?_)
 .have h2:=A5 h1
  rw [C5 V] at hi;refine gr ?_;refine tb (U4 (Y xs i) p||U4 (O t.o4) (Y xs i)) (λh3=>?_) (λh3=>?_)
  .refine gr ?_
   have h4:(D0 p (Y xs i)&&D0 (Y xs i) (O t.o4))=F:=by simp [r7,s4] at h3 ⊢;omega
   exact ⟨_,rfl,by rw [hi,S0,h4];rfl⟩
  have h4:D0 p (Y xs i)=W/\D0 (Y xs i) (O t.o4)=W:=by simp [r7,s4] at h3 ⊢;omega
  have h5:=A5 h4.1;refine gr ?_;refine tb (K7 (Y t.o4 (Y xs i).toNat).space []&&K7 (Y t.o4 (Y xs i).toNat).refs []) (λh7=>?_) (λh7=>?_)
  .refine gr ?_
   exact ⟨_,rfl,by rw [hi,S0,h4.1,h4.2,h7];rfl⟩
  .refine gr ?_
   exact kk ⟨_,_,rfl,i+1,Y xs i,rfl,rfl,V,V,by rw [hi,S0,h4.1,h4.2,h7];rfl⟩
 .refine gr ?_
  have h2:=A9 h1;rw [n5 V] at hi;exact ⟨_,rfl,by rw [hi];rfl⟩
def Lt (x:Q1):c7:= .agg (x.enc.map .d)
def jX (t:cI)(x:Q1):Bool :=
 if !s7 x.cr 0&&(!s7 x.cr 1|| !D0 0 (O x.C6)) then F
 else if !p9 x.gL 0 1048576 then F
 else if !s7 x.gL 0&& !D0 0 (O x.C6) then F
 else s7 t.ay 0||U4 x.gL t.ay
set_option maxHeartbeats 4000000 in
def Yn (t:cI)(x:Q1):Pf A 252 [Q0 t,Lt x] (.d (.bool (jX t x))):=by
 refine Pf.gr 4 ?_;refine tb (!s7 x.cr 0&&(!s7 x.cr 1|| !D0 0 (O x.C6))) (λh1=>?_) (λh1=>?_)
 .refine gr ?_
  exact ⟨_,rfl,by unfold jX;rw [h1];rfl⟩
 refine tc (!p9 x.gL 0 1048576) lX (λh2=>?_) (λh2=>?_)
 .refine gr ?_
  exact ⟨_,rfl,by unfold jX;rw [h1,h2];rfl⟩
 refine tb (!s7 x.gL 0&& !D0 0 (O x.C6)) (λh3=>?_) (λh3=>?_)
 .refine gr ?_
  exact ⟨_,rfl,by unfold jX;rw [h1,h2,h3];rfl⟩
 repeat' (first|refine gy ?_|refine fq (λhw=>?_) λhw=>?_|refine ⟨_,rfl,?_⟩|fail)
 all_goals unfold jX
 all_goals rw [h1,h2,h3]
 all_goals simp [*,j4]
def l7:G9:=⟨0,8,8,8⟩
def YP (a0 ax a1 a2 a3 a4 a5:x6)(x y:Q1):Pm A 249 [Lt y,.ptr 7 0] [a0,ax,a1,a2,a3,a4,a5,.cells (x.enc.map .d)] l7 (.d (.bool (K7 y.name x.name))) [a0,ax,a1,a2,a3,a4,a5,.cells (x.enc.map .d)]:=by
 suffices h:Pq A 249 [Lt y,.ptr 7 0] [a0,ax,a1,a2,a3,a4,a5,.cells (x.enc.map .d)] l7 λv H1=>v= .d (.bool (K7 y.name x.name))/\H1=[a0,ax,a1,a2,a3,a4,a5,.cells (x.enc.map .d)] by
  obtain ⟨v,H1,⟨rfl,rfl⟩,h⟩:=h;exact h
 refine Pq.go 2 ?_;refine gr ?_;exact ⟨_,_,rfl,rfl,rfl⟩
def LN (x:Q1):List Q1->Nat->Int
 |[],_=> -1
 |y::r,i=>if K7 y.name x.name then i else LN x r (i+1)
theorem Hz (x:Q1):∀(l:List Q1) (i:Nat),U4 0 (LN x l i)=l.any λy=>K7 y.name x.name
 |[],i=>by simp [LN,r7]
 |y::r,i=>by
  have h1:=Hz x r (i+1)
  grind [LN,K7,r7]
set_option maxHeartbeats 2000000 in
def YV (a0 ax a1 a2 a3 a4 a5:x6)(x:Q1)(ys:List Q1)(hy:O ys<=1000):Pm A 277 [.d (x3 Q1.enc ys),.func 249 [] [.ptr 7 0]] [a0,ax,a1,a2,a3,a4,a5,.cells (x.enc.map .d)] l7 (.d (Z (LN x ys 0))) [a0,ax,a1,a2,a3,a4,a5,.cells (x.enc.map .d)]:=by
 suffices h:Pq A 277 [.d (x3 Q1.enc ys),.func 249 [] [.ptr 7 0]] [a0,ax,a1,a2,a3,a4,a5,.cells (x.enc.map .d)] l7 λv H1=>v= .d (Z (LN x ys 0))/\H1=[a0,ax,a1,a2,a3,a4,a5,.cells (x.enc.map .d)] by
  obtain ⟨v,H1,⟨rfl,rfl⟩,h⟩:=h;exact h
 refine Pq.go 4 ?_;refine gr ?_;refine Ex.J1 (λk T H=>∃(i:Nat),T=[.d (x3 Q1.enc ys),.func 249 [] [.ptr 7 0],.any,.any,.d (Z (O ys)),.d (Z i)]/\H=[a0,ax,a1,a2,a3,a4,a5,.cells (x.enc.map .d)]/\i+k=O ys/\LN x ys 0=LN x (ys.drop i) i) ?_ (k:=O ys) ⟨0,rfl,rfl,U,U⟩;rintro k _ _ ⟨i,rfl,rfl,hk,hi⟩;refine Ex.seq ?_;refine tb (D0 i (O ys)) (λh1=>?_) (λh1=>?_)
 .have h2:=A5 h1
  rw [C5 V] at hi;have p1:=YP a0 ax a1 a2 a3 a4 a5 x (Y ys i);refine gr ?_;refine tB (K7 (Y ys i).name x.name) ?_ (λh3=>?_) (λh3=>?_)
  .repeat' (first|refine cv1 p1 rfl ?_|refine gx ?_|refine fq (λhw=>?_) λhw=>?_|refine ⟨rfl,rfl,_,rfl,?_⟩|rfl|fail)
  .refine gr ?_
   exact ⟨_,_,rfl,by rw [hi,LN,h3];rfl,rfl⟩
  .refine gr ?_
   exact kk ⟨i+1,rfl,rfl,V,by simp_all [LN]⟩
 .have h2:=A9 h1
  rw [n5 V] at hi;refine gr ?_;exact ⟨_,_,rfl,by rw [hi];rfl,rfl⟩
def YO (a0 ax a1 a2 a3 a4 a5:x6)(x:Q1)(ys:List Q1)(hy:O ys<=1000):Pm A 248 [.d (x3 Q1.enc ys),.func 249 [] [.ptr 7 0]] [a0,ax,a1,a2,a3,a4,a5,.cells (x.enc.map .d)] l7 (.d (.bool (ys.any λy=>K7 y.name x.name))) [a0,ax,a1,a2,a3,a4,a5,.cells (x.enc.map .d)]:=by
 have p1:=YV a0 ax a1 a2 a3 a4 a5 x ys hy;rw [<- Hz x ys 0]
 suffices h:Pq A 248 [.d (x3 Q1.enc ys),.func 249 [] [.ptr 7 0]] [a0,ax,a1,a2,a3,a4,a5,.cells (x.enc.map .d)] l7 λv H1=>v= .d (.bool (U4 0 (LN x ys 0)))/\H1=[a0,ax,a1,a2,a3,a4,a5,.cells (x.enc.map .d)] by
  obtain ⟨v,H1,⟨rfl,rfl⟩,h⟩:=h;exact h
 refine Pq.go 1 ?_
 repeat' (first|refine c1 p1 rfl ?_|refine gx ?_|fail)
 exact ⟨_,_,rfl,rfl,rfl⟩
def Yb (x:Q1):Pf A 214 [Lt x] (.d (.str x.name)):=by
 refine Pf.gr 2 ?_;exact ⟨_,rfl,rfl⟩
def Yd (x:Q1):Pf A 216 [Lt x] (.d (Z x.type)):=by
 refine Pf.gr 2 ?_;exact ⟨_,rfl,rfl⟩
set_option maxHeartbeats 2000000 in
def Ya (xs:List Q1)(hx:O xs<=1000):Pf A 213 [.d (x3 Q1.enc xs),.func 214 [] []] (.d (x3 encS (xs.map Q1.name))):=by
 refine Pf.gr 6 ?_;refine Ex.L4 (λk T H=>∃(i:Nat) (acc:List I4),T=[.any,.func 214 [] [],.any,A8 1 encS acc,.any,.d (x3 Q1.enc xs),.d (Z (O xs)),.d (Z i)]/\H=[]/\i+k=O xs/\acc=(xs.take i).map Q1.name) ?_ (k:=O xs) ⟨0,[],rfl,rfl,U,U⟩;rintro k _ _ ⟨i,acc,rfl,rfl,hk,hacc⟩;have hl:O acc=i:=by rw [hacc];simp;omega
 refine Ex.seq ?_;refine tl i (O xs) (λh2=>?_) (λh2=>?_)
 .have p1:=Yb (Y xs i)
  repeat' (first|refine cv p1 ?_|refine gx ?_|fail)
  exact kk ⟨_,_,rfl,i+1,acc++[(Y xs i).name],rfl,rfl,V,by rw [D2 V,hacc];simp⟩
 .rw [s9 V] at hacc
  refine gr ?_;exact ⟨_,rfl,by rw [<- hacc];rfl⟩
set_option maxHeartbeats 2000000 in
def Yc (xs:List Q1)(hx:O xs<=1000):Pf A 215 [.d (x3 Q1.enc xs),.func 216 [] []] (.d (ints (xs.map Q1.type))):=by
 refine Pf.gr 6 ?_;refine Ex.L4 (λk T H=>∃(i:Nat) (acc:List Int),T=[.any,.func 216 [] [],.any,A8 1 (λn=>[Z n]) acc,.any,.d (x3 Q1.enc xs),.d (Z (O xs)),.d (Z i)]/\H=[]/\i+k=O xs/\acc=(xs.take i).map Q1.type) ?_ (k:=O xs) ⟨0,[],rfl,rfl,U,U⟩;rintro k _ _ ⟨i,acc,rfl,rfl,hk,hacc⟩;have hl:O acc=i:=by rw [hacc];simp;omega
 refine Ex.seq ?_;refine tl i (O xs) (λh2=>?_) (λh2=>?_)
 .have p1:=Yd (Y xs i)
  repeat' (first|refine cv p1 ?_|refine gx ?_|fail)
  exact kk ⟨_,_,rfl,i+1,acc++[(Y xs i).type],rfl,rfl,V,by rw [D2 V,hacc];simp⟩
 .rw [s9 V] at hacc
  refine gr ?_;exact ⟨_,rfl,by rw [<- hacc];rfl⟩
def nB (c:p7)(ss:List dB)(t:cI)(i:Nat):Int :=
 if !K1 (Y t.o4 i).name||(!K7 (Y t.o4 i).space []&& !K1 (Y t.o4 i).space) then 3
 else if (t.o4.take i).any λy=>K7 y.name (Y t.o4 i).name then 4
 else if !K7 (Y t.o4 i).refs []&&D0 (I5 (Y t.o4 i).refs (ss.map (·.1)) 0) 0 then 7
 else if !(s7 (Y t.o4 i).type 1||s7 (Y t.o4 i).type 2)||(U4 0 (I5 (Y t.o4 i).refs (ss.map (·.1)) 0)&& !s7 (Y t.o4 i).type (Y (Y ss (I5 (Y t.o4 i).refs (ss.map (·.1)) 0).toNat).2.2 0)) then 5
 else if (!K7 (Y t.o4 i).space []&& !K7 (Y t.o4 i).refs [])|| !S0 t (-1) (Y t.o4 i).C6|| !jX t (Y t.o4 i) then 1
 else if s7 i 0&&D0 0 (O (Y t.o4 i).C6)&& !s7 t.erase 1 then 1
 else if U4 0 (I5 (Y t.o4 i).refs (ss.map (·.1)) 0)&&D0 0 (O (Y (Y c.j7 (I5 (Y t.o4 i).refs (ss.map (·.1)) 0).toNat).o4 0).C6)&& !((Y t.o4 i).C6.any λy=>s7 y i) then 1
 else 0
set_option maxHeartbeats 8000000 in
def YM [Inhabited XO] (c:p7)(ds:List I4)(ss:List dB)(t:cI)(i:Nat)(hi:i<O t.o4)(hc:O t.o4<=1000)(ho:O (Y t.o4 i).C6<=1000)(hss:O ss<=O c.j7)(ht:∀k,k<O ss->0<O (Y ss k).2.2/\0<O (Y c.j7 k).o4) :
  Pm A 211 [.ptr 5 0,Q0 t,.d (Z i)] (HH c ds ss) lR (.d (Z (nB c ss t i))) (HH c ds ss):=by
 have Uq:=Gq c ds ss (Y t.o4 i).refs;have b1:=wv ss (Y t.o4 i).refs;have b2:(I5 (Y t.o4 i).refs (ss.map (·.1)) 0)= -1\/(0<=(I5 (Y t.o4 i).refs (ss.map (·.1)) 0)/\(I5 (Y t.o4 i).refs (ss.map (·.1)) 0)<O ss/\0<O (Y ss (I5 (Y t.o4 i).refs (ss.map (·.1)) 0).toNat).2.2/\0<O (Y c.j7 (I5 (Y t.o4 i).refs (ss.map (·.1)) 0).toNat).o4):=by
  rcases b1 with h|h
  .exact Or.inl h
  .have:=ht (I5 (Y t.o4 i).refs (ss.map (·.1)) 0).toNat V
   exact Or.inr ⟨h.1,h.2,this.1,this.2⟩
 have aB7:=Ym t (Y t.o4 i).C6 ho hc;have aB8:=Yn t (Y t.o4 i);have q49:=ax6 (Y t.o4 i).C6 i V
 suffices h:Pq A 211 [.ptr 5 0,Q0 t,.d (Z i)] (HH c ds ss) lR λv H1=>v= .d (Z (nB c ss t i))/\H1=HH c ds ss by
  obtain ⟨v,H1,⟨rfl,rfl⟩,h⟩:=h;exact h
 unfold HH at *
 have aB6:=YO xa xo (.cells (c.enc.map .d)) (.map (dmap ds)) (.map (dc (ss.map (·.1)) 0)) (.cells (c.enc.map .d++[.map 3,.map 4,A8 2 V4 ss])) (.cells (t.enc.map .d)) (Y t.o4 i) (t.o4.take i) D;refine Pq.go 5 ?_;refine gr ?_;refine tc (!K1 (Y t.o4 i).name||(!K7 (Y t.o4 i).space []&& !K1 (Y t.o4 i).space)) No (λh1=>?_) (λh1=>?_)
 .refine gr ?_
  exact ⟨_,_,rfl,by unfold nB;rw [h1];rfl,rfl⟩
 refine gr ?_;refine tB ((t.o4.take i).any λy=>K7 y.name (Y t.o4 i).name) ?_ (λh2=>?_) (λh2=>?_)
 .repeat' (first|refine c1 aB6 rfl ?_|refine gx ?_|refine fq (λhw=>?_) λhw=>?_|refine ⟨rfl,rfl,_,rfl,?_⟩|refine ⟨rfl,rfl⟩|fail)
  all_goals exact cc
 .refine gr ?_
  exact ⟨_,_,rfl,by unfold nB;rw [h1,h2];rfl,rfl⟩
 repeat' (first|refine c1 Uq rfl ?_|refine gx ?_|fail)
 refine tb (!K7 (Y t.o4 i).refs []&&D0 (I5 (Y t.o4 i).refs (ss.map (·.1)) 0) 0) (λh3=>?_) (λh3=>?_)
 .refine gr ?_
  exact ⟨_,_,rfl,by unfold nB;rw [h1,h2,h3];rfl,rfl⟩
 refine gr ?_;refine tc (!(s7 (Y t.o4 i).type 1||s7 (Y t.o4 i).type 2)||(U4 0 (I5 (Y t.o4 i).refs (ss.map (·.1)) 0)&& !s7 (Y t.o4 i).type (Y (Y ss (I5 (Y t.o4 i).refs (ss.map (·.1)) 0).toNat).2.2 0))) Yl (λh4=>?_) (λh4=>?_)
 .refine gr ?_
  exact ⟨_,_,rfl,by unfold nB;rw [h1,h2,h3,h4];rfl,rfl⟩
 refine gr ?_;refine tc ((!K7 (Y t.o4 i).space []&& !K7 (Y t.o4 i).refs [])|| !S0 t (-1) (Y t.o4 i).C6|| !jX t (Y t.o4 i)) (And.intro aB7 aB8) (λh5=>?_) (λh5=>?_)
 .refine gr ?_
  exact ⟨_,_,rfl,by unfold nB;rw [h1,h2,h3,h4,h5];rfl,rfl⟩
 refine gr ?_;refine tb (s7 i 0&&D0 0 (O (Y t.o4 i).C6)&& !s7 t.erase 1) (λh6=>?_) (λh6=>?_)
 .refine gr ?_
  exact ⟨_,_,rfl,by unfold nB;rw [h1,h2,h3,h4,h5,h6];rfl,rfl⟩
 refine gr ?_;refine tc (U4 0 (I5 (Y t.o4 i).refs (ss.map (·.1)) 0)&&D0 0 (O (Y (Y c.j7 (I5 (Y t.o4 i).refs (ss.map (·.1)) 0).toNat).o4 0).C6)&& !((Y t.o4 i).C6.any λy=>s7 y i)) q49 (λh7=>?_) (λh7=>?_)
 .refine gr ?_
  exact ⟨_,_,rfl,by unfold nB;rw [h1,h2,h3,h4,h5,h6,h7];rfl,rfl⟩
 refine gr ?_;exact ⟨_,_,rfl,by unfold nB;rw [h1,h2,h3,h4,h5,h6,h7];rfl,rfl⟩
def zj (c:p7)(ss:List dB)(t:cI):Nat->Nat->Int
 |0,_=>0
 |k+1,i=>if !s7 (nB c ss t i) 0 then nB c ss t i else zj c ss t k (i+1)
def mA (t:cI):Bool:= !p9 (O t.o4) 1 8||(!s7 t.erase 0&& !s7 t.erase 1)|| !p9 t.ay 0 1048576
def sA (c:p7)(ss:List dB)(ds:List I4)(t:cI):Int :=
 if !s7 (N7 ds t.name) 0 then N7 ds t.name else if mA t then 1 else zj c ss t (O t.o4) 0
def EH (c:p7)(ss:List dB)(ds:List I4)(t:cI):List dB:=if s7 (sA c ss ds t) 0 then ss++[(t.name,t.o4.map Q1.name,t.o4.map Q1.type)] else ss
set_option maxHeartbeats 8000000 in
def az1 [Inhabited XO] (c:p7)(ds:List I4)(ss:List dB)(i:Nat)(hi:i<O c.j7)(hc:O (Y c.j7 i).o4<=1000)(ho:∀j,j<O (Y c.j7 i).o4->O (Y (Y c.j7 i).o4 j).C6<=1000)(hss:O ss<=O c.j7)(ar3:O ss<=1000)(hi2:O c.j7<=1000)
  (ht:∀k,k<O ss->0<O (Y ss k).2.2/\0<O (Y c.j7 k).o4) (hsub:∀s,(ds.any λy=>K7 y s)=F->((ss.map (·.1)).any λy=>K7 y s)=F) :
  Pm A 149 [.ptr 5 0,.d (Z i)] (HH c ds ss) lW (.d (Z (sA c ss ds (Y c.j7 i)))) (HH c (M1 ds (Y c.j7 i).name) (EH c ss ds (Y c.j7 i))):=by
 generalize hx:Y c.j7 i=t at *
 have oO:=tM c ds ss t.name;have Uk:∀j,j<O t.o4->Pm A 211 [.ptr 5 0,Q0 t,.d (Z j)] (HH c (M1 ds t.name) ss) lR (.d (Z (nB c ss t j))) (HH c (M1 ds t.name) ss):=λj hj=>YM c (M1 ds t.name) ss t j hj hc (ho j hj) hss ht
 have aA9:=Ya t.o4 hc;have aB0:=Yc t.o4 hc;have Nd:N7 ds t.name=0->Pm A 212 [.ptr 5 0,.d (.str t.name),Hq (t.o4.map Q1.name) (t.o4.map Q1.type)] (HH c (M1 ds t.name) ss) lW (.tuple []) (HH c (M1 ds t.name) (ss++[(t.name,t.o4.map Q1.name,t.o4.map Q1.type)])):=λh=>by
  refine Nv c (M1 ds t.name) ss t.name _ _ (hsub _ ?_) ar3;unfold N7 at h;cases h1:(!K1 t.name) with
  |true=>rw [h1] at h;simp at h
  |false =>
   rw [h1] at h;cases h2:ds.any λy=>K7 y t.name with
   |false=>rfl
   |true=>rw [h2] at h;simp at h
 suffices h:Pq A 149 [.ptr 5 0,.d (Z i)] (HH c ds ss) lW λv H1=>v= .d (Z (sA c ss ds t))/\H1=HH c (M1 ds t.name) (EH c ss ds t) by
  obtain ⟨v,H1,⟨rfl,rfl⟩,h⟩:=h;exact h
 have fin:∀e:Int,s7 e 0=F->sA c ss ds t=e->EH c ss ds t=ss:=λe h1 h2=>by unfold EH;rw [h2,h1];rfl
 unfold HH at *
 refine Pq.go 7 ?_;refine gr ?_;rw [hx]
 repeat' (first|refine c0 oO rfl (h2:=?_)|refine gx ?_|fail)
 refine tb (!s7 (N7 ds t.name) 0) (λh1=>?_) (λh1=>?_)
 .have e1:sA c ss ds t=N7 ds t.name:=by unfold sA;rw [h1];rfl
  refine gr ?_;exact ⟨_,_,rfl,by rw [e1];rfl,by rw [fin _ (by simpa using h1) e1];rfl⟩
 refine gr ?_;refine tB (mA t) ?_ (λh2=>?_) (λh2=>?_)
 .repeat' (first|refine cl (lX _ _ _) ?_|refine gx ?_|refine fq (λhw=>?_) λhw=>?_|refine ⟨rfl,rfl,_,rfl,?_⟩|refine ⟨rfl,rfl⟩|fail)
  all_goals first|(simp [*,j4,mA];done)|(simp_all [j4,mA];done)|(simp_all [j4,mA,s4,r7,o6,E2];done)|(simp_all [j4,mA,s4,r7,o6,E2]<;>omega)
 .have e1:sA c ss ds t=1:=by unfold sA;rw [h1,h2];rfl
  refine gr ?_;exact ⟨_,_,rfl,by rw [e1];rfl,by rw [fin 1 (by simp [o6]) e1];rfl⟩
 refine gr ?_;refine Ex.Y1 (λk T H=>∃(j:Nat) (w1 w2 w4 w5 w6:c7),T=[.ptr 5 0,w1,w2,.ptr 6 0,w4,w5,w6,.d (Z (O t.o4)),.d (Z j)]/\H=[xa,xo,.cells (c.enc.map .d),.map (dmap (M1 ds t.name)),.map (dc (ss.map (·.1)) 0),.cells (c.enc.map .d++[.map 3,.map 4,A8 2 V4 ss]),.cells (t.enc.map .d)]/\j+k=O t.o4/\sA c ss ds t=zj c ss t k j) ?_ (k:=O t.o4) ⟨0,_,_,_,_,_,rfl,rfl,U,by unfold sA;rw [h1,h2];rfl⟩;rintro k _ _ ⟨j,w1,w2,w4,w5,w6,rfl,rfl,hk,hj⟩;refine Ex.nT ?_;refine Ex.seq ?_;refine tl j (O t.o4) (λh4=>?_) (λh4=>?_)
 .obtain ⟨k,rfl⟩:∃k',k=k' +1:=⟨k - 1,V⟩
  have aA8:=Uk j V;rw [zj] at hj
  repeat' (first|refine c1 aA8 rfl ?_|refine gx ?_|fail)
  refine tb (!s7 (nB c ss t j) 0) (λh5=>?_) (λh5=>?_)
  .rw [h5,if_pos rfl] at hj
   refine gr ?_;exact ⟨_,_,rfl,by rw [hj];rfl,by rw [fin _ (by simpa using h5) hj];rfl⟩
  .rw [h5,if_neg U] at hj
   refine gr ?_;exact ⟨k,V,j+1,_,_,_,_,_,rfl,rfl,V,hj⟩
 .obtain rfl:k=0:=V
  have UD:=Nd (W9 (by simpa using h1));have e1:sA c ss ds t=0:=hj;have e2:EH c ss ds t=ss++[(t.name,t.o4.map Q1.name,t.o4.map Q1.type)]:=by unfold EH;rw [e1];simp [o6]
  rw [e2]
  repeat' (first|refine cl (aA9) ?_|refine cl (aB0) ?_|refine c0 UD rfl (h2:=?_)|refine gx ?_|fail)
  exact ⟨_,_,rfl,by rw [e1];rfl,rfl⟩
def VH (c:p7)(ss:List dB)(x:kA):Vw:=Y c.views (I5 x.source (ss.map (·.1)) 0 - O c.j7).toNat
def Es (c:p7)(ss:List dB)(ds:List I4)(x:kA):Int:=if !s7 (N7 ds x.name) 0 then N7 ds x.name else if D0 (I5 x.source (ss.map (·.1)) 0 - O c.j7) 0 then 7
 else if !s7 (VH c ss x).kind 1|| !s7 (Y (VH c ss x).E3 0).func 0|| !p9 x.UW 1 1024 then 1 else 0
def Rw (c:p7)(ss:List dB):List I4->List I4->Int
 |_,[]=>0
 |seen,t::r=>if !jQ c ss t then 7 else if seen.any λy=>K7 y t then 4 else Rw c ss (seen++[t]) r
def RA (c:p7)(ss:List dB)(ds:List I4)(x:nq):Int:=if !s7 (N7 ds x.name) 0 then N7 ds x.name else if s7 (O x.tables) 0|| !p9 x.keep 1 1048576 then 1 else Rw c ss [] x.tables
set_option maxHeartbeats 4000000 in
def az6 [Inhabited XO] (c:p7)(ds:List I4)(ss:List dB)(i:Nat)(hi:i<O c.J5)(hc:O c.j7<=1000)(hss:O ss<=O c.j7+O c.views)(ZO:O c.views<=1000)(hg:∀k,k<O c.views->(Y c.views k).kind≠1\/0<O (Y c.views k).E3):Pm A 154 [.ptr 5 0,.d (Z i)] (HH c ds ss) lW (.d (Z (Es c ss ds (Y c.J5 i)))) (HH c (M1 ds (Y c.J5 i).name) ss):=by
 have oO:=tM c ds ss (Y c.J5 i).name;have Uq:=Gq c (M1 ds (Y c.J5 i).name) ss (Y c.J5 i).source;have b1:=wv ss (Y c.J5 i).source
 suffices h:Pq A 154 [.ptr 5 0,.d (Z i)] (HH c ds ss) lW λv H1=>v= .d (Z (Es c ss ds (Y c.J5 i)))/\H1=HH c (M1 ds (Y c.J5 i).name) ss by
  obtain ⟨v,H1,⟨rfl,rfl⟩,h⟩:=h;exact h
 generalize hx:Y c.J5 i=x at *
 unfold HH at *
 refine Pq.go 5 ?_;refine gr ?_;rw [hx]
 repeat' (first|refine c0 oO rfl (h2:=?_)|refine gx ?_|fail)
 refine tb (!s7 (N7 ds x.name) 0) (λh1=>?_) (λh1=>?_)
 .refine gr ?_
  exact ⟨_,_,rfl,by unfold Es;rw [h1];rfl,rfl⟩
 repeat' (first|refine c1 Uq rfl ?_|refine gx ?_|fail)
 refine tb (D0 (I5 x.source (ss.map (·.1)) 0 - O c.j7) 0) (λh2=>?_) (λh2=>?_)
 .refine gr ?_
  exact ⟨_,_,rfl,by unfold Es;rw [h1,h2];rfl,rfl⟩
 have h3:=A9 h2;have h4:=hg (I5 x.source (ss.map (·.1)) 0 - O c.j7).toNat V;have hrv:Y c.views (I5 x.source (ss.map (·.1)) 0 - O c.j7).toNat=VH c ss x:=rfl;refine gr ?_;rw [hrv] at h4 ⊢;refine gr ?_;refine tc (!s7 (VH c ss x).kind 1|| !s7 (Y (VH c ss x).E3 0).func 0|| !p9 x.UW 1 1024) lX (λh5=>?_) (λh5=>?_)
 .refine gr ?_
  exact ⟨_,_,rfl,by unfold Es;rw [h1,h2,h5];rfl,rfl⟩
 .refine gr ?_
  exact ⟨_,_,rfl,by unfold Es;rw [h1,h2,h5];rfl,rfl⟩
set_option maxHeartbeats 4000000 in
def az8 [Inhabited XO] (c:p7)(ds:List I4)(ss:List dB)(i:Nat)(hi:i<O c.K6)(hc:O c.j7<=1000)(hx1:O (Y c.K6 i).tables<=1000):Pm A 156 [.ptr 5 0,.d (Z i)] (HH c ds ss) lW (.d (Z (RA c ss ds (Y c.K6 i)))) (HH c (M1 ds (Y c.K6 i).name) ss):=by
 have oO:=tM c ds ss (Y c.K6 i).name;have JP:∀s,Pm A 223 [.ptr 5 0,.d (.str s)] (HH c (M1 ds (Y c.K6 i).name) ss) lR (.d (.bool (jQ c ss s))) (HH c (M1 ds (Y c.K6 i).name) ss):=λs=>Sy c (M1 ds (Y c.K6 i).name) ss s hc
 suffices h:Pq A 156 [.ptr 5 0,.d (Z i)] (HH c ds ss) lW λv H1=>v= .d (Z (RA c ss ds (Y c.K6 i)))/\H1=HH c (M1 ds (Y c.K6 i).name) ss by
  obtain ⟨v,H1,⟨rfl,rfl⟩,h⟩:=h;exact h
 generalize hx:Y c.K6 i=x at *
 unfold HH at *
 refine Pq.go 8 ?_;refine gr ?_;rw [hx]
 repeat' (first|refine c0 oO rfl (h2:=?_)|refine gx ?_|fail)
 refine tb (!s7 (N7 ds x.name) 0) (λh1=>?_) (λh1=>?_)
 .refine gr ?_
  exact ⟨_,_,rfl,by unfold RA;rw [h1];rfl,rfl⟩
 refine gr ?_;refine tc (s7 (O x.tables) 0|| !p9 x.keep 1 1048576) lX (λh2=>?_) (λh2=>?_)
 .refine gr ?_
  exact ⟨_,_,rfl,by unfold RA;rw [h1,h2];rfl,rfl⟩
 refine gr ?_;refine Ex.J1 (λk T H=>∃(j:Nat),T=[.ptr 5 0,.any,.any,.ptr 6 0,.any,.any,.any,.d (x3 (λs=>[.str s]) x.tables),.d (Z (O x.tables)),.d (Z j)]/\H=[xa,xo,.cells (c.enc.map .d),.map (dmap (M1 ds x.name)),.map (dc (ss.map (·.1)) 0),.cells (c.enc.map .d++[.map 3,.map 4,A8 2 V4 ss]),.cells (x.enc.map .d)]/\j+k=O x.tables/\RA c ss ds x=Rw c ss (x.tables.take j) (x.tables.drop j)) ?_ (k:=O x.tables) ⟨0,rfl,rfl,U,by simp [RA,h1,h2]⟩;rintro k _ _ ⟨j,rfl,rfl,hk,hj⟩;refine Ex.seq ?_;refine tl j (O x.tables) (λh4=>?_) (λh4=>?_)
 .rw [C5 V] at hj
  have aB4:=JP (Y x.tables j);have aB5:=Sm (x.tables.take j) (Y x.tables j) D;refine gr ?_;refine tB (!jQ c ss (Y x.tables j)) ?_ (λh5=>?_) (λh5=>?_)
  .repeat' (first|refine c1 aB4 rfl ?_|refine gx ?_|refine fq (λhw=>?_) λhw=>?_|refine ⟨rfl,rfl,_,rfl,?_⟩|refine ⟨rfl,rfl⟩|fail)
   all_goals exact cc
  .refine gr ?_
   exact ⟨_,_,rfl,by rw [hj];unfold Rw;rw [h5];rfl,rfl⟩
  refine gr ?_;refine tc ((x.tables.take j).any λy=>K7 y (Y x.tables j)) aB5 (λh6=>?_) (λh6=>?_)
  .refine gr ?_
   exact ⟨_,_,rfl,by rw [hj];unfold Rw;rw [h5,h6];rfl,rfl⟩
  .refine gr ?_
   refine kk ⟨j+1,rfl,rfl,V,?_⟩;rw [hj,D2 V];simp only [Rw,h5,h6,j6,if_false]
 .rw [n5 V] at hj
  refine gr ?_;exact ⟨_,_,rfl,by rw [hj];rfl,rfl⟩
end Go.Proofs.YtibjocmpkoepoaaGreat


import Derived.Test.YtibjocmpkoepoaaGreatUD4
set_option linter.all false
open Bool renaming false_eq_true→j6,true→W,false→F
open List renaming drop_of_length_le→n5,length_map→A1,take_of_length_le→s4,length→O
open Option renaming some→J,none→K
namespace Go.Proofs.YtibjocmpkoepoaaGreat
open Go.y9 Go.y9.S
attribute [local irreducible] Rx Ry Rn Ex Pf
structure XO where
 a:s6
 b:s6
 ha:a.F4=0
 hb:b.F4=0
abbrev xa [Inhabited XO]:s6:=(default:XO).a
abbrev xo [Inhabited XO]:s6:=(default:XO).b
abbrev cU:=G4×List G4×List Int
def U4 (s:cU):List y9.Data:=[s7 encS s.2.1,ints s.2.2]
def HH [Inhabited XO] (c:o9)(ds:List G4)(ss:List cU):k9 :=
 [xa,xo,.cells (c.enc.map .d),.map (dmap ds),.map (cH (ss.map (·.1)) 0),.cells (c.enc.map .d++[.map 3,.map 4,A8 2 U4 ss])]
def lW:F9:=⟨0,0,6,6⟩
def lR:F9:=⟨0,6,6,6⟩
theorem yZ (s:G4):∀(l:List G4) (i:Nat),Z8 .s (.str s) (cH l i)=J (if D5 (F7 s l i) 0 then K else J (.d (Z (F7 s l i))))
 |[],i=>by simp [cH,Z8,F7,y4]
 |d::l,i=>by
  have h1:=yZ s l (i+1);have h2:(s==d)=K3 d s:=by
   rw [F3,Bool.eq_iff_iff]
   grind
  simp [cH,Z8,Data.aP,F7,h2]
  by_cases hb:K3 d s=W
  .simp [hb,y4,Z]
  simp_all
def Fw [Inhabited XO] (c:o9)(ds:List G4)(ss:List cU)(s:G4):Pm A 125 [.ptr 5 0,.d (.str s)] (HH c ds ss) lR (.d (Z (F7 s (ss.map (·.1)) 0))) (HH c ds ss):=by
 have hf:=yZ s (ss.map (·.1)) 0
 suffices h:Pq A 125 [.ptr 5 0,.d (.str s)] (HH c ds ss) lR λv H1=>v= .d (Z (F7 s (ss.map (·.1)) 0))/\H1=HH c ds ss by
  obtain ⟨v,H1,⟨rfl,rfl⟩,h⟩:=h;exact h
 refine Pq.go 3 ?_;cases h1:D5 (F7 s (ss.map (·.1)) 0) 0 with
 |true =>
  rw [h1,if_pos rfl] at hf;have h2:=A7 h1;have h3:F7 s (ss.map (·.1)) 0= -1:=by grind [dG]
  repeat' (first|refine lk2 hf rfl rfl ?_|refine gx ?_|fail)
  refine tb (F) (λh4=>?_) (λh4=>?_)
  .cases h4
  refine gr ?_;exact ⟨_,_,rfl,by rw [h3];rfl,rfl⟩
 |false =>
  rw [h1,if_neg U] at hf
  repeat' (first|refine lk2 hf rfl rfl ?_|refine gx ?_|fail)
  refine tb (W) (λh4=>?_) (λh4=>?_)
  .refine gr ?_
   exact ⟨_,_,rfl,rfl,rfl⟩
  .cases h4
def ar5 [Inhabited XO] (c:o9)(ds:List G4)(ss:List cU)(n:Int):Pm A 173 [.ptr 5 0,.d (Z n)] (HH c ds ss) lR (.d (.bool (T5 0 n&&D5 n (O ss)))) (HH c ds ss):=by
 suffices h:Pq A 173 [.ptr 5 0,.d (Z n)] (HH c ds ss) lR λv H1=>v= .d (.bool (T5 0 n&&D5 n (O ss)))/\H1=HH c ds ss by
  obtain ⟨v,H1,⟨rfl,rfl⟩,h⟩:=h;exact h
 refine Pq.go 1 ?_
 repeat' (first|refine gy ?_|refine fq (λhw=>?_) λhw=>?_|refine ⟨_,rfl,?_⟩|fail)
 all_goals exact ⟨_,_,rfl,by simp [*,j5],rfl⟩
def jj (c:o9)(ss:List cU)(s:G4):Bool:=p9 (F7 s (ss.map (·.1)) 0) 0 (O c.j7 - 1)
def QT [Inhabited XO] (c:o9)(ds:List G4)(ss:List cU)(s:G4)(hc:O c.j7<=1000):Pm A 223 [.ptr 5 0,.d (.str s)] (HH c ds ss) lR (.d (.bool (jj c ss s))) (HH c ds ss):=by
 have p1:=Fw c ds ss s
 suffices h:Pq A 223 [.ptr 5 0,.d (.str s)] (HH c ds ss) lR λv H1=>v= .d (.bool (jj c ss s))/\H1=HH c ds ss by
  obtain ⟨v,H1,⟨rfl,rfl⟩,h⟩:=h;exact h
 refine Pq.go 1 ?_
 repeat' (first|refine c1 p1 rfl ?_|refine cl (kM _ _ _) ?_|refine gx ?_|fail)
 exact ⟨_,_,rfl,rfl,rfl⟩
def N4 (ds:List G4)(s:G4):Int:=if !J3 s then 3 else if ds.any λy=>K3 y s then 4 else 0
def L8 (ds:List G4)(s:G4):List G4:=if x4 (N4 ds s) 0 then ds++[s] else ds
def sK [Inhabited XO] (c:o9)(ds:List G4)(ss:List cU)(s:G4):Pm A 209 [.ptr 5 0,.d (.str s)] (HH c ds ss) lW (.d (Z (N4 ds s))) (HH c (L8 ds s) ss):=by
 have hf:=yx s ds
 suffices h:Pq A 209 [.ptr 5 0,.d (.str s)] (HH c ds ss) lW λv H1=>v= .d (Z (N4 ds s))/\H1=HH c (L8 ds s) ss by
  obtain ⟨v,H1,⟨rfl,rfl⟩,h⟩:=h;exact h
 unfold HH;refine Pq.go 1 ?_;have RO:x4 3 0=F:=by simp [o6]
 have UU:x4 4 0=F:=by simp [o6]
 have h12:x4 0 0=W:=by simp [o6]
 refine gr ?_;refine tc (!J3 s) LV (λh1=>?_) (λh1=>?_)
 .refine gr ?_
  have e1:N4 ds s=3:=by unfold N4;rw [h1];rfl
  exact ⟨_,_,rfl,by rw [e1];rfl,by unfold L8;rw [e1,RO];rfl⟩
 cases h2:ds.any λy=>K3 y s with
 |true =>
  rw [h2,if_pos rfl] at hf;have e1:N4 ds s=4:=by unfold N4;rw [h1,h2];rfl
  refine tB (W) ?_ (λh3=>?_) (λh3=>?_)
  .repeat' (first|refine lk1 hf rfl ?_|refine gx ?_|refine fq (λhw=>?_) λhw=>?_|refine ⟨rfl,rfl,_,rfl,?_⟩|refine ⟨rfl,rfl⟩|fail)
   all_goals exact cc
  .refine gr ?_
   exact ⟨_,_,rfl,by rw [e1];rfl,by unfold L8;rw [e1,UU];rfl⟩
  .cases h3
 |false =>
  rw [h2,if_neg U] at hf;have e1:N4 ds s=0:=by unfold N4;rw [h1,h2];rfl
  have hk:Data.aP .s (.str s) (.str s)=J W:=by simp [Data.aP]
  refine tB (F) ?_ (λh3=>?_) (λh3=>?_)
  .repeat' (first|refine lk1 hf rfl ?_|refine gx ?_|refine fq (λhw=>?_) λhw=>?_|refine ⟨rfl,rfl,_,rfl,?_⟩|refine ⟨rfl,rfl⟩|fail)
   all_goals exact cc
  .cases h3
  repeat' (first|refine mp (BX s ds h2) hk (h2:=?_)|refine gx ?_|fail)
  exact ⟨_,_,rfl,by rw [e1];rfl,by unfold L8;rw [e1,h12];rfl⟩
def Gm (nm:List G4)(ty:List Int):c7:= .agg [.d (s7 encS nm),.d (ints ty)]
def Me [Inhabited XO] (c:o9)(ds:List G4)(ss:List cU)(s:G4)(nm:List G4)(ty:List Int)(hs:((ss.map (·.1)).any λy=>K3 y s)=F)(hl:O ss<=1000) :
  Pm A 212 [.ptr 5 0,.d (.str s),Gm nm ty] (HH c ds ss) lW (.tuple []) (HH c ds (ss++[(s,nm,ty)])):=by
 have hput:=CX s (ss.map (·.1)) 0 hs;rw [A1,Nat.zero_add] at hput;have hk:Data.aP .s (.str s) (.str s)=J W:=by simp [Data.aP]
 have hr:roomFor (O ss+1) 48=W:=by simp only [roomFor,decide_eq_true_eq];omega
 suffices h:Pq A 212 [.ptr 5 0,.d (.str s),Gm nm ty] (HH c ds ss) lW λv H1=>v= .tuple []/\H1=HH c ds (ss++[(s,nm,ty)]) by
  obtain ⟨v,H1,⟨rfl,rfl⟩,h⟩:=h;exact h
 unfold HH;refine Pq.go 1 ?_
 repeat' (first|refine mp hput hk (h2:=?_)|refine o2 ?_|refine ac2 (a:=(s,nm,ty)) (xs:=ss) (enc:=U4) hr rfl (h2:=?_)|refine Bp (h2:=?_)|refine gx ?_|fail)
 refine ⟨_,_,rfl,rfl,?_⟩;have e:((ss++[(s,nm,ty)]).map (·.1))=ss.map (·.1)++[s]:=U
 rw [e];rfl
def iO (ss:List cU)(s:G4)(col:Int):Int×Int :=
 if D5 (F7 s (ss.map (·.1)) 0) 0 then (0,7)
 else if !p9 col 0 (O (Y ss (F7 s (ss.map (·.1)) 0).toNat).2.2 - 1) then (0,3)
 else (Y (Y ss (F7 s (ss.map (·.1)) 0).toNat).2.2 col.toNat,0)
def vq (ss:List cU)(s:G4):F7 s (ss.map (·.1)) 0= -1\/(0<=F7 s (ss.map (·.1)) 0/\F7 s (ss.map (·.1)) 0<O ss):=by
 rcases dG s (ss.map (·.1)) 0 with h|h
 .exact Or.inl h
 .right;simp at h;omega
def Mf [Inhabited XO] (c:o9)(ds:List G4)(ss:List cU)(s:G4)(col:Int)(nU:∀k,k<O ss->O (Y ss k).2.2<=100000):Pm A 222 [.ptr 5 0,.d (.str s),.d (Z col)] (HH c ds ss) lR (.tuple [.d (Z (iO ss s col).1),.d (Z (iO ss s col).2)]) (HH c ds ss):=by
 have p1:=Fw c ds ss s;have b1:=vq ss s
 suffices h:Pq A 222 [.ptr 5 0,.d (.str s),.d (Z col)] (HH c ds ss) lR λv H1=>v= .tuple [.d (Z (iO ss s col).1),.d (Z (iO ss s col).2)]/\H1=HH c ds ss by
  obtain ⟨v,H1,⟨rfl,rfl⟩,h⟩:=h;exact h
 unfold HH at p1 ⊢;refine Pq.go 4 ?_
 repeat' (first|refine c1 p1 rfl ?_|refine gx ?_|fail)
 refine tb (D5 (F7 s (ss.map (·.1)) 0) 0) (λh1=>?_) (λh1=>?_)
 .refine gr ?_
  exact ⟨_,_,rfl,by unfold iO;rw [h1];rfl,rfl⟩
 have h2:=B8 h1;have h3:=nU (F7 s (ss.map (·.1)) 0).toNat V;refine gr ?_;refine tc (!p9 col 0 (O (Y ss (F7 s (ss.map (·.1)) 0).toNat).2.2 - 1)) kM (λh4=>?_) (λh4=>?_)
 .refine gr ?_
  exact ⟨_,_,rfl,by unfold iO;rw [h1,h4];rfl,rfl⟩
 have h5:=h4;simp [p9,x6] at h5;refine gr ?_;exact ⟨_,_,rfl,by unfold iO;rw [h1,h4];rfl,rfl⟩
def mG (x:G4):List G4->Nat->Int
 |[],_=> -1
 |y::r,i=>if K3 x y then i else mG x r (i+1)
theorem yB (x:G4):∀(l:List G4) (i:Nat),T5 0 (mG x l i)=l.any λy=>K3 y x
 |[],i=>by simp [mG,x6]
 |y::r,i=>by
  have h1:=yB x r (i+1);have h2:K3 x y=K3 y x:=by simp [F3];grind
  grind [mG,K3,x6]
def WI (xs:List G4)(x:G4)(hx:O xs<=100000):Pf A 260 [.d (s7 encS xs),.d (.str x)] (.d (Z (mG x xs 0))):=by
 refine Pf.gr 4 ?_;refine Ex.J4 (λk T H=>∃(i:Nat),T=[.d (s7 encS xs),.d (.str x),.any,.any,.d (Z (O xs)),.d (Z i)]/\H=[]/\i+k=O xs/\mG x xs 0=mG x (xs.drop i) i) ?_ (k:=O xs) ⟨0,rfl,rfl,U,U⟩;rintro k _ _ ⟨i,rfl,rfl,hk,hi⟩
 repeat' (first|refine gy ?_|refine ft (λht=>?_) λht=>?_|refine ⟨_,rfl,?_⟩|fail)
 .have h1:=A7 ‹D5 i _=W›
  rw [C4 V] at hi;simp [hi,mG,ht,j5,Z]
 .have h1:=A7 ‹D5 i _=W›
  rw [C4 V] at hi;exact kk ⟨i+1,rfl,rfl,V,by simp [hi,mG,ht]⟩
 .have h1:=B8 ht
  rw [n5 V] at hi;simp [hi,mG,j5,Z]
def QJ (xs:List G4)(x:G4)(hx:O xs<=100000):Pf A 224 [.d (s7 encS xs),.d (.str x)] (.d (.bool (xs.any λy=>K3 y x))):=by
 rw [<- yB x xs 0];refine Pf.go 1 ?_;refine gc (WI xs x hx) ?_;exact ⟨_,rfl,rfl⟩
def xC (x:Int):List Int->Nat->Int
 |[],_=> -1
 |y::r,i=>if x4 x y then i else xC x r (i+1)
theorem BZ (x:Int):∀(l:List Int) (i:Nat),T5 0 (xC x l i)=l.any λy=>x4 y x
 |[],i=>by simp [xC,x6]
 |y::r,i=>by
  have h1:=BZ x r (i+1);have h2:x4 x y=x4 y x:=by simp [o6];grind
  grind [xC,x4,x6]
def aq5 (xs:List Int)(x:Int)(hx:O xs<=100000):Pf A 278 [.d (s7 (λn=>[Z n]) xs),.d (Z x)] (.d (Z (xC x xs 0))):=by
 refine Pf.gr 4 ?_;refine Ex.J4 (λk T H=>∃(i:Nat),T=[.d (s7 (λn=>[Z n]) xs),.d (Z x),.any,.any,.d (Z (O xs)),.d (Z i)]/\H=[]/\i+k=O xs/\xC x xs 0=xC x (xs.drop i) i) ?_ (k:=O xs) ⟨0,rfl,rfl,U,U⟩;rintro k _ _ ⟨i,rfl,rfl,hk,hi⟩
 repeat' (first|refine gy ?_|refine ft (λht=>?_) λht=>?_|refine ⟨_,rfl,?_⟩|fail)
 .have h1:=A7 ‹D5 i _=W›
  rw [C4 V] at hi;simp [hi,xC,ht,j5,Z]
 .have h1:=A7 ‹D5 i _=W›
  rw [C4 V] at hi;exact kk ⟨i+1,rfl,rfl,V,by simp [hi,xC,ht]⟩
 .have h1:=B8 ht
  rw [n5 V] at hi;simp [hi,xC,j5,Z]
def ap9 (xs:List Int)(x:Int)(hx:O xs<=100000):Pf A 253 [.d (s7 (λn=>[Z n]) xs),.d (Z x)] (.d (.bool (xs.any λy=>x4 y x))):=by
 rw [<- BZ x xs 0];refine Pf.go 1 ?_;refine gc (aq5 xs x hx) ?_;exact ⟨_,rfl,rfl⟩
def Cw (ss:List cU)(ds:List G4)(x:gZ):Int:=if !x4 (N4 ds x.name) 0 then N4 ds x.name else if !x4 (iO ss x.source x.col).2 0 then (iO ss x.source x.col).2 else if !x4 (iO ss x.source x.col).1 2 then 5 else 0
def wu (ss:List cU)(ds:List G4)(x:gW):Int:=if !x4 (N4 ds x.name) 0 then N4 ds x.name else if !x4 (iO ss x.source x.col).2 0 then (iO ss x.source x.col).2
 else if !x4 x.kind 0&& !x4 x.kind 1&& !x4 x.kind 2 then 1
 else if !p9 x.width 1 1024|| !p9 x.depth 1 8||(x4 x.kind 2&& !x4 x.depth 1)||D5 1024 (x.width * x.depth) then 1 else 0
def BK (ss:List cU)(ds:List G4)(x:jK):Int:=if !x4 (N4 ds x.name) 0 then N4 ds x.name else if !x4 (iO ss x.source x.col).2 0 then (iO ss x.source x.col).2 else if !p9 x.ttl 1 1048576 then 1 else 0
def FL (c:o9)(ss:List cU)(ds:List G4)(x:me):Int:=if !x4 (N4 ds x.name) 0 then N4 ds x.name else if !jj c ss x.table then 7 else 0
set_option maxHeartbeats 4000000 in
def ar8 [Inhabited XO] (c:o9)(ds:List G4)(ss:List cU)(i:Nat)(hi:i<O c.idxs)(nU:∀k,k<O ss->O (Y ss k).2.2<=100000):Pm A 151 [.ptr 5 0,.d (Z i)] (HH c ds ss) lW (.d (Z (Cw ss ds (Y c.idxs i)))) (HH c (L8 ds (Y c.idxs i).name) ss):=by
 have nJ:=sK c ds ss (Y c.idxs i).name;have Fs:=Mf c (L8 ds (Y c.idxs i).name) ss (Y c.idxs i).source (Y c.idxs i).col nU
 suffices h:Pq A 151 [.ptr 5 0,.d (Z i)] (HH c ds ss) lW λv H1=>v= .d (Z (Cw ss ds (Y c.idxs i)))/\H1=HH c (L8 ds (Y c.idxs i).name) ss by
  obtain ⟨v,H1,⟨rfl,rfl⟩,h⟩:=h;exact h
 generalize hx:Y c.idxs i=x at *
 unfold HH at *
 refine Pq.go 5 ?_;refine gr ?_;rw [hx]
 repeat' (first|refine c0 nJ rfl (h2:=?_)|refine gx ?_|fail)
 refine tb (!x4 (N4 ds x.name) 0) (λh1=>?_) (λh1=>?_)
 .refine gr ?_
  exact ⟨_,_,rfl,by unfold Cw;rw [h1];rfl,rfl⟩
 repeat' (first|refine c1 Fs rfl ?_|refine gx ?_|fail)
 refine tb (!x4 (iO ss x.source x.col).2 0) (λh2=>?_) (λh2=>?_)
 .refine gr ?_
  exact ⟨_,_,rfl,by unfold Cw;rw [h1,h2];rfl,rfl⟩
 refine gr ?_;refine tb (!x4 (iO ss x.source x.col).1 2) (λh3=>?_) (λh3=>?_)
 .refine gr ?_
  exact ⟨_,_,rfl,by unfold Cw;rw [h1,h2,h3];rfl,rfl⟩
 .refine gr ?_
  exact ⟨_,_,rfl,by unfold Cw;rw [h1,h2,h3];rfl,rfl⟩
set_option maxHeartbeats 4000000 in
def as0 [Inhabited XO] (c:o9)(ds:List G4)(ss:List cU)(i:Nat)(hi:i<O c.I5)(nU:∀k,k<O ss->O (Y ss k).2.2<=100000):Pm A 153 [.ptr 5 0,.d (Z i)] (HH c ds ss) lW (.d (Z (BK ss ds (Y c.I5 i)))) (HH c (L8 ds (Y c.I5 i).name) ss):=by
 have nJ:=sK c ds ss (Y c.I5 i).name;have Fs:=Mf c (L8 ds (Y c.I5 i).name) ss (Y c.I5 i).source (Y c.I5 i).col nU
 suffices h:Pq A 153 [.ptr 5 0,.d (Z i)] (HH c ds ss) lW λv H1=>v= .d (Z (BK ss ds (Y c.I5 i)))/\H1=HH c (L8 ds (Y c.I5 i).name) ss by
  obtain ⟨v,H1,⟨rfl,rfl⟩,h⟩:=h;exact h
 generalize hx:Y c.I5 i=x at *
 unfold HH at *
 refine Pq.go 4 ?_;refine gr ?_;rw [hx]
 repeat' (first|refine c0 nJ rfl (h2:=?_)|refine gx ?_|fail)
 refine tb (!x4 (N4 ds x.name) 0) (λh1=>?_) (λh1=>?_)
 .refine gr ?_
  exact ⟨_,_,rfl,by unfold BK;rw [h1];rfl,rfl⟩
 repeat' (first|refine c1 Fs rfl ?_|refine gx ?_|fail)
 refine tb (!x4 (iO ss x.source x.col).2 0) (λh2=>?_) (λh2=>?_)
 .refine gr ?_
  exact ⟨_,_,rfl,by unfold BK;rw [h1,h2];rfl,rfl⟩
 refine gr ?_;refine tc (!p9 x.ttl 1 1048576) kM (λh3=>?_) (λh3=>?_)
 .refine gr ?_
  exact ⟨_,_,rfl,by unfold BK;rw [h1,h2,h3];rfl,rfl⟩
 .refine gr ?_
  exact ⟨_,_,rfl,by unfold BK;rw [h1,h2,h3];rfl,rfl⟩
set_option maxHeartbeats 4000000 in
def as2 [Inhabited XO] (c:o9)(ds:List G4)(ss:List cU)(i:Nat)(hi:i<O c.J6)(hc:O c.j7<=1000):Pm A 155 [.ptr 5 0,.d (Z i)] (HH c ds ss) lW (.d (Z (FL c ss ds (Y c.J6 i)))) (HH c (L8 ds (Y c.J6 i).name) ss):=by
 have nJ:=sK c ds ss (Y c.J6 i).name;have IT:=QT c (L8 ds (Y c.J6 i).name) ss (Y c.J6 i).table hc
 suffices h:Pq A 155 [.ptr 5 0,.d (Z i)] (HH c ds ss) lW λv H1=>v= .d (Z (FL c ss ds (Y c.J6 i)))/\H1=HH c (L8 ds (Y c.J6 i).name) ss by
  obtain ⟨v,H1,⟨rfl,rfl⟩,h⟩:=h;exact h
 generalize hx:Y c.J6 i=x at *
 unfold HH at *
 refine Pq.go 3 ?_;refine gr ?_;rw [hx]
 repeat' (first|refine c0 nJ rfl (h2:=?_)|refine gx ?_|fail)
 refine tb (!x4 (N4 ds x.name) 0) (λh1=>?_) (λh1=>?_)
 .refine gr ?_
  exact ⟨_,_,rfl,by unfold FL;rw [h1];rfl,rfl⟩
 refine gr ?_;refine tB (!jj c ss x.table) ?_ (λh2=>?_) (λh2=>?_)
 .repeat' (first|refine c1 IT rfl ?_|refine gx ?_|refine fq (λhw=>?_) λhw=>?_|refine ⟨rfl,rfl,_,rfl,?_⟩|refine ⟨rfl,rfl⟩|fail)
  all_goals exact cc
 .refine gr ?_
  exact ⟨_,_,rfl,by unfold FL;rw [h1,h2];rfl,rfl⟩
 .refine gr ?_
  exact ⟨_,_,rfl,by unfold FL;rw [h1,h2];rfl,rfl⟩
set_option maxHeartbeats 4000000 in
def ar9 [Inhabited XO] (c:o9)(ds:List G4)(ss:List cU)(i:Nat)(hi:i<O c.G7)(nU:∀k,k<O ss->O (Y ss k).2.2<=100000):Pm A 152 [.ptr 5 0,.d (Z i)] (HH c ds ss) lW (.d (Z (wu ss ds (Y c.G7 i)))) (HH c (L8 ds (Y c.G7 i).name) ss):=by
 have nJ:=sK c ds ss (Y c.G7 i).name;have Fs:=Mf c (L8 ds (Y c.G7 i).name) ss (Y c.G7 i).source (Y c.G7 i).col nU
 suffices h:Pq A 152 [.ptr 5 0,.d (Z i)] (HH c ds ss) lW λv H1=>v= .d (Z (wu ss ds (Y c.G7 i)))/\H1=HH c (L8 ds (Y c.G7 i).name) ss by
  obtain ⟨v,H1,⟨rfl,rfl⟩,h⟩:=h;exact h
 generalize hx:Y c.G7 i=x at *
 unfold HH at *
 refine Pq.go 4 ?_;refine gr ?_;rw [hx]
 repeat' (first|refine c0 nJ rfl (h2:=?_)|refine gx ?_|fail)
 refine tb (!x4 (N4 ds x.name) 0) (λh1=>?_) (λh1=>?_)
 .refine gr ?_
  exact ⟨_,_,rfl,by unfold wu;rw [h1];rfl,rfl⟩
 repeat' (first|refine c1 Fs rfl ?_|refine gx ?_|fail)
 refine tb (!x4 (iO ss x.source x.col).2 0) (λh2=>?_) (λh2=>?_)
 .refine gr ?_
  exact ⟨_,_,rfl,by unfold wu;rw [h1,h2];rfl,rfl⟩
 refine gr ?_;refine tb (!x4 x.kind 0&& !x4 x.kind 1&& !x4 x.kind 2) (λh3=>?_) (λh3=>?_)
 .refine gr ?_
  exact ⟨_,_,rfl,by unfold wu;rw [h1,h2,h3];rfl,rfl⟩
 refine gr ?_;cases hW:p9 x.width 1 1024 with
 |false =>
  refine tB (W) ?_ (λh4=>?_) (λh4=>?_)
  .repeat' (first|refine cl (kM _ _ _) ?_|refine gx ?_|refine fq (λhw=>?_) λhw=>?_|refine ⟨rfl,rfl,_,rfl,?_⟩|refine ⟨rfl,rfl⟩|fail)
   all_goals first|(simp [*,j5,hW];done)|(simp_all [j5,hW];done)|(simp_all [j5,hW,y4,x6,o6,F3];done)|(simp_all [j5,hW,y4,x6,o6,F3]<;>omega)
  .refine gr ?_
   exact ⟨_,_,rfl,by unfold wu;rw [h1,h2,h3,hW];rfl,rfl⟩
  .cases h4
 |true =>
 cases hD:p9 x.depth 1 8 with
 |false =>
  refine tB (W) ?_ (λh4=>?_) (λh4=>?_)
  .repeat' (first|refine cl (kM _ _ _) ?_|refine gx ?_|refine fq (λhw=>?_) λhw=>?_|refine ⟨rfl,rfl,_,rfl,?_⟩|refine ⟨rfl,rfl⟩|fail)
   all_goals first|(simp [*,j5,hW,hD];done)|(simp_all [j5,hW,hD];done)|(simp_all [j5,hW,hD,y4,x6,o6,F3];done)|(simp_all [j5,hW,hD,y4,x6,o6,F3]<;>omega)
  .refine gr ?_
   exact ⟨_,_,rfl,by unfold wu;rw [h1,h2,h3,hW,hD];rfl,rfl⟩
  .cases h4
 |true =>
 have hm: -9223372036854775808<=x.width * x.depth/\x.width * x.depth<9223372036854775808:=by
  simp [p9,x6] at hW hD;have m1:=Int.mul_le_mul hW.2 hD.2 V V;have m2:=Int.mul_nonneg (a:=x.width) (b:=x.depth) V V;omega
 refine tB (!p9 x.width 1 1024|| !p9 x.depth 1 8||(x4 x.kind 2&& !x4 x.depth 1)||D5 1024 (x.width * x.depth)) ?_ (λh4=>?_) (λh4=>?_)
 .repeat' (first|refine cl (kM _ _ _) ?_|refine mu (h0:=hm) ?_|refine gx ?_|refine fq (λhw=>?_) λhw=>?_|refine ⟨rfl,rfl,_,rfl,?_⟩|refine ⟨rfl,rfl⟩|fail)
  all_goals first|(simp [*,j5,hW,hD];done)|(simp_all [j5,hW,hD];done)|(simp_all [j5,hW,hD,y4,x6,o6,F3];done)|(simp_all [j5,hW,hD,y4,x6,o6,F3]<;>omega)
 .refine gr ?_
  exact ⟨_,_,rfl,by unfold wu;rw [h1,h2,h3,h4];rfl,rfl⟩
 .refine gr ?_
  exact ⟨_,_,rfl,by unfold wu;rw [h1,h2,h3,h4];rfl,rfl⟩
set_option maxHeartbeats 4000000 in
def WD (t:cw)(xs:List Int)(hx:O xs<=1000)(hc:O t.o7<=1000):Pf A 251 [M6 t,.d (ints xs)] (.d (.bool (R1 t (-1) xs))):=by
 refine Pf.gr 8 ?_;refine Ex.L9 (λk T H=>∃(i:Nat) (p:Int),T=[.any,.any,.ptr 0 0,.any,.d (Z p),.any,.any,.d (ints xs),.d (Z (O xs)),.d (Z i)]/\H=[.cells (t.enc.map .d)]/\i+k=O xs/\ -1<=p/\R1 t (-1) xs=R1 t p (xs.drop i)) ?_ (k:=O xs) ⟨0, -1,rfl,rfl,U,V,U⟩;rintro k _ _ ⟨i,p,rfl,rfl,hk,hp,hi⟩;refine Ex.seq ?_;refine tb (D5 i (O xs)) (λh1=>?_) (λh1=>?_)
 .have h2:=A7 h1
  rw [C4 V] at hi;refine gr ?_;refine tb (T5 (Y xs i) p||T5 (O t.o7) (Y xs i)) (λh3=>?_) (λh3=>?_)
  .refine gr ?_
   have h4:(D5 p (Y xs i)&&D5 (Y xs i) (O t.o7))=F:=by simp [x6,y4] at h3 ⊢;omega
   exact ⟨_,rfl,by rw [hi,R1,h4];rfl⟩
  have h4:D5 p (Y xs i)=W/\D5 (Y xs i) (O t.o7)=W:=by simp [x6,y4] at h3 ⊢;omega
  have h5:=A7 h4.1;refine gr ?_;refine tb (K3 (Y t.o7 (Y xs i).toNat).space []&&K3 (Y t.o7 (Y xs i).toNat).refs []) (λh7=>?_) (λh7=>?_)
  .refine gr ?_
   exact ⟨_,rfl,by rw [hi,R1,h4.1,h4.2,h7];rfl⟩
  .refine gr ?_
   exact kk ⟨_,_,rfl,i+1,Y xs i,rfl,rfl,V,V,by rw [hi,R1,h4.1,h4.2,h7];rfl⟩
 .refine gr ?_
  have h2:=B8 h1;rw [n5 V] at hi;exact ⟨_,rfl,by rw [hi];rfl⟩
def Kj (x:P4):c7:= .agg (x.enc.map .d)
def jr (t:cw)(x:P4):Bool :=
 if !x4 x.bU 0&&(!x4 x.bU 1|| !D5 0 (O x.C6)) then F
 else if !p9 x.fZ 0 1048576 then F
 else if !x4 x.fZ 0&& !D5 0 (O x.C6) then F
 else x4 t.Z7 0||T5 x.fZ t.Z7
set_option maxHeartbeats 4000000 in
def WE (t:cw)(x:P4):Pf A 252 [M6 t,Kj x] (.d (.bool (jr t x))):=by
 refine Pf.gr 4 ?_;refine tb (!x4 x.bU 0&&(!x4 x.bU 1|| !D5 0 (O x.C6))) (λh1=>?_) (λh1=>?_)
 .refine gr ?_
  exact ⟨_,rfl,by unfold jr;rw [h1];rfl⟩
 refine tc (!p9 x.fZ 0 1048576) kM (λh2=>?_) (λh2=>?_)
 .refine gr ?_
  exact ⟨_,rfl,by unfold jr;rw [h1,h2];rfl⟩
 refine tb (!x4 x.fZ 0&& !D5 0 (O x.C6)) (λh3=>?_) (λh3=>?_)
 .refine gr ?_
  exact ⟨_,rfl,by unfold jr;rw [h1,h2,h3];rfl⟩
 repeat' (first|refine gy ?_|refine fq (λhw=>?_) λhw=>?_|refine ⟨_,rfl,?_⟩|fail)
 all_goals unfold jr
 all_goals rw [h1,h2,h3]
 all_goals simp [*,j5]
def l7:F9:=⟨0,8,8,8⟩
def Xi (a0 ax a1 a2 a3 a4 a5:s6)(x y:P4):Pm A 249 [Kj y,.ptr 7 0] [a0,ax,a1,a2,a3,a4,a5,.cells (x.enc.map .d)] l7 (.d (.bool (K3 y.name x.name))) [a0,ax,a1,a2,a3,a4,a5,.cells (x.enc.map .d)]:=by
 suffices h:Pq A 249 [Kj y,.ptr 7 0] [a0,ax,a1,a2,a3,a4,a5,.cells (x.enc.map .d)] l7 λv H1=>v= .d (.bool (K3 y.name x.name))/\H1=[a0,ax,a1,a2,a3,a4,a5,.cells (x.enc.map .d)] by
  obtain ⟨v,H1,⟨rfl,rfl⟩,h⟩:=h;exact h
 refine Pq.go 2 ?_;refine gr ?_;exact ⟨_,_,rfl,rfl,rfl⟩
def KA (x:P4):List P4->Nat->Int
 |[],_=> -1
 |y::r,i=>if K3 y.name x.name then i else KA x r (i+1)
theorem Gx (x:P4):∀(l:List P4) (i:Nat),T5 0 (KA x l i)=l.any λy=>K3 y.name x.name
 |[],i=>by simp [KA,x6]
 |y::r,i=>by
  have h1:=Gx x r (i+1)
  grind [KA,K3,x6]
set_option maxHeartbeats 2000000 in
def Xo (a0 ax a1 a2 a3 a4 a5:s6)(x:P4)(ys:List P4)(hy:O ys<=1000):Pm A 277 [.d (s7 P4.enc ys),.func 249 [] [.ptr 7 0]] [a0,ax,a1,a2,a3,a4,a5,.cells (x.enc.map .d)] l7 (.d (Z (KA x ys 0))) [a0,ax,a1,a2,a3,a4,a5,.cells (x.enc.map .d)]:=by
 suffices h:Pq A 277 [.d (s7 P4.enc ys),.func 249 [] [.ptr 7 0]] [a0,ax,a1,a2,a3,a4,a5,.cells (x.enc.map .d)] l7 λv H1=>v= .d (Z (KA x ys 0))/\H1=[a0,ax,a1,a2,a3,a4,a5,.cells (x.enc.map .d)] by
  obtain ⟨v,H1,⟨rfl,rfl⟩,h⟩:=h;exact h
 refine Pq.go 4 ?_;refine gr ?_;refine Ex.J4 (λk T H=>∃(i:Nat),T=[.d (s7 P4.enc ys),.func 249 [] [.ptr 7 0],.any,.any,.d (Z (O ys)),.d (Z i)]/\H=[a0,ax,a1,a2,a3,a4,a5,.cells (x.enc.map .d)]/\i+k=O ys/\KA x ys 0=KA x (ys.drop i) i) ?_ (k:=O ys) ⟨0,rfl,rfl,U,U⟩;rintro k _ _ ⟨i,rfl,rfl,hk,hi⟩;refine Ex.seq ?_;refine tb (D5 i (O ys)) (λh1=>?_) (λh1=>?_)
 .have h2:=A7 h1
  rw [C4 V] at hi;have p1:=Xi a0 ax a1 a2 a3 a4 a5 x (Y ys i);refine gr ?_;refine tB (K3 (Y ys i).name x.name) ?_ (λh3=>?_) (λh3=>?_)
  .repeat' (first|refine cv1 p1 rfl ?_|refine gx ?_|refine fq (λhw=>?_) λhw=>?_|refine ⟨rfl,rfl,_,rfl,?_⟩|rfl|fail)
  .refine gr ?_
   exact ⟨_,_,rfl,by rw [hi,KA,h3];rfl,rfl⟩
  .refine gr ?_
   exact kk ⟨i+1,rfl,rfl,V,by simp_all [KA]⟩
 .have h2:=B8 h1
  rw [n5 V] at hi;refine gr ?_;exact ⟨_,_,rfl,by rw [hi];rfl,rfl⟩
def Xh (a0 ax a1 a2 a3 a4 a5:s6)(x:P4)(ys:List P4)(hy:O ys<=1000):Pm A 248 [.d (s7 P4.enc ys),.func 249 [] [.ptr 7 0]] [a0,ax,a1,a2,a3,a4,a5,.cells (x.enc.map .d)] l7 (.d (.bool (ys.any λy=>K3 y.name x.name))) [a0,ax,a1,a2,a3,a4,a5,.cells (x.enc.map .d)]:=by
 have p1:=Xo a0 ax a1 a2 a3 a4 a5 x ys hy;rw [<- Gx x ys 0]
 suffices h:Pq A 248 [.d (s7 P4.enc ys),.func 249 [] [.ptr 7 0]] [a0,ax,a1,a2,a3,a4,a5,.cells (x.enc.map .d)] l7 λv H1=>v= .d (.bool (T5 0 (KA x ys 0)))/\H1=[a0,ax,a1,a2,a3,a4,a5,.cells (x.enc.map .d)] by
  obtain ⟨v,H1,⟨rfl,rfl⟩,h⟩:=h;exact h
 refine Pq.go 1 ?_
 repeat' (first|refine c1 p1 rfl ?_|refine gx ?_|fail)
 exact ⟨_,_,rfl,rfl,rfl⟩
def Wr (x:P4):Pf A 214 [Kj x] (.d (.str x.name)):=by
 refine Pf.gr 2 ?_;exact ⟨_,rfl,rfl⟩
def Wt (x:P4):Pf A 216 [Kj x] (.d (Z x.type)):=by
 refine Pf.gr 2 ?_;exact ⟨_,rfl,rfl⟩
set_option maxHeartbeats 2000000 in
def Wq (xs:List P4)(hx:O xs<=1000):Pf A 213 [.d (s7 P4.enc xs),.func 214 [] []] (.d (s7 encS (xs.map P4.name))):=by
 refine Pf.gr 6 ?_;refine Ex.L9 (λk T H=>∃(i:Nat) (acc:List G4),T=[.any,.func 214 [] [],.any,A8 1 encS acc,.any,.d (s7 P4.enc xs),.d (Z (O xs)),.d (Z i)]/\H=[]/\i+k=O xs/\acc=(xs.take i).map P4.name) ?_ (k:=O xs) ⟨0,[],rfl,rfl,U,U⟩;rintro k _ _ ⟨i,acc,rfl,rfl,hk,hacc⟩;have hl:O acc=i:=by rw [hacc];simp;omega
 refine Ex.seq ?_;refine tl i (O xs) (λh2=>?_) (λh2=>?_)
 .have p1:=Wr (Y xs i)
  repeat' (first|refine cv p1 ?_|refine gx ?_|fail)
  exact kk ⟨_,_,rfl,i+1,acc++[(Y xs i).name],rfl,rfl,V,by rw [E4 V,hacc];simp⟩
 .rw [s4 V] at hacc
  refine gr ?_;exact ⟨_,rfl,by rw [<- hacc];rfl⟩
set_option maxHeartbeats 2000000 in
def Ws (xs:List P4)(hx:O xs<=1000):Pf A 215 [.d (s7 P4.enc xs),.func 216 [] []] (.d (ints (xs.map P4.type))):=by
 refine Pf.gr 6 ?_;refine Ex.L9 (λk T H=>∃(i:Nat) (acc:List Int),T=[.any,.func 216 [] [],.any,A8 1 (λn=>[Z n]) acc,.any,.d (s7 P4.enc xs),.d (Z (O xs)),.d (Z i)]/\H=[]/\i+k=O xs/\acc=(xs.take i).map P4.type) ?_ (k:=O xs) ⟨0,[],rfl,rfl,U,U⟩;rintro k _ _ ⟨i,acc,rfl,rfl,hk,hacc⟩;have hl:O acc=i:=by rw [hacc];simp;omega
 refine Ex.seq ?_;refine tl i (O xs) (λh2=>?_) (λh2=>?_)
 .have p1:=Wt (Y xs i)
  repeat' (first|refine cv p1 ?_|refine gx ?_|fail)
  exact kk ⟨_,_,rfl,i+1,acc++[(Y xs i).type],rfl,rfl,V,by rw [E4 V,hacc];simp⟩
 .rw [s4 V] at hacc
  refine gr ?_;exact ⟨_,rfl,by rw [<- hacc];rfl⟩
def mj (c:o9)(ss:List cU)(t:cw)(i:Nat):Int :=
 if !J3 (Y t.o7 i).name||(!K3 (Y t.o7 i).space []&& !J3 (Y t.o7 i).space) then 3
 else if (t.o7.take i).any λy=>K3 y.name (Y t.o7 i).name then 4
 else if !K3 (Y t.o7 i).refs []&&D5 (F7 (Y t.o7 i).refs (ss.map (·.1)) 0) 0 then 7
 else if !(x4 (Y t.o7 i).type 1||x4 (Y t.o7 i).type 2)||(T5 0 (F7 (Y t.o7 i).refs (ss.map (·.1)) 0)&& !x4 (Y t.o7 i).type (Y (Y ss (F7 (Y t.o7 i).refs (ss.map (·.1)) 0).toNat).2.2 0)) then 5
 else if (!K3 (Y t.o7 i).space []&& !K3 (Y t.o7 i).refs [])|| !R1 t (-1) (Y t.o7 i).C6|| !jr t (Y t.o7 i) then 1
 else if x4 i 0&&D5 0 (O (Y t.o7 i).C6)&& !x4 t.erase 1 then 1
 else if T5 0 (F7 (Y t.o7 i).refs (ss.map (·.1)) 0)&&D5 0 (O (Y (Y c.j7 (F7 (Y t.o7 i).refs (ss.map (·.1)) 0).toNat).o7 0).C6)&& !((Y t.o7 i).C6.any λy=>x4 y i) then 1
 else 0
set_option maxHeartbeats 8000000 in
def Xe [Inhabited XO] (c:o9)(ds:List G4)(ss:List cU)(t:cw)(i:Nat)(hi:i<O t.o7)(hc:O t.o7<=1000)(ho:O (Y t.o7 i).C6<=1000)(hss:O ss<=O c.j7)(ht:∀k,k<O ss->0<O (Y ss k).2.2/\0<O (Y c.j7 k).o7) :
  Pm A 211 [.ptr 5 0,M6 t,.d (Z i)] (HH c ds ss) lR (.d (Z (mj c ss t i))) (HH c ds ss):=by
 have SX:=Fw c ds ss (Y t.o7 i).refs;have b1:=vq ss (Y t.o7 i).refs;have b2:(F7 (Y t.o7 i).refs (ss.map (·.1)) 0)= -1\/(0<=(F7 (Y t.o7 i).refs (ss.map (·.1)) 0)/\(F7 (Y t.o7 i).refs (ss.map (·.1)) 0)<O ss/\0<O (Y ss (F7 (Y t.o7 i).refs (ss.map (·.1)) 0).toNat).2.2/\0<O (Y c.j7 (F7 (Y t.o7 i).refs (ss.map (·.1)) 0).toNat).o7):=by
  rcases b1 with h|h
  .exact Or.inl h
  .have:=ht (F7 (Y t.o7 i).refs (ss.map (·.1)) 0).toNat V
   exact Or.inr ⟨h.1,h.2,this.1,this.2⟩
 have au5:=WD t (Y t.o7 i).C6 ho hc;have au6:=WE t (Y t.o7 i);have q49:=ap9 (Y t.o7 i).C6 i V
 suffices h:Pq A 211 [.ptr 5 0,M6 t,.d (Z i)] (HH c ds ss) lR λv H1=>v= .d (Z (mj c ss t i))/\H1=HH c ds ss by
  obtain ⟨v,H1,⟨rfl,rfl⟩,h⟩:=h;exact h
 unfold HH at *
 have au4:=Xh xa xo (.cells (c.enc.map .d)) (.map (dmap ds)) (.map (cH (ss.map (·.1)) 0)) (.cells (c.enc.map .d++[.map 3,.map 4,A8 2 U4 ss])) (.cells (t.enc.map .d)) (Y t.o7 i) (t.o7.take i) D;refine Pq.go 5 ?_;refine gr ?_;refine tc (!J3 (Y t.o7 i).name||(!K3 (Y t.o7 i).space []&& !J3 (Y t.o7 i).space)) LV (λh1=>?_) (λh1=>?_)
 .refine gr ?_
  exact ⟨_,_,rfl,by unfold mj;rw [h1];rfl,rfl⟩
 refine gr ?_;refine tB ((t.o7.take i).any λy=>K3 y.name (Y t.o7 i).name) ?_ (λh2=>?_) (λh2=>?_)
 .repeat' (first|refine c1 au4 rfl ?_|refine gx ?_|refine fq (λhw=>?_) λhw=>?_|refine ⟨rfl,rfl,_,rfl,?_⟩|refine ⟨rfl,rfl⟩|fail)
  all_goals exact cc
 .refine gr ?_
  exact ⟨_,_,rfl,by unfold mj;rw [h1,h2];rfl,rfl⟩
 repeat' (first|refine c1 SX rfl ?_|refine gx ?_|fail)
 refine tb (!K3 (Y t.o7 i).refs []&&D5 (F7 (Y t.o7 i).refs (ss.map (·.1)) 0) 0) (λh3=>?_) (λh3=>?_)
 .refine gr ?_
  exact ⟨_,_,rfl,by unfold mj;rw [h1,h2,h3];rfl,rfl⟩
 refine gr ?_;refine tc (!(x4 (Y t.o7 i).type 1||x4 (Y t.o7 i).type 2)||(T5 0 (F7 (Y t.o7 i).refs (ss.map (·.1)) 0)&& !x4 (Y t.o7 i).type (Y (Y ss (F7 (Y t.o7 i).refs (ss.map (·.1)) 0).toNat).2.2 0))) WC (λh4=>?_) (λh4=>?_)
 .refine gr ?_
  exact ⟨_,_,rfl,by unfold mj;rw [h1,h2,h3,h4];rfl,rfl⟩
 refine gr ?_;refine tc ((!K3 (Y t.o7 i).space []&& !K3 (Y t.o7 i).refs [])|| !R1 t (-1) (Y t.o7 i).C6|| !jr t (Y t.o7 i)) (And.intro au5 au6) (λh5=>?_) (λh5=>?_)
 .refine gr ?_
  exact ⟨_,_,rfl,by unfold mj;rw [h1,h2,h3,h4,h5];rfl,rfl⟩
 refine gr ?_;refine tb (x4 i 0&&D5 0 (O (Y t.o7 i).C6)&& !x4 t.erase 1) (λh6=>?_) (λh6=>?_)
 .refine gr ?_
  exact ⟨_,_,rfl,by unfold mj;rw [h1,h2,h3,h4,h5,h6];rfl,rfl⟩
 refine gr ?_;refine tc (T5 0 (F7 (Y t.o7 i).refs (ss.map (·.1)) 0)&&D5 0 (O (Y (Y c.j7 (F7 (Y t.o7 i).refs (ss.map (·.1)) 0).toNat).o7 0).C6)&& !((Y t.o7 i).C6.any λy=>x4 y i)) q49 (λh7=>?_) (λh7=>?_)
 .refine gr ?_
  exact ⟨_,_,rfl,by unfold mj;rw [h1,h2,h3,h4,h5,h6,h7];rfl,rfl⟩
 refine gr ?_;exact ⟨_,_,rfl,by unfold mj;rw [h1,h2,h3,h4,h5,h6,h7];rfl,rfl⟩
def yf (c:o9)(ss:List cU)(t:cw):Nat->Nat->Int
 |0,_=>0
 |k+1,i=>if !x4 (mj c ss t i) 0 then mj c ss t i else yf c ss t k (i+1)
def kX (t:cw):Bool:= !p9 (O t.o7) 1 8||(!x4 t.erase 0&& !x4 t.erase 1)|| !p9 t.Z7 0 1048576
def rC (c:o9)(ss:List cU)(ds:List G4)(t:cw):Int :=
 if !x4 (N4 ds t.name) 0 then N4 ds t.name else if kX t then 1 else yf c ss t (O t.o7) 0
def DM (c:o9)(ss:List cU)(ds:List G4)(t:cw):List cU:=if x4 (rC c ss ds t) 0 then ss++[(t.name,t.o7.map P4.name,t.o7.map P4.type)] else ss
set_option maxHeartbeats 8000000 in
def ar6 [Inhabited XO] (c:o9)(ds:List G4)(ss:List cU)(i:Nat)(hi:i<O c.j7)(hc:O (Y c.j7 i).o7<=1000)(ho:∀j,j<O (Y c.j7 i).o7->O (Y (Y c.j7 i).o7 j).C6<=1000)(hss:O ss<=O c.j7)(aj5:O ss<=1000)(hi2:O c.j7<=1000)
  (ht:∀k,k<O ss->0<O (Y ss k).2.2/\0<O (Y c.j7 k).o7) (hsub:∀s,(ds.any λy=>K3 y s)=F->((ss.map (·.1)).any λy=>K3 y s)=F) :
  Pm A 149 [.ptr 5 0,.d (Z i)] (HH c ds ss) lW (.d (Z (rC c ss ds (Y c.j7 i)))) (HH c (L8 ds (Y c.j7 i).name) (DM c ss ds (Y c.j7 i))):=by
 generalize hx:Y c.j7 i=t at *
 have nJ:=sK c ds ss t.name;have SP:∀j,j<O t.o7->Pm A 211 [.ptr 5 0,M6 t,.d (Z j)] (HH c (L8 ds t.name) ss) lR (.d (Z (mj c ss t j))) (HH c (L8 ds t.name) ss):=λj hj=>Xe c (L8 ds t.name) ss t j hj hc (ho j hj) hss ht
 have at7:=Wq t.o7 hc;have at8:=Ws t.o7 hc;have LO:N4 ds t.name=0->Pm A 212 [.ptr 5 0,.d (.str t.name),Gm (t.o7.map P4.name) (t.o7.map P4.type)] (HH c (L8 ds t.name) ss) lW (.tuple []) (HH c (L8 ds t.name) (ss++[(t.name,t.o7.map P4.name,t.o7.map P4.type)])):=λh=>by
  refine Me c (L8 ds t.name) ss t.name _ _ (hsub _ ?_) aj5;unfold N4 at h;cases h1:(!J3 t.name) with
  |true=>rw [h1] at h;simp at h
  |false =>
   rw [h1] at h;cases h2:ds.any λy=>K3 y t.name with
   |false=>rfl
   |true=>rw [h2] at h;simp at h
 suffices h:Pq A 149 [.ptr 5 0,.d (Z i)] (HH c ds ss) lW λv H1=>v= .d (Z (rC c ss ds t))/\H1=HH c (L8 ds t.name) (DM c ss ds t) by
  obtain ⟨v,H1,⟨rfl,rfl⟩,h⟩:=h;exact h
 have fin:∀e:Int,x4 e 0=F->rC c ss ds t=e->DM c ss ds t=ss:=λe h1 h2=>by unfold DM;rw [h2,h1];rfl
 unfold HH at *
 refine Pq.go 7 ?_;refine gr ?_;rw [hx]
 repeat' (first|refine c0 nJ rfl (h2:=?_)|refine gx ?_|fail)
 refine tb (!x4 (N4 ds t.name) 0) (λh1=>?_) (λh1=>?_)
 .have e1:rC c ss ds t=N4 ds t.name:=by unfold rC;rw [h1];rfl
  refine gr ?_;exact ⟨_,_,rfl,by rw [e1];rfl,by rw [fin _ (by simpa using h1) e1];rfl⟩
 refine gr ?_;refine tB (kX t) ?_ (λh2=>?_) (λh2=>?_)
 .repeat' (first|refine cl (kM _ _ _) ?_|refine gx ?_|refine fq (λhw=>?_) λhw=>?_|refine ⟨rfl,rfl,_,rfl,?_⟩|refine ⟨rfl,rfl⟩|fail)
  all_goals first|(simp [*,j5,kX];done)|(simp_all [j5,kX];done)|(simp_all [j5,kX,y4,x6,o6,F3];done)|(simp_all [j5,kX,y4,x6,o6,F3]<;>omega)
 .have e1:rC c ss ds t=1:=by unfold rC;rw [h1,h2];rfl
  refine gr ?_;exact ⟨_,_,rfl,by rw [e1];rfl,by rw [fin 1 (by simp [o6]) e1];rfl⟩
 refine gr ?_;refine Ex.bW (λk T H=>∃(j:Nat) (w1 w2 w4 w5 w6:c7),T=[.ptr 5 0,w1,w2,.ptr 6 0,w4,w5,w6,.d (Z (O t.o7)),.d (Z j)]/\H=[xa,xo,.cells (c.enc.map .d),.map (dmap (L8 ds t.name)),.map (cH (ss.map (·.1)) 0),.cells (c.enc.map .d++[.map 3,.map 4,A8 2 U4 ss]),.cells (t.enc.map .d)]/\j+k=O t.o7/\rC c ss ds t=yf c ss t k j) ?_ (k:=O t.o7) ⟨0,_,_,_,_,_,rfl,rfl,U,by unfold rC;rw [h1,h2];rfl⟩;rintro k _ _ ⟨j,w1,w2,w4,w5,w6,rfl,rfl,hk,hj⟩;refine Ex.nT ?_;refine Ex.seq ?_;refine tl j (O t.o7) (λh4=>?_) (λh4=>?_)
 .obtain ⟨k,rfl⟩:∃k',k=k' +1:=⟨k - 1,V⟩
  have at6:=SP j V;rw [yf] at hj
  repeat' (first|refine c1 at6 rfl ?_|refine gx ?_|fail)
  refine tb (!x4 (mj c ss t j) 0) (λh5=>?_) (λh5=>?_)
  .rw [h5,if_pos rfl] at hj
   refine gr ?_;exact ⟨_,_,rfl,by rw [hj];rfl,by rw [fin _ (by simpa using h5) hj];rfl⟩
  .rw [h5,if_neg U] at hj
   refine gr ?_;exact ⟨k,V,j+1,_,_,_,_,_,rfl,rfl,V,hj⟩
 .obtain rfl:k=0:=V
  have Tn:=LO (W6 (by simpa using h1));have e1:rC c ss ds t=0:=hj;have e2:DM c ss ds t=ss++[(t.name,t.o7.map P4.name,t.o7.map P4.type)]:=by unfold DM;rw [e1];simp [o6]
  rw [e2]
  repeat' (first|refine cl (at7) ?_|refine cl (at8) ?_|refine c0 Tn rfl (h2:=?_)|refine gx ?_|fail)
  exact ⟨_,_,rfl,by rw [e1];rfl,rfl⟩
def Um (c:o9)(ss:List cU)(x:jD):Vw:=Y c.views (F7 x.source (ss.map (·.1)) 0 - O c.j7).toNat
def Dz (c:o9)(ss:List cU)(ds:List G4)(x:jD):Int:=if !x4 (N4 ds x.name) 0 then N4 ds x.name else if D5 (F7 x.source (ss.map (·.1)) 0 - O c.j7) 0 then 7
 else if !x4 (Um c ss x).kind 1|| !x4 (Y (Um c ss x).F6 0).func 0|| !p9 x.TG 1 1024 then 1 else 0
def PU (c:o9)(ss:List cU):List G4->List G4->Int
 |_,[]=>0
 |seen,t::r=>if !jj c ss t then 7 else if seen.any λy=>K3 y t then 4 else PU c ss (seen++[t]) r
def PW (c:o9)(ss:List cU)(ds:List G4)(x:mc):Int:=if !x4 (N4 ds x.name) 0 then N4 ds x.name else if x4 (O x.tables) 0|| !p9 x.keep 1 1048576 then 1 else PU c ss [] x.tables
set_option maxHeartbeats 4000000 in
def as1 [Inhabited XO] (c:o9)(ds:List G4)(ss:List cU)(i:Nat)(hi:i<O c.J5)(hc:O c.j7<=1000)(hss:O ss<=O c.j7+O c.views)(Yj:O c.views<=1000)(hg:∀k,k<O c.views->(Y c.views k).kind≠1\/0<O (Y c.views k).F6):Pm A 154 [.ptr 5 0,.d (Z i)] (HH c ds ss) lW (.d (Z (Dz c ss ds (Y c.J5 i)))) (HH c (L8 ds (Y c.J5 i).name) ss):=by
 have nJ:=sK c ds ss (Y c.J5 i).name;have SX:=Fw c (L8 ds (Y c.J5 i).name) ss (Y c.J5 i).source;have b1:=vq ss (Y c.J5 i).source
 suffices h:Pq A 154 [.ptr 5 0,.d (Z i)] (HH c ds ss) lW λv H1=>v= .d (Z (Dz c ss ds (Y c.J5 i)))/\H1=HH c (L8 ds (Y c.J5 i).name) ss by
  obtain ⟨v,H1,⟨rfl,rfl⟩,h⟩:=h;exact h
 generalize hx:Y c.J5 i=x at *
 unfold HH at *
 refine Pq.go 5 ?_;refine gr ?_;rw [hx]
 repeat' (first|refine c0 nJ rfl (h2:=?_)|refine gx ?_|fail)
 refine tb (!x4 (N4 ds x.name) 0) (λh1=>?_) (λh1=>?_)
 .refine gr ?_
  exact ⟨_,_,rfl,by unfold Dz;rw [h1];rfl,rfl⟩
 repeat' (first|refine c1 SX rfl ?_|refine gx ?_|fail)
 refine tb (D5 (F7 x.source (ss.map (·.1)) 0 - O c.j7) 0) (λh2=>?_) (λh2=>?_)
 .refine gr ?_
  exact ⟨_,_,rfl,by unfold Dz;rw [h1,h2];rfl,rfl⟩
 have h3:=B8 h2;have h4:=hg (F7 x.source (ss.map (·.1)) 0 - O c.j7).toNat V;have hrv:Y c.views (F7 x.source (ss.map (·.1)) 0 - O c.j7).toNat=Um c ss x:=rfl;refine gr ?_;rw [hrv] at h4 ⊢;refine gr ?_;refine tc (!x4 (Um c ss x).kind 1|| !x4 (Y (Um c ss x).F6 0).func 0|| !p9 x.TG 1 1024) kM (λh5=>?_) (λh5=>?_)
 .refine gr ?_
  exact ⟨_,_,rfl,by unfold Dz;rw [h1,h2,h5];rfl,rfl⟩
 .refine gr ?_
  exact ⟨_,_,rfl,by unfold Dz;rw [h1,h2,h5];rfl,rfl⟩
set_option maxHeartbeats 4000000 in
def as3 [Inhabited XO] (c:o9)(ds:List G4)(ss:List cU)(i:Nat)(hi:i<O c.L4)(hc:O c.j7<=1000)(hx1:O (Y c.L4 i).tables<=1000):Pm A 156 [.ptr 5 0,.d (Z i)] (HH c ds ss) lW (.d (Z (PW c ss ds (Y c.L4 i)))) (HH c (L8 ds (Y c.L4 i).name) ss):=by
 have nJ:=sK c ds ss (Y c.L4 i).name;have IT:∀s,Pm A 223 [.ptr 5 0,.d (.str s)] (HH c (L8 ds (Y c.L4 i).name) ss) lR (.d (.bool (jj c ss s))) (HH c (L8 ds (Y c.L4 i).name) ss):=λs=>QT c (L8 ds (Y c.L4 i).name) ss s hc
 suffices h:Pq A 156 [.ptr 5 0,.d (Z i)] (HH c ds ss) lW λv H1=>v= .d (Z (PW c ss ds (Y c.L4 i)))/\H1=HH c (L8 ds (Y c.L4 i).name) ss by
  obtain ⟨v,H1,⟨rfl,rfl⟩,h⟩:=h;exact h
 generalize hx:Y c.L4 i=x at *
 unfold HH at *
 refine Pq.go 8 ?_;refine gr ?_;rw [hx]
 repeat' (first|refine c0 nJ rfl (h2:=?_)|refine gx ?_|fail)
 refine tb (!x4 (N4 ds x.name) 0) (λh1=>?_) (λh1=>?_)
 .refine gr ?_
  exact ⟨_,_,rfl,by unfold PW;rw [h1];rfl,rfl⟩
 refine gr ?_;refine tc (x4 (O x.tables) 0|| !p9 x.keep 1 1048576) kM (λh2=>?_) (λh2=>?_)
 .refine gr ?_
  exact ⟨_,_,rfl,by unfold PW;rw [h1,h2];rfl,rfl⟩
 refine gr ?_;refine Ex.J4 (λk T H=>∃(j:Nat),T=[.ptr 5 0,.any,.any,.ptr 6 0,.any,.any,.any,.d (s7 (λs=>[.str s]) x.tables),.d (Z (O x.tables)),.d (Z j)]/\H=[xa,xo,.cells (c.enc.map .d),.map (dmap (L8 ds x.name)),.map (cH (ss.map (·.1)) 0),.cells (c.enc.map .d++[.map 3,.map 4,A8 2 U4 ss]),.cells (x.enc.map .d)]/\j+k=O x.tables/\PW c ss ds x=PU c ss (x.tables.take j) (x.tables.drop j)) ?_ (k:=O x.tables) ⟨0,rfl,rfl,U,by simp [PW,h1,h2]⟩;rintro k _ _ ⟨j,rfl,rfl,hk,hj⟩;refine Ex.seq ?_;refine tl j (O x.tables) (λh4=>?_) (λh4=>?_)
 .rw [C4 V] at hj
  have au2:=IT (Y x.tables j);have au3:=QJ (x.tables.take j) (Y x.tables j) D;refine gr ?_;refine tB (!jj c ss (Y x.tables j)) ?_ (λh5=>?_) (λh5=>?_)
  .repeat' (first|refine c1 au2 rfl ?_|refine gx ?_|refine fq (λhw=>?_) λhw=>?_|refine ⟨rfl,rfl,_,rfl,?_⟩|refine ⟨rfl,rfl⟩|fail)
   all_goals exact cc
  .refine gr ?_
   exact ⟨_,_,rfl,by rw [hj];unfold PU;rw [h5];rfl,rfl⟩
  refine gr ?_;refine tc ((x.tables.take j).any λy=>K3 y (Y x.tables j)) au3 (λh6=>?_) (λh6=>?_)
  .refine gr ?_
   exact ⟨_,_,rfl,by rw [hj];unfold PU;rw [h5,h6];rfl,rfl⟩
  .refine gr ?_
   refine kk ⟨j+1,rfl,rfl,V,?_⟩;rw [hj,E4 V];simp only [PU,h5,h6,j6,if_false]
 .rw [n5 V] at hj
  refine gr ?_;exact ⟨_,_,rfl,by rw [hj];rfl,rfl⟩
end Go.Proofs.YtibjocmpkoepoaaGreat


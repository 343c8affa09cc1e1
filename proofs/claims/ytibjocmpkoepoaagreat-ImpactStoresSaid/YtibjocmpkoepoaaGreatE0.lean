import Derived.Test.YtibjocmpkoepoaaGreatD7
import Derived.Test.YtibjocmpkoepoaaGreatD5
set_option linter.all false
open Bool renaming eq_false_or_eq_true→B6,false_eq_true→j6,not_eq_false'→B7,not_eq_true'→o9,or_eq_false_iff→B2,true→W,false→F
open List renaming cons_append→x4,drop_of_length_le→n5,length_append→j9,nil_append→y5,take_of_length_le→s9,length→O
open Nat renaming le_of_ble_eq_true→j5,lt_or_ge→y8
open Option renaming some→J,none→K
namespace Go.Proofs.YtibjocmpkoepoaaGreat
open Go.z6 Go.z6.S
attribute [local irreducible] Rx Ry Rn Ex Pf
def vw' (v:Vw):c7:= .agg (v.enc.map .d)
def iE (v:Vw):Bool :=
 if s7 v.kind 2 then !K7 v.right []&&s7 (O v.on) 0&&s7 (O v.wh) 0&&s7 (O v.items) 0&&s7 (O v.E3) 0&& !v.distinct
 else if (D0 0 (O v.on)&&K7 v.right [])||D0 8 (O v.on) then F
 else if s7 v.kind 0&&(s7 (O v.items) 0||D0 0 (O v.E3)) then F
 else if s7 v.kind 1&&(s7 (O v.E3) 0||v.distinct) then F
 else U4 (O v.items+O v.E3) 8
set_option maxHeartbeats 8000000 in
def Ye (v:Vw)(h0:O v.items<=1000)(h1:O v.E3<=1000):Pf A 217 [vw' v] (.d (.bool (iE v))):=by
 refine Pf.gr 2 ?_;refine tb (s7 v.kind 2) (λg1=>?_) (λg1=>?_)
 .repeat' (first|refine gy ?_|refine fq (λhw=>?_) λhw=>?_|refine ⟨_,rfl,?_⟩|fail)
  all_goals unfold iE
  all_goals rw [g1]
  all_goals simp [*,j4]
 refine gr ?_;refine tb ((D0 0 (O v.on)&&K7 v.right [])||D0 8 (O v.on)) (λg2=>?_) (λg2=>?_)
 .refine gr ?_
  exact ⟨_,rfl,by unfold iE;rw [g1,g2];rfl⟩
 refine gr ?_;refine tb (s7 v.kind 0&&(s7 (O v.items) 0||D0 0 (O v.E3))) (λg3=>?_) (λg3=>?_)
 .refine gr ?_
  exact ⟨_,rfl,by unfold iE;rw [g1,g2,g3];rfl⟩
 refine gr ?_;refine tb (s7 v.kind 1&&(s7 (O v.E3) 0||v.distinct)) (λg4=>?_) (λg4=>?_)
 .refine gr ?_
  exact ⟨_,rfl,by unfold iE;rw [g1,g2,g3,g4];rfl⟩
 refine gr ?_;exact ⟨_,rfl,by unfold iE;rw [g1,g2,g3,g4];rfl⟩
def nS {A:Go.z6.Prog}{l:G9}{b:Nat}{dr:Bool}{j8 ops:List x9}{T:List c7}{H:k8}{n:Nat}{rl:List c7}{l6:List z6.Touch}{Q:List c7->k8->List c7->Prop}{α:Type}{enc:α->List z6.Data}{xs:List α}{neg:Bool}{x:A4}{u:List Nat}
  (h0:0<O xs) (h2:Ry A l b dr j8 ops T H (n+1) (.d (.bool neg)::rl) l6 Q) (hx:rq T n rl x= .d (x3 enc xs):=by rfl):Ry A l b dr j8 (⟨.yO neg x,K,K,u⟩::ops) T H n rl l6 Q :=
 Ry.pure (rs:=[]) rfl (by simp [l5,hx,x3,h0]) h2
def Yg (xs:List I4)(h0:0<O xs)(h1:O xs<=100000):Pf A 219 [.d (x3 (λs=>[.str s]) xs)] (A8 1 (λs=>[.str s]) xs):=by
 refine Pf.gr 1 ?_;refine tB (F) ?_ (λh2=>?_) (λh2=>?_)
 .repeat' (first|refine nS h0 ?_|refine gx ?_|refine fq (λhw=>?_) λhw=>?_|refine ⟨rfl,rfl,_,rfl,?_⟩|refine ⟨rfl,rfl⟩|fail)
  all_goals exact cc
 .cases h2
 refine gr ?_;exact ⟨_,rfl,rfl⟩
def Yh (xs:List Int)(h0:0<O xs)(h1:O xs<=100000):Pf A 220 [.d (ints xs)] (A8 1 (λn=>[Z n]) xs):=by
 refine Pf.gr 1 ?_;refine tB (F) ?_ (λh2=>?_) (λh2=>?_)
 .repeat' (first|refine nS h0 ?_|refine gx ?_|refine fq (λhw=>?_) λhw=>?_|refine ⟨rfl,rfl,_,rfl,?_⟩|refine ⟨rfl,rfl⟩|fail)
  all_goals exact cc
 .cases h2
 refine gr ?_;exact ⟨_,rfl,rfl⟩
def YW (n:Nat)(h:n<=1000000)(l:G9):Pm A 279 [.O5,.d (Z n)] [] l (.own 1 0 []) []:=by
 refine ⟨1,λk hk=>?_⟩;obtain ⟨k,rfl⟩:∃j,k=j+1:=⟨k - 1,V⟩;have h1:A.bw 279=J Ab:=rfl;simp only [call,h1,Ab,Z];rw [if_pos V]
def Hx (l:List Int):List z6.Data:=[ints l]
set_option maxHeartbeats 4000000 in
def Yo (xss:List (List Int))(h0:O xss<=100)(h1:∀i,i<O xss->O (Y xss i)<=10000):Pf A 254 [.d (x3 Hx xss)] (.d (ints xss.flatten)):=by
 refine Pf.gr 11 ?_;refine Ex.J1 (λk T H=>∃(i m:Nat),T=[.d (x3 Hx xss),.any,.d (Z m),.any,.any,.any,.d (x3 Hx xss),.d (Z (O xss)),.d (Z i),.any,.any,.any]/\H=[]/\i+k=O xss/\m<=i * 10000) ?_ (k:=O xss) ⟨0,0,rfl,rfl,U,U⟩;rintro k _ _ ⟨i,m,rfl,rfl,hk,hm⟩;refine Ex.seq ?_;refine tb (D0 i (O xss)) (λh2=>?_) (λh2=>?_)
 .have h3:=A5 h2
  have h4:=h1 i V;have h5:m<=1000000:=V
  refine gr ?_;refine tb (F) (λh6=>?_) (λh6=>?_)
  .cases h6
  refine gr ?_;exact kk ⟨i+1,m+O (Y xss i),rfl,rfl,V,V⟩
 have h3:=A9 h2;have h5:m<=1000000:=V
 have p1:=YW m h5;clear h2 hm
 repeat' (first|refine c1 (p1 _) rfl ?_|refine gx ?_|fail)
 refine Ex.J1 (λk T H=>∃(i:Nat) (acc:List Int),T=[.any,.any,.any,.any,A8 1 (λn=>[Z n]) acc,.any,.any,.any,.any,.d (x3 Hx xss),.d (Z (O xss)),.d (Z i)]/\H=[]/\i+k=O xss/\O acc<=i * 10000/\xss.flatten=acc++(xss.drop i).flatten) ?_ (k:=O xss) ⟨0,[],rfl,rfl,U,U,U⟩;rintro k _ _ ⟨i,acc,rfl,rfl,hk,hl,hacc⟩;refine Ex.seq ?_;refine tl i (O xss) (λh6=>?_) (λh6=>?_)
 .have h7:=h1 i V
  rw [C5 V] at hacc;have h8:O acc<=1000000:=V
  refine gr ?_;exact kk ⟨i+1,acc++Y xss i,rfl,rfl,V,D,by rw [hacc];simp⟩
 .rw [n5 V] at hacc
  refine gr ?_;exact ⟨_,rfl,by rw [hacc];simp [j4,ints,x3]⟩
def agr (a:uc):c7:= .agg (a.enc.map .d)
def iN (ty:List Int)(a:uc):Int×Int :=
 if s7 a.func 0 then (if D0 0 (O a.expr) then (0,1) else (1,0))
 else if s7 a.func 1||s7 a.func 2||s7 a.func 3||s7 a.func 4 then (if !s7 (K4 a.expr ty).2 0 then (0,(K4 a.expr ty).2) else if s7 a.func 1&& !s7 (K4 a.expr ty).1 1 then (0,5) else ((K4 a.expr ty).1,0))
 else (0,1)
set_option maxHeartbeats 8000000 in
def Yp (ty:List Int)(a:uc)(h0:O a.expr<=1000)(h1:O ty<=100000):Pf A 259 [agr a,.d (ints ty)] (pair (iN ty a)):=by
 have p1:=Np a.expr ty h0 h1;unfold pair at p1;refine Pf.go 7 ?_
 repeat' (first|refine cl (p1) ?_|refine gy ?_|refine fq (λhw=>?_) λhw=>?_|refine ⟨_,rfl,?_⟩|fail)
 all_goals unfold iN pair
 all_goals first|(simp [*,j4,c7.I7,Z];done)|(simp_all [j4,c7.I7,Z];done)
def l9:G9:=⟨0,0,10,10⟩
def Xq:G9:=⟨0,10,10,10⟩
def yQ (nm:List I4)(ty:List Int):List c7:=[A8 1 encS nm,A8 1 (λn=>[Z n]) ty]
def YQ (a0 ax a1 a2 a3 a4 a5 a7:x6)(ty:List Int)(x:uB)(h0:O x.expr<=1000)(h1:O ty<=100000) :
  Pm A 257 [.ptr 9 0,.ptr 7 0] [a0,ax,a1,a2,a3,a4,a5,.cells [.d (ints ty)],a7,.cells (x.enc.map .d)] Xq (pair (K4 x.expr ty)) [a0,ax,a1,a2,a3,a4,a5,.cells [.d (ints ty)],a7,.cells (x.enc.map .d)]:=by
 have p1:=Np x.expr ty h0 h1;unfold pair at *
 suffices h:Pq A 257 [.ptr 9 0,.ptr 7 0] [a0,ax,a1,a2,a3,a4,a5,.cells [.d (ints ty)],a7,.cells (x.enc.map .d)] Xq λv H1=>v= .tuple [.d (Z (K4 x.expr ty).1),.d (Z (K4 x.expr ty).2)]/\H1=[a0,ax,a1,a2,a3,a4,a5,.cells [.d (ints ty)],a7,.cells (x.enc.map .d)] by
  obtain ⟨v,H1,⟨rfl,rfl⟩,h⟩:=h;exact h
 refine Pq.go 2 ?_;refine gc p1 ?_;exact ⟨_,_,rfl,rfl,rfl⟩
def YR (a0 ax a1 a2 a3 a4 a5 a7:x6)(ty:List Int)(x:uc)(h0:O x.expr<=1000)(h1:O ty<=100000) :
  Pm A 258 [.ptr 9 0,.ptr 7 0] [a0,ax,a1,a2,a3,a4,a5,.cells [.d (ints ty)],a7,.cells (x.enc.map .d)] Xq (pair (iN ty x)) [a0,ax,a1,a2,a3,a4,a5,.cells [.d (ints ty)],a7,.cells (x.enc.map .d)]:=by
 have p1:=Yp ty x h0 h1;unfold pair at *
 suffices h:Pq A 258 [.ptr 9 0,.ptr 7 0] [a0,ax,a1,a2,a3,a4,a5,.cells [.d (ints ty)],a7,.cells (x.enc.map .d)] Xq λv H1=>v= .tuple [.d (Z (iN ty x).1),.d (Z (iN ty x).2)]/\H1=[a0,ax,a1,a2,a3,a4,a5,.cells [.d (ints ty)],a7,.cells (x.enc.map .d)] by
  obtain ⟨v,H1,⟨rfl,rfl⟩,h⟩:=h;exact h
 refine Pq.go 2 ?_;refine gc p1 ?_;exact ⟨_,_,rfl,rfl,rfl⟩
def fF (nm:List I4)(s:I4)(r:Int×Int):Int:=if !K1 s then 3 else if nm.any λy=>K7 y s then 4 else if !s7 r.2 0 then r.2 else 0
def yo (nm:List I4)(s:I4)(r:Int×Int):List I4:=if s7 (fF nm s r) 0 then nm++[s] else nm
def yq (nm:List I4)(ty:List Int)(s:I4)(r:Int×Int):List Int:=if s7 (fF nm s r) 0 then ty++[r.1] else ty
set_option maxHeartbeats 8000000 in
def Sz (f:FuncId)(TC:A.prom f=F)(hf2:A.mode f=1)(a0 ax a1 a2 a3 a4 a5:x6)(ty:List Int)(nm:List I4)(tys:List Int)(cs:List z6.Data)(s:I4)(r:Int×Int)(hn:O nm<=10000)(ht:O tys<=10000)
  (hc:∀a7,Pm A f [.ptr 9 0,.ptr 7 0] [a0,ax,a1,a2,a3,a4,a5,.cells [.d (ints ty)],a7,.cells (cs.map .d)] Xq (pair r) [a0,ax,a1,a2,a3,a4,a5,.cells [.d (ints ty)],a7,.cells (cs.map .d)]) :
  Pm A 256 [.ptr 8 0,.d (.str s),.func f [] [.ptr 9 0,.ptr 7 0]] [a0,ax,a1,a2,a3,a4,a5,.cells [.d (ints ty)],.cells (yQ nm tys),.cells (cs.map .d)] l9 (.d (Z (fF nm s r)))
   [a0,ax,a1,a2,a3,a4,a5,.cells [.d (ints ty)],.cells (yQ (yo nm s r) (yq nm tys s r)),.cells (cs.map .d)]:=by
 have p1:=hc (.cells (yQ nm tys));have p2:=Sm nm s V;unfold pair at p1
 suffices h:Pq A 256 [.ptr 8 0,.d (.str s),.func f [] [.ptr 9 0,.ptr 7 0]] [a0,ax,a1,a2,a3,a4,a5,.cells [.d (ints ty)],.cells (yQ nm tys),.cells (cs.map .d)] l9 λv H1=>v= .d (Z (fF nm s r))/\H1=[a0,ax,a1,a2,a3,a4,a5,.cells [.d (ints ty)],.cells (yQ (yo nm s r) (yq nm tys s r)),.cells (cs.map .d)] by
  obtain ⟨v,H1,⟨rfl,rfl⟩,h⟩:=h;exact h
 have same:∀e,fF nm s r=e->s7 e 0=F->yo nm s r=nm/\yq nm tys s r=tys:=λe h1 h2=>by unfold yo yq;rw [h1,h2];exact ⟨rfl,rfl⟩
 have WV:roomFor (O nm+1) 16=W:=by simp only [roomFor,decide_eq_true_eq];omega
 have Jx:roomFor (O tys+1) 8=W:=by simp only [roomFor,decide_eq_true_eq];omega
 refine Pq.go 3 ?_;refine gr ?_;refine tc (!K1 s) No (λh1=>?_) (λh1=>?_)
 .have e1:fF nm s r=3:=by unfold fF;rw [h1];rfl
  have e2:=same 3 e1 (by simp [o6]);refine gr ?_;exact ⟨_,_,rfl,by rw [e1];rfl,by rw [e2.1,e2.2];rfl⟩
 unfold yQ;refine gr ?_;refine tc (nm.any λy=>K7 y s) p2 (λh2=>?_) (λh2=>?_)
 .have e1:fF nm s r=4:=by unfold fF;rw [h1,h2];rfl
  have e2:=same 4 e1 (by simp [o6]);refine gr ?_;exact ⟨_,_,rfl,by rw [e1];rfl,by rw [e2.1,e2.2];rfl⟩
 unfold yQ at p1
 repeat' (first|refine cv1 (eM:=TC) (hm:=hf2) p1 rfl ?_|refine gx ?_|fail)
 refine tb (!s7 r.2 0) (λh3=>?_) (λh3=>?_)
 .have e1:fF nm s r=r.2:=by unfold fF;rw [h1,h2,h3];rfl
  have e2:=same _ e1 (by simpa using h3);refine gr ?_;exact ⟨_,_,rfl,by rw [e1];rfl,by rw [e2.1,e2.2];rfl⟩
 have e1:fF nm s r=0:=by unfold fF;rw [h1,h2,h3];rfl
 have e2:yo nm s r=nm++[s]:=by unfold yo;rw [e1];simp [o6]
 have e3:yq nm tys s r=tys++[r.1]:=by unfold yq;rw [e1];simp [o6]
 refine gr ?_;refine ac1 (a:=s) (xs:=nm) (enc:=encS) WV rfl (h2:=?_);refine gr ?_;refine ac1 (a:=r.1) (xs:=tys) (enc:=λn=>[Z n]) Jx rfl (h2:=?_)
 repeat' (first|refine Ce (h2:=?_)|refine gx ?_|fail)
 exact ⟨_,_,rfl,by rw [e1];rfl,by rw [e2,e3];rfl⟩
def Ex.SG {A:Go.z6.Prog}{l:G9}{b:Nat}{c:L2}{st:St}{R:H9->St->Prop}{go:St->Prop}(P:St->Prop)(h1:Ex A l b c st (kJ R P))(h2:∀s,P s->go s):Ex A l b c st (kJ R go):=by
 refine h1.mono λx s h=>?_
 cases x with
 |normal=>exact h2 s h
 |exit i=>exact h
 |ret=>exact h
def gu (v:Vw)(L R:List Int):Int :=
 if !s7 (L8 L R v.on) 0 then L8 L R v.on
 else if D0 0 (O v.wh)&& !s7 (K4 v.wh (L++R)).2 0 then (K4 v.wh (L++R)).2
 else if D0 0 (O v.wh)&& !s7 (K4 v.wh (L++R)).1 1 then 5
 else W3 (L++R) [] (aM v)
def Bj (ss:List dB)(v:Vw)(L R:List Int):List dB:=if s7 (gu v L R) 0 then ss++[(v.name,(aM v).map yV.name,X7 v (L++R))] else ss
def vP {ty:List Int}{seen:List I4}{x:uB}{r:List yV}:W3 ty seen (⟨F,x.name, -1,x.expr⟩::r)=if !s7 (fF seen x.name (K4 x.expr ty)) 0 then fF seen x.name (K4 x.expr ty) else W3 ty (seen++[x.name]) r:=by
 have h3:s7 3 0=F:=by simp [o6]
 have h4:s7 4 0=F:=by simp [o6]
 have h0:s7 0 0=W:=by simp [o6]
 simp only [W3,fF,Bool.false_and,j6,if_false]
 rcases B6 (K1 x.name) with c1|c1
 .rcases B6 (seen.any λy=>K7 y x.name) with c2|c2
  .simp only [c1,c2,Bool.not_true,j6,if_false,if_true,h4,Bool.not_false]
  .rcases B6 (s7 (K4 x.expr ty).2 0) with c3|c3
   .simp only [c1,c2,c3,Bool.not_true,j6,if_false,h0]
   .simp only [c1,c2,c3,Bool.not_true,Bool.not_false,j6,if_false,if_true]
 .simp only [c1,Bool.not_false,if_true,h3]
def yE {ty:List Int}{seen:List I4}{x:uc}{r:List yV}:W3 ty seen (⟨W,x.name,x.func,x.expr⟩::r)=if !s7 (fF seen x.name (iN ty x)) 0 then fF seen x.name (iN ty x) else W3 ty (seen++[x.name]) r:=by
 have h1:s7 1 0=F:=by simp [o6]
 have h3:s7 3 0=F:=by simp [o6]
 have h4:s7 4 0=F:=by simp [o6]
 have h6:s7 5 0=F:=by simp [o6]
 have h0:s7 0 0=W:=by simp [o6]
 simp only [W3,fF,Bool.true_and]
 rcases B6 (K1 x.name) with c1|c1
 .rcases B6 (seen.any λy=>K7 y x.name) with c2|c2
  .simp only [c1,c2,Bool.not_true,j6,if_false,if_true,h4,Bool.not_false]
  .simp only [c1,c2,Bool.not_true,j6,if_false,iN]
   rcases B6 (s7 x.func 0) with f0|f0
   .have hw:p9 x.func 0 4=W:=by have:=W9 f0;simp [p9,r7];omega
    rcases B6 (D0 0 (O x.expr)) with c5|c5
    .simp only [f0,hw,c5,Bool.not_true,Bool.and_self,Bool.or_true,if_true,h1,Bool.not_false]
    .simp only [f0,hw,c5,Bool.not_true,Bool.and_false,Bool.or_self,j6,if_false,if_true,h0]
   .rcases B6 (p9 x.func 0 4) with hw|hw
    .have hf:(s7 x.func 1||s7 x.func 2||s7 x.func 3||s7 x.func 4)=W:=by
      have:=iW f0;simp [p9,r7] at hw;simp [o6];omega
     simp only [f0,hw,hf,Bool.not_true,Bool.false_and,Bool.or_self,j6,if_false,if_true]
     rcases B6 (s7 (K4 x.expr ty).2 0) with c5|c5
     .rcases B6 (s7 x.func 1&& !s7 (K4 x.expr ty).1 1) with c6|c6
      .simp only [c5,c6,Bool.not_true,Bool.not_false,j6,if_false,if_true,h6]
      .simp only [c5,c6,Bool.not_true,j6,if_false,h0]
     .simp only [c5,Bool.not_false,if_true]
    .have hf:(s7 x.func 1||s7 x.func 2||s7 x.func 3||s7 x.func 4)=F:=by
      simp [p9,r7] at hw;simp [o6];omega
     simp only [f0,hw,hf,Bool.not_false,Bool.true_or,j6,if_false,if_true,h1]
 .simp only [c1,Bool.not_false,if_true,h3]
def OW {ty:List Int}{x:uc}(h:s7 (iN ty x).2 0=W):(iN ty x).1=sI ty x:=by
 have h1:s7 1 0=F:=by simp [o6]
 have h6:s7 5 0=F:=by simp [o6]
 unfold iN at h ⊢;unfold sI;cases f0:s7 x.func 0 with
 |true =>
  rw [f0] at h;cases h5:D0 0 (O x.expr) with
  |true=>rw [h5] at h;simp [h1] at h
  |false=>simp
 |false =>
  rw [f0] at h;simp only [j6,if_false,Bool.false_or] at h ⊢;cases h2:(s7 x.func 1||s7 x.func 2||s7 x.func 3||s7 x.func 4) with
  |false=>rw [h2] at h;simp [h1] at h
  |true =>
   rw [h2] at h;simp only [if_true] at h ⊢;cases h3:s7 (K4 x.expr ty).2 0 with
   |false=>rw [h3] at h;simp [h3] at h
   |true =>
    rw [h3] at h;simp only [Bool.not_true,j6,if_false] at h ⊢;cases f1:s7 x.func 1 with
    |false=>simp
    |true =>
     rw [f1] at h;cases h4:s7 (K4 x.expr ty).1 1 with
     |false=>rw [h4] at h;simp [h6] at h
     |true=>simpa using W9 h4
set_option maxHeartbeats 32000000 in
def YN [Inhabited XO] (c:p7)(ds:List I4)(ss:List dB)(v:Vw)(L R:List Int)(hL:O L<=5000)(hR:O R<=5000)(h0:O v.on<=1000)(h1:O v.wh<=1000)(h2:O v.items<=1000)(h3:O v.E3<=1000)(h4:∀i,i<O v.items->O (Y v.items i).expr<=1000)(h5:∀i,i<O v.E3->O (Y v.E3 i).expr<=1000)
  (hs:((ss.map (·.1)).any λy=>K7 y v.name)=F) (hss:O ss<=1000):Pm A 221 [.ptr 5 0,vw v,.d (ints L),.d (ints R)] (HH c ds ss) lW (.d (Z (gu v L R))) (HH c ds (Bj ss v L R)):=by
 suffices h:Pq A 221 [.ptr 5 0,vw v,.d (ints L),.d (ints R)] (HH c ds ss) lW λw H1=>w= .d (Z (gu v L R))/\H1=HH c ds (Bj ss v L R) by
  obtain ⟨w,H1,⟨rfl,rfl⟩,h⟩:=h;exact h
 have same:∀e,gu v L R=e->s7 e 0=F->Bj ss v L R=ss:=λe g1 g2=>by unfold Bj;rw [g1,g2];rfl
 have Nd:=Nv c ds ss v.name ((aM v).map yV.name) (X7 v (L++R)) hs hss;have XJ:=Yo [L,R] U (by
  intro i hi
  match i,hi with
  |0,_=>rw [O1];omega
  |1,_=>rw [bp,O1];omega)
 have pW:=Np v.wh (L++R) h1 D;unfold pair at pW;have hfl:[L,R].flatten=L++R:=U
 rw [hfl] at XJ;have hTl:O (L++R)<=100000:=D
 unfold HH at *
 refine Pq.go 20 ?_;refine gr ?_;refine Ex.L4 (λk T H=>∃(i:Nat),T=[.ptr 5 0,.any,.d (ints L),.d (ints R),.ptr 6 0,.any,.any,.any,.any,.any,.any,.any,.any,.any,.any,.d (x3 (λp=>[Z p.1,Z p.2]) v.on),.d (Z (O v.on)),.d (Z i),.any,.any,.any,.any,.any,.any]/\H=[xa,xo,.cells (c.enc.map .d),.map (dmap ds),.map (dc (ss.map (·.1)) 0),.cells (c.enc.map .d++[.map 3,.map 4,A8 2 V4 ss]),.cells (v.enc.map .d)]/\i+k=O v.on/\L8 L R v.on=L8 L R (v.on.drop i)) ?_ (k:=O v.on) ⟨0,rfl,rfl,U,U⟩;rintro k _ _ ⟨i,rfl,rfl,hk,hi⟩;refine Ex.seq ?_;refine tb (D0 i (O v.on)) (λg1=>?_) (λg1=>?_)
 .have g2:=A5 g1
  rw [C5 V] at hi;refine gr ?_;refine tc (!p9 (Y v.on i).1 0 (O L - 1)|| !p9 (Y v.on i).2 0 (O R - 1)) lX (λg3=>?_) (λg3=>?_)
  .have e1:L8 L R v.on=3:=by rw [hi,L8,g3];rfl
   have e2:gu v L R=3:=by unfold gu;rw [e1];simp [o6]
   refine gr ?_;exact ⟨_,_,rfl,by rw [e2];rfl,by rw [same 3 e2 (by simp [o6])];rfl⟩
  have g4:=g3;simp [p9,r7] at g4;refine gr ?_;refine tb (!s7 (Y L (Y v.on i).1.toNat) (Y R (Y v.on i).2.toNat)) (λg5=>?_) (λg5=>?_)
  .have e1:L8 L R v.on=5:=by rw [hi,L8,g3,g5];rfl
   have e2:gu v L R=5:=by unfold gu;rw [e1];simp [o6]
   refine gr ?_;exact ⟨_,_,rfl,by rw [e2];rfl,by rw [same 5 e2 (by simp [o6])];rfl⟩
  .refine gr ?_
   exact kk ⟨_,_,rfl,i+1,rfl,rfl,V,by rw [hi,L8,g3,g5];rfl⟩
 have g2:=A9 g1;rw [n5 V] at hi;have e0:(!s7 (L8 L R v.on) 0)=F:=by rw [hi];simp [L8,o6]
 clear g1 g2 hk hi;refine gc XJ ?_;refine Ex.SG (λs=>∃(w1 w2 w3 w5 w6 w8 w9 kr uy uz uA EZ OB w16 w17 w18 w19 VK VL VM VN:c7),s=⟨[.ptr 5 0,w1,w2,w3,.ptr 6 0,w5,w6,.ptr 7 0,w8,w9,kr,uy,uz,uA,EZ,OB,w16,w17,w18,w19,VK,VL,VM,VN],[xa,xo,.cells (c.enc.map .d),.map (dmap ds),.map (dc (ss.map (·.1)) 0),.cells (c.enc.map .d++[.map 3,.map 4,A8 2 V4 ss]),.cells (v.enc.map .d),.cells [.d (ints (L++R))]]⟩/\gu v L R=W3 (L++R) [] (aM v)) ?_ ?_
 .skip
  refine tb (D0 0 (O v.wh)) (λg6=>?_) (λg6=>?_)
  .refine gc pW ?_
   refine tb (!s7 (K4 v.wh (L++R)).2 0) (λg7=>?_) (λg7=>?_)
   .have e1:gu v L R=(K4 v.wh (L++R)).2:=by unfold gu;rw [e0,g6,g7];rfl
    refine gr ?_;exact ⟨_,_,rfl,by rw [e1];rfl,by rw [same _ e1 (by simpa using g7)];rfl⟩
   refine gr ?_;refine tb (!s7 (K4 v.wh (L++R)).1 1) (λg8=>?_) (λg8=>?_)
   .have e1:gu v L R=5:=by unfold gu;rw [e0,g6,g7,g8];rfl
    refine gr ?_;exact ⟨_,_,rfl,by rw [e1];rfl,by rw [same 5 e1 (by simp [o6])];rfl⟩
   .have e1:gu v L R=W3 (L++R) [] (aM v):=by unfold gu;rw [e0,g6,g7,g8];rfl
    refine gr ?_;exact ⟨_,_,_,_,_,_,_,_,_,_,_,_,_,_,_,_,_,_,_,_,_,rfl,e1⟩
  .have e1:gu v L R=W3 (L++R) [] (aM v):=by unfold gu;rw [e0,g6];rfl
   refine gr ?_;exact ⟨_,_,_,_,_,_,_,_,_,_,_,_,_,_,_,_,_,_,_,_,_,rfl,e1⟩
 rintro _ ⟨w1,w2,w3,w5,w6,w8,w9,kr,uy,uz,uA,EZ,OB,w16,w17,w18,w19,VK,VL,VM,VN,rfl,hin⟩;refine gr ?_;refine Ex.L4 (λk T H=>∃(i:Nat) (nm:List I4) (tys:List Int),T=[.ptr 5 0,.any,.any,.any,.ptr 6 0,.any,.any,.ptr 7 0,.any,.any,.ptr 8 0,.any,.any,.any,.any,.any,.any,.any,.d (x3 uB.enc v.items),.d (Z (O v.items)),.d (Z i),.any,.any,.any]/\H=[xa,xo,.cells (c.enc.map .d),.map (dmap ds),.map (dc (ss.map (·.1)) 0),.cells (c.enc.map .d++[.map 3,.map 4,A8 2 V4 ss]),.cells (v.enc.map .d),.cells [.d (ints (L++R))],.cells (yQ nm tys)]/\i+k=O v.items/\nm=(v.items.take i).map uB.name/\tys=(v.items.take i).map (λx=>(K4 x.expr (L++R)).1)/\gu v L R=W3 (L++R) nm ((aM v).drop i)) ?_ (k:=O v.items) ⟨0,[],[],rfl,rfl,U,U,U,by simpa using hin⟩;rintro k _ _ ⟨i,nm,tys,rfl,rfl,hk,hnm,nM,hi⟩;have Jr:O nm=i:=by rw [hnm];simp;omega
 have iZ:O tys=i:=by rw [nM];simp;omega
 refine Ex.seq ?_;refine tb (D0 i (O v.items)) (λg1=>?_) (λg1=>?_)
 .have g2:=A5 g1
  have hel:=iV v;rw [C5 V,rG v V,vP] at hi;have UE:=Sz 257 rfl rfl xa xo (.cells (c.enc.map .d)) (.map (dmap ds)) (.map (dc (ss.map (·.1)) 0)) (.cells (c.enc.map .d++[.map 3,.map 4,A8 2 V4 ss])) (.cells (v.enc.map .d)) (L++R) nm tys (Y v.items i).enc (Y v.items i).name (K4 (Y v.items i).expr (L++R)) V V (λa7=>YQ xa xo (.cells (c.enc.map .d)) (.map (dmap ds)) (.map (dc (ss.map (·.1)) 0)) (.cells (c.enc.map .d++[.map 3,.map 4,A8 2 V4 ss])) (.cells (v.enc.map .d)) a7 (L++R) (Y v.items i) (h4 i V) hTl)
  repeat' (first|refine c0 UE rfl (h2:=?_)|refine gx ?_|fail)
  refine tb (!s7 (fF nm (Y v.items i).name (K4 (Y v.items i).expr (L++R))) 0) (λg3=>?_) (λg3=>?_)
  .rw [g3,if_pos rfl] at hi
   refine gr ?_;exact ⟨_,_,rfl,by rw [hi];rfl,by rw [same _ hi (by simpa using g3)];rfl⟩
  .rw [g3,if_neg U] at hi
   have e1:s7 (fF nm (Y v.items i).name (K4 (Y v.items i).expr (L++R))) 0=W:=by simpa using g3
   have e2:yo nm (Y v.items i).name (K4 (Y v.items i).expr (L++R))=nm++[(Y v.items i).name]:=by unfold yo;rw [e1];rfl
   have e3:yq nm tys (Y v.items i).name (K4 (Y v.items i).expr (L++R))=tys++[(K4 (Y v.items i).expr (L++R)).1]:=by unfold yq;rw [e1];rfl
   rw [e2,e3];refine gr ?_;exact kk ⟨_,_,rfl,i+1,nm++[(Y v.items i).name],tys++[(K4 (Y v.items i).expr (L++R)).1],rfl,rfl,V,by rw [D2 V,hnm];simp,by rw [D2 V,nM];simp,hi⟩
 have g2:=A9 g1;rw [s9 V] at hnm nM;have hie:i=O v.items:=V
 subst hie;clear g1 g2 hk;refine gr ?_;refine Ex.L4 (λk T H=>∃(i:Nat) (Io:List I4) (BU:List Int),T=[.ptr 5 0,.any,.any,.any,.ptr 6 0,.any,.any,.ptr 7 0,.any,.any,.ptr 8 0,.any,.any,.any,.any,.any,.any,.any,.any,.any,.any,.d (x3 uc.enc v.E3),.d (Z (O v.E3)),.d (Z i)]/\H=[xa,xo,.cells (c.enc.map .d),.map (dmap ds),.map (dc (ss.map (·.1)) 0),.cells (c.enc.map .d++[.map 3,.map 4,A8 2 V4 ss]),.cells (v.enc.map .d),.cells [.d (ints (L++R))],.cells (yQ Io BU)]/\i+k=O v.E3/\Io=nm++(v.E3.take i).map uc.name/\BU=tys++(v.E3.take i).map (sI (L++R))/\gu v L R=W3 (L++R) Io ((aM v).drop (O v.items+i))) ?_ (k:=O v.E3) ⟨0,nm,tys,rfl,rfl,U,U,U,hi⟩;clear hi;rintro k _ _ ⟨i,Io,BU,rfl,rfl,hk,PL,Jy,hi⟩;have WM:O Io=O v.items+i:=by rw [PL,j9,Jr];simp;omega
 have hl4:O BU=O v.items+i:=by rw [Jy,j9,iZ];simp;omega
 refine Ex.seq ?_;have hel:=iV v;refine tl i (O v.E3) (λg2=>?_) (λg2=>?_)
 .rw [C5 V,vN v V V,Nat.add_sub_cancel_left,yE] at hi
  have UE:=Sz 258 rfl rfl xa xo (.cells (c.enc.map .d)) (.map (dmap ds)) (.map (dc (ss.map (·.1)) 0)) (.cells (c.enc.map .d++[.map 3,.map 4,A8 2 V4 ss])) (.cells (v.enc.map .d)) (L++R) Io BU (Y v.E3 i).enc (Y v.E3 i).name (iN (L++R) (Y v.E3 i)) V V (λa7=>YR xa xo (.cells (c.enc.map .d)) (.map (dmap ds)) (.map (dc (ss.map (·.1)) 0)) (.cells (c.enc.map .d++[.map 3,.map 4,A8 2 V4 ss])) (.cells (v.enc.map .d)) a7 (L++R) (Y v.E3 i) (h5 i V) hTl)
  repeat' (first|refine c0 UE rfl (h2:=?_)|refine gx ?_|fail)
  refine tb (!s7 (fF Io (Y v.E3 i).name (iN (L++R) (Y v.E3 i))) 0) (λg3=>?_) (λg3=>?_)
  .rw [g3,if_pos rfl] at hi
   refine gr ?_;exact ⟨_,_,rfl,by rw [hi];rfl,by rw [same _ hi (by simpa using g3)];rfl⟩
  .rw [g3,if_neg U] at hi
   have e1:s7 (fF Io (Y v.E3 i).name (iN (L++R) (Y v.E3 i))) 0=W:=by simpa using g3
   have e2:yo Io (Y v.E3 i).name (iN (L++R) (Y v.E3 i))=Io++[(Y v.E3 i).name]:=by unfold yo;rw [e1];rfl
   have e3:yq Io BU (Y v.E3 i).name (iN (L++R) (Y v.E3 i))=BU++[(iN (L++R) (Y v.E3 i)).1]:=by unfold yq;rw [e1];rfl
   have e4:s7 (iN (L++R) (Y v.E3 i)).2 0=W:=by
    have e5:=W9 e1;unfold fF at e5;cases c1:(!K1 (Y v.E3 i).name) with
    |true=>rw [c1] at e5;simp at e5
    |false =>
     rw [c1] at e5;cases c2:Io.any λy=>K7 y (Y v.E3 i).name with
     |true=>rw [c2] at e5;simp at e5
     |false =>
      rw [c2] at e5;cases c3:s7 (iN (L++R) (Y v.E3 i)).2 0 with
      |true=>rfl
      |false=>rw [c3] at e5;simp at e5;rw [e5] at c3;simp [o6] at c3
   rw [e2,e3];refine gr ?_;exact kk ⟨_,_,rfl,i+1,Io++[(Y v.E3 i).name],BU++[(iN (L++R) (Y v.E3 i)).1],rfl,rfl,V,by rw [D2 V,PL];simp,by rw [D2 V,Jy,OW e4];simp,hi⟩
 .rw [s9 V] at PL Jy
  rw [n5 V] at hi;have e1:gu v L R=0:=hi;have e2:Bj ss v L R=ss++[(v.name,(aM v).map yV.name,X7 v (L++R))]:=by unfold Bj;rw [e1];simp [o6]
  have e3:Io=(aM v).map yV.name:=by rw [PL,hnm];simp [aM,Function.comp_def]
  have e4:BU=X7 v (L++R):=by rw [Jy,nM];rfl
  rw [e2,e3,e4];refine gr ?_;unfold yQ
  repeat' (first|refine c0 Nd rfl (h2:=?_)|refine gx ?_|fail)
  exact ⟨_,_,rfl,by rw [e1];rfl,rfl⟩
def Ex.nH {A:Go.z6.Prog}{l:G9}{b:Nat}{c:L2}{T:List c7}{H:k8}{Q:H9->St->Prop}(H2:k8)(hH:H=H2)(h:Ex A l b c ⟨T,H2⟩ Q):Ex A l b c ⟨T,H⟩ Q:=hH ▸ h
def Rn.z {A:Go.z6.Prog}{l:G9}{b:Nat}{ops:List x9}{Q:List c7->k8->List c7->Prop}{T:List c7}{H:k8}(s na:Nat)(H' :k8)(uj:T5 ops=[.dead])(oF:slotsOf ops=[.slot s])(hu:∀i,i∈ops->∀e,e∈i.Z2->e<O ops)(hH:H++[.dead]=H')(hna:O H=na)(h:Rz A l b ops ops T H' 0 [] [.slot s] na Q):Rn A l b ops W T H Q:=by
 subst hH hna;exact Rn.au6 uj oF hu h
def lpA {A:Go.z6.Prog}{l:G9}{b:Nat}{dr:Bool}{j8 ops:List x9}{T:List c7}{H:k8}{n:Nat}{rl:List c7}{l6:List z6.Touch}{Q:List c7->k8->List c7->Prop}{x:A4}{u:List Nat}{id o:Nat}{w v:c7}(hv:w.I7=v)(h2:Ry A l b dr j8 ops T H (n+1) (v::rl) l6 Q)(hx:rq T n rl x= .ptr id o:=by rfl)(hr:rd H id o 1=J [w]:=by rfl) :
  Ry A l b dr j8 (⟨.load K x,K,K,u⟩::ops) T H n rl l6 Q:=Ry.pure (rs:=[id]) rfl (by simp only [l5,hx,hr,hv]) h2
def Z1 (ss:List dB)(s:I4):dB:=Y ss (I5 s (ss.map (·.1)) 0).toNat
def Cc (ss:List dB)(v:Vw):dB:=if K7 v.right [] then ([],[],[]) else Z1 ss v.right
def cE (ss:List dB)(ds:List I4)(v:Vw):Int :=
 if !s7 (N7 ds v.name) 0 then N7 ds v.name
 else if !s7 v.kind 0&& !s7 v.kind 1&& !s7 v.kind 2 then 1
 else if D0 (I5 v.left (ss.map (·.1)) 0) 0||(!K7 v.right []&&D0 (I5 v.right (ss.map (·.1)) 0) 0) then 7
 else if !iE v then 1
 else if s7 v.kind 2 then (if !dh s7 (Z1 ss v.left).2.2 (Cc ss v).2.2 then 5 else 0)
 else gu v (Z1 ss v.left).2.2 (Cc ss v).2.2
def nZ (ss:List dB)(ds:List I4)(v:Vw):List dB :=
 if s7 (cE ss ds v) 0 then (if s7 v.kind 2 then ss++[(v.name,(Z1 ss v.left).2.1,(Z1 ss v.left).2.2)] else ss++[(v.name,(aM v).map yV.name,X7 v ((Z1 ss v.left).2.2++(Cc ss v).2.2))]) else ss
set_option maxHeartbeats 32000000 in
def az2 [Inhabited XO] (c:p7)(ds:List I4)(ss:List dB)(i:Nat)(hi:i<O c.views)(h0:O (Y c.views i).on<=1000)(h1:O (Y c.views i).wh<=1000)(h2:O (Y c.views i).items<=1000)(h3:O (Y c.views i).E3<=1000)(h4:∀j,j<O (Y c.views i).items->O (Y (Y c.views i).items j).expr<=1000)(h5:∀j,j<O (Y c.views i).E3->O (Y (Y c.views i).E3 j).expr<=1000)
  (hss:O ss<=1000) (ht:∀k,k<O ss->0<O (Y ss k).2.1/\O (Y ss k).2.1<=5000/\0<O (Y ss k).2.2/\O (Y ss k).2.2<=5000) (hsub:∀s,(ds.any λy=>K7 y s)=F->((ss.map (·.1)).any λy=>K7 y s)=F) :
  Pm A 150 [.ptr 5 0,.d (Z i)] (HH c ds ss) lW (.d (Z (cE ss ds (Y c.views i)))) (HH c (M1 ds (Y c.views i).name) (nZ ss ds (Y c.views i))):=by
 generalize hx:Y c.views i=v at *
 have oO:=tM c ds ss v.name;have pL:=Gq c (M1 ds v.name) ss v.left;have pR:=Gq c (M1 ds v.name) ss v.right;have bL:=wv ss v.left;have bR:=wv ss v.right;have au8:=Ye v h2 h3;have hno:N7 ds v.name=0->((ss.map (·.1)).any λy=>K7 y v.name)=F:=λh=>by
  refine hsub _ ?_;unfold N7 at h;cases c1:(!K1 v.name) with
  |true=>rw [c1] at h;simp at h
  |false =>
   rw [c1] at h;cases c2:ds.any λy=>K7 y v.name with
   |false=>rfl
   |true=>rw [c2] at h;simp at h
 suffices h:Pq A 150 [.ptr 5 0,.d (Z i)] (HH c ds ss) lW λw H1=>w= .d (Z (cE ss ds v))/\H1=HH c (M1 ds v.name) (nZ ss ds v) by
  obtain ⟨w,H1,⟨rfl,rfl⟩,h⟩:=h;exact h
 have same:∀e,cE ss ds v=e->s7 e 0=F->nZ ss ds v=ss:=λe g1 g2=>by unfold nZ;rw [g1,g2];rfl
 have Ul:∀L R:List Int,O L<=5000->O R<=5000->N7 ds v.name=0->Pm A 221 [.ptr 5 0,vw v,.d (ints L),.d (ints R)] (HH c (M1 ds v.name) ss) lW (.d (Z (gu v L R))) (HH c (M1 ds v.name) (Bj ss v L R)):=λL R hL hR hd=>YN c (M1 ds v.name) ss v L R hL hR h0 h1 h2 h3 h4 h5 (hno hd) hss
 have Nd:∀nm ty,N7 ds v.name=0->Pm A 212 [.ptr 5 0,.d (.str v.name),Hq nm ty] (HH c (M1 ds v.name) ss) lW (.tuple []) (HH c (M1 ds v.name) (ss++[(v.name,nm,ty)])):=λnm ty hd=>Nv c (M1 ds v.name) ss v.name nm ty (hno hd) hss
 unfold HH at *
 refine Pq.go 5 ?_;refine gr ?_;rw [hx]
 repeat' (first|refine c0 oO rfl (h2:=?_)|refine gx ?_|fail)
 refine tb (!s7 (N7 ds v.name) 0) (λg1=>?_) (λg1=>?_)
 .have e1:cE ss ds v=N7 ds v.name:=by unfold cE;rw [g1];rfl
  refine gr ?_;exact ⟨_,_,rfl,by rw [e1];rfl,by rw [same _ e1 (by simpa using g1)];rfl⟩
 have hd0:N7 ds v.name=0:=W9 (by simpa using g1);refine gr ?_;refine tb (!s7 v.kind 0&& !s7 v.kind 1&& !s7 v.kind 2) (λg2=>?_) (λg2=>?_)
 .have e1:cE ss ds v=1:=by unfold cE;rw [g1,g2];rfl
  refine gr ?_;exact ⟨_,_,rfl,by rw [e1];rfl,by rw [same 1 e1 (by simp [o6])];rfl⟩
 refine gr ?_;refine tB (D0 (I5 v.left (ss.map (·.1)) 0) 0||(!K7 v.right []&&D0 (I5 v.right (ss.map (·.1)) 0) 0)) ?_ (λg3=>?_) (λg3=>?_)
 .repeat' (first|refine c1 pL rfl ?_|refine c1 pR rfl ?_|refine gx ?_|refine fq (λhw=>?_) λhw=>?_|refine ⟨rfl,rfl,_,rfl,?_⟩|refine ⟨rfl,rfl⟩|fail)
  all_goals exact cc
 .have e1:cE ss ds v=7:=by unfold cE;rw [g1,g2,g3];rfl
  refine gr ?_;exact ⟨_,_,rfl,by rw [e1];rfl,by rw [same 7 e1 (by simp [o6])];rfl⟩
 have g3' :=g3;simp only [B2] at g3';have f1:=A9 g3'.1;have f2:K7 v.right []=F->0<=I5 v.right (ss.map (·.1)) 0:=λh=>by
  have:=g3'.2;simp only [h,Bool.not_false,Bool.true_and] at this;exact A9 this
 have htL:=ht (I5 v.left (ss.map (·.1)) 0).toNat V;have RY:Y ss (I5 v.left (ss.map (·.1)) 0).toNat=Z1 ss v.left:=rfl;rw [RY] at htL;refine gr ?_;refine tc (!iE v) au8 (λg4=>?_) (λg4=>?_)
 .have e1:cE ss ds v=1:=by unfold cE;rw [g1,g2,g3,g4];rfl
  refine gr ?_;exact ⟨_,_,rfl,by rw [e1];rfl,by rw [same 1 e1 (by simp [o6])];rfl⟩
 refine gr ?_;refine Ex.nH [xa,xo,.cells (c.enc.map .d),.map (dmap (M1 ds v.name)),.map (dc (ss.map (·.1)) 0),.cells (c.enc.map .d++[.map 3,.map 4,A8 2 V4 ss]),.cells (v.enc.map .d)] rfl ?_;refine Ex.region (Rn.z 5 7 [xa,xo,.cells (c.enc.map .d),.map (dmap (M1 ds v.name)),.map (dc (ss.map (·.1)) 0),.cells (c.enc.map .d++[.map 3,.map 4,A8 2 V4 ss]),.cells (v.enc.map .d),.dead] rfl rfl (by decide) rfl rfl ?_);refine zm ?_;refine zp (rs:=[]) (.ptr 5 0) rfl ?_;refine zp (rs:=[]) (.ptr 5 10) rfl ?_;refine zp (rs:=[5]) (.d (x3 V4 ss)) rfl ?_;refine zm ?_;refine zp (rs:=[]) (.ptr 6 2) rfl ?_;refine zp (rs:=[6]) (.d (.str v.left)) rfl ?_;refine zc pL rfl ?_ (hmn:=j5 rfl);refine zix (xs:=ss) (enc:=V4) (e:=I5 v.left (ss.map (·.1)) 0) V ?_;refine zle ?_;rw [RY];refine za (h2:=?_);refine zs (h2:=?_);refine zn ?_;refine gr ?_;refine Ex.SG (λs=>∃(w0 w1 w2 w4 wa wb:c7),s=⟨[.ptr 5 0,w1,w2,.ptr 6 0,w4,.ptr 7 0,.ptr 8 0],[xa,xo,.cells (c.enc.map .d),.map (dmap (M1 ds v.name)),.map (dc (ss.map (·.1)) 0),.cells (c.enc.map .d++[.map 3,.map 4,A8 2 V4 ss]),.cells (v.enc.map .d),.cells ((V4 (Z1 ss v.left)).map .d),.cells [wa,wb]]⟩/\wa.I7= .d (x3 encS (Cc ss v).2.1)/\wb.I7= .d (ints (Cc ss v).2.2)/\O (Cc ss v).2.2<=5000) ?_ ?_
 .skip
  refine tb (!K7 v.right []) (λg6=>?_) (λg6=>?_)
  .simp only [o9] at g6
   have f3:=f2 g6;have htR:=ht (I5 v.right (ss.map (·.1)) 0).toNat V;have Vt:Y ss (I5 v.right (ss.map (·.1)) 0).toNat=Cc ss v:=by unfold Cc;rw [g6];rfl
   rw [Vt] at htR
   repeat' (first|refine c1 pR rfl ?_|refine soD (h2:=?_)|refine gx ?_|fail)
   rw [Vt];exact ⟨.any,_,_,_,_,_,rfl,rfl,rfl,V⟩
  .simp only [B7] at g6
   have Vt:Cc ss v=([],[],[]):=by unfold Cc;rw [g6];rfl
   refine gr ?_;exact ⟨.any,_,_,_,_,_,rfl,by rw [Vt];rfl,by rw [Vt];rfl,by rw [Vt];simp⟩
 rintro _ ⟨w0,w1,w2,w4,wa,wb,rfl,ha,hb,hrl⟩;have aB1:=Yf (Z1 ss v.left).2.2 (Cc ss v).2.2 V;have NJ:=Yg (Z1 ss v.left).2.1 V V;have aB2:=Yh (Z1 ss v.left).2.2 V V;have UD:=Nd (Z1 ss v.left).2.1 (Z1 ss v.left).2.2 hd0;have aB3:=Ul (Z1 ss v.left).2.2 (Cc ss v).2.2 V hrl hd0;refine gr ?_;refine tb (s7 v.kind 2) (λg7=>?_) (λg7=>?_)
 .refine gr ?_
  refine tB (!dh s7 (Z1 ss v.left).2.2 (Cc ss v).2.2) ?_ (λg8=>?_) (λg8=>?_)
  .repeat' (first|refine lpA hb ?_|refine cl (aB1) ?_|refine gx ?_|refine fq (λhw=>?_) λhw=>?_|refine ⟨rfl,rfl,_,rfl,?_⟩|refine ⟨rfl,rfl⟩|fail)
   all_goals exact cc
  .have e1:cE ss ds v=5:=by unfold cE;rw [g1,g2,g3,g4,g7,g8];rfl
   refine gr ?_;exact ⟨_,_,rfl,by rw [e1];rfl,by rw [same 5 e1 (by simp [o6])];rfl⟩
  have e1:cE ss ds v=0:=by unfold cE;rw [g1,g2,g3,g4,g7,g8];rfl
  have e2:nZ ss ds v=ss++[(v.name,(Z1 ss v.left).2.1,(Z1 ss v.left).2.2)]:=by unfold nZ;rw [e1,g7];simp [o6]
  rw [e2]
  repeat' (first|refine cl (NJ) ?_|refine cl (aB2) ?_|refine c0 UD rfl (h2:=?_)|refine gx ?_|fail)
  exact ⟨_,_,rfl,by rw [e1];rfl,rfl⟩
 .have e1:cE ss ds v=gu v (Z1 ss v.left).2.2 (Cc ss v).2.2:=by unfold cE;rw [g1,g2,g3,g4,g7];rfl
  have e2:nZ ss ds v=Bj ss v (Z1 ss v.left).2.2 (Cc ss v).2.2:=by unfold nZ Bj;rw [e1,g7];rfl
  rw [e2]
  repeat' (first|refine lpA hb ?_|refine c0 aB3 rfl (h2:=?_)|refine gx ?_|fail)
  exact ⟨_,_,rfl,by rw [e1];rfl,rfl⟩
def cnt (c:p7):Nat->Nat
 |0=>O c.j7
 |1=>O c.views
 |2=>O c.idxs
 |3=>O c.F4
 |4=>O c.H8
 |5=>O c.J5
 |6=>O c.J9
 |_=>O c.K6
def Fh:Nat->Nat
 |0=>8
 |1=>12
 |_=>16
def fid (q:Nat):FuncId:=149+q
def W8 (c:p7):Nat->Nat
 |0=>0
 |q+1=>W8 c q+cnt c q
def aH (c:p7)(q:Nat):List c7:=[.d (Z (cnt c q)),.d (Z (Fh q)),.func (fid q) [.ptr 5 0] []]
def fh (c:p7):List c7:=aH c 0++aH c 1++aH c 2++aH c 3++aH c 4++aH c 5++aH c 6++aH c 7
def DE (c:p7)(q:Nat)(h:q<8)(H:k8)(hH:H[6]? =J (.cells (fh c))):rd H 6 (0+q * 3) 3=J (aH c q):=by
 simp only [rd,hH]
 match q,h with
 |0,_=>rfl
 |1,_=>rfl
 |2,_=>rfl
 |3,_=>rfl
 |4,_=>rfl
 |5,_=>rfl
 |6,_=>rfl
 |7,_=>rfl
def rj (l:List c7):(x6.cells l).H7=A2 l:=rfl
def AK (es:List (Key×c7)):(x6.map es).H7=A2 (es.map (·.2)):=rfl
def KT [Inhabited XO] (c:p7)(ds:List I4)(ss:List dB):C9 (HH c ds ss)<=6:=by
 have h1:=qc ds;have h2:=qA (ss.map (·.1)) 0;have ha:=(default:XO).ha;have hb:=(default:XO).hb;have e1:A2 (c.enc.map c7.d)=0:=rfl;have e2:A2 (c.enc.map c7.d++[.map 3,.map 4,A8 2 V4 ss])=5:=rfl;simp only [HH,C9,xa,xo,ha,hb,rj,AK,h1,h2,e1,e2]
 decide
def GQ [Inhabited XO] (c:p7)(ds:List I4)(ss:List dB):U6 (HH c ds ss) 0=W:=by
 have h1:=qc ds;have h2:=qA (ss.map (·.1)) 0;have ha:=(default:XO).ha;have hb:=(default:XO).hb;have e1:A2 (c.enc.map c7.d)=0:=rfl;have e2:A2 (c.enc.map c7.d++[.map 3,.map 4,A8 2 V4 ss])=5:=rfl;simp only [HH,U6,xa,xo,ha,hb,rj,AK,h1,h2,e1,e2]
 decide
def IA {H:k8}(h:U6 ((H.take 6).drop 0) 0=W):B1 H 0 6=6:=by
 unfold B1;rw [if_neg (by decide),if_pos h]
def LO {q:Nat}(h:q<8):A.prom (fid q)=F/\A.mode (fid q)=0:=by
 match q,h with
 |0,_=>exact ⟨rfl,rfl⟩
 |1,_=>exact ⟨rfl,rfl⟩
 |2,_=>exact ⟨rfl,rfl⟩
 |3,_=>exact ⟨rfl,rfl⟩
 |4,_=>exact ⟨rfl,rfl⟩
 |5,_=>exact ⟨rfl,rfl⟩
 |6,_=>exact ⟨rfl,rfl⟩
 |7,_=>exact ⟨rfl,rfl⟩
def DX (c:p7):W8 c 8=O c.names:=by simp [W8,cnt,p7.names];omega
def Qx (c:p7){q:Nat}(h:q<8):W8 c q+cnt c q<=O c.names:=by
 rw [<- DX]
 match q,h with
 |0,_=>simp only [W8];omega
 |1,_=>simp only [W8];omega
 |2,_=>simp only [W8];omega
 |3,_=>simp only [W8];omega
 |4,_=>simp only [W8];omega
 |5,_=>simp only [W8];omega
 |6,_=>simp only [W8];omega
 |7,_=>simp only [W8];omega
def Qi {c:p7}{q:Nat}(h:q<8)(h2:D0 (Fh q) (cnt c q)=W):tooMany c=W:=by
 unfold tooMany zV
 match q,h with
 |0,_=>simp only [Fh,cnt] at h2;simp [show D0 8 (O c.j7)=W from h2]
 |1,_=>simp only [Fh,cnt] at h2;simp [show D0 12 (O c.views)=W from h2]
 |2,_=>simp only [Fh,cnt] at h2;simp [show D0 16 (O c.idxs)=W from h2]
 |3,_=>simp only [Fh,cnt] at h2;simp [show D0 16 (O c.F4)=W from h2]
 |4,_=>simp only [Fh,cnt] at h2;simp [show D0 16 (O c.H8)=W from h2]
 |5,_=>simp only [Fh,cnt] at h2;simp [show D0 16 (O c.J5)=W from h2]
 |6,_=>simp only [Fh,cnt] at h2;simp [show D0 16 (O c.J9)=W from h2]
 |7,_=>simp only [Fh,cnt] at h2;simp [show D0 16 (O c.K6)=W from h2]
def Tg {c:p7}(h:∀p,p<8->cnt c p<=Fh p):tooMany c=F:=by
 have h0:=h 0 V;have h1:=h 1 V;have h2:=h 2 V;have h3:=h 3 V;have h4:=h 4 V;have h5:=h 5 V;have h6:=h 6 V;have h7:=h 7 V;simp only [cnt,Fh] at h0 h1 h2 h3 h4 h5 h6 h7;simp only [tooMany,zV,s4,B2,decide_eq_false_iff_not];omega
def GR [Inhabited XO] (c:p7)(ds:List I4)(ss:List dB):C9 (HH c ds ss++[.cells (fh c)])<=7:=by
 have h1:=qc ds;have h2:=qA (ss.map (·.1)) 0;have ha:=(default:XO).ha;have hb:=(default:XO).hb;have e1:A2 (c.enc.map c7.d)=0:=rfl;have e2:A2 (c.enc.map c7.d++[.map 3,.map 4,A8 2 V4 ss])=5:=rfl;have e3:A2 (fh c)=6:=rfl;simp only [HH,x4,y5,C9,xa,xo,ha,hb,rj,AK,h1,h2,e1,e2,e3]
 decide
def DD (c:p7)(q:Nat):A2 (aH c q)<=7+1:=by
 exact j5 rfl
def uF [Inhabited XO] (c:p7)(fds:List I4)(RF:List dB)(v:c7)(H1:k8):Prop :=
 (∃R,H1=xa::xo::R)/\(s7 (S1 c).2 0=F->v= .tuple [.d .dW,.d (Z (S1 c).1),.d (Z (S1 c).2)]) /\
  (s7 (S1 c).2 0=W->v= .tuple [.ptr 5 0,.d (Z 0),.d (Z 0)]/\H1=HH c fds RF++[.cells (fh c)])
def FB [Inhabited XO] {c:p7}{fds:List I4}{RF:List dB}{v:c7}{H1:k8}(h:uF c fds RF v H1):2<=O H1:=by
 obtain ⟨⟨R,rfl⟩,_⟩:=h;simp
set_option maxHeartbeats 32000000 in
def aA3 [Inhabited XO] (c:p7)(hf:c.dP)(ST:Nat->List I4->List dB->Prop)(an2:ST 0 [] [])(hST:∀g ds ss ds' ss',ST g ds ss->ST g ds' ss' ->ds=ds' /\ss=ss')(fds:List I4)(RF:List dB)(an3:∀ds ss,ST (O c.names) ds ss->ds=fds/\ss=RF)
  (hstep:∀q i ds ss,q<8->i<cnt c q->tooMany c=F->iD c (W8 c q+i)->ST (W8 c q+i) ds ss->∃dz sz,(M9 c (W8 c q+i)=0->ST (W8 c q+i+1) dz sz)/\Pm A (fid q) [.ptr 5 0,.d (Z i)] (HH c ds ss) lW (.d (Z (M9 c (W8 c q+i)))) (HH c dz sz)) :
  Pq A 101 [cat c] [xa,xo] N9 (uF c fds RF):=by
 obtain ⟨f0,f1,f2,f3,f4,f5,f6,f7⟩:=id hf;have Wz:∀q,cnt c q<=1000:=λq=>by unfold cnt;split<;>assumption
 have PK:∀q,Fh q<=16:=λq=>by unfold Fh;split<;>omega
 refine Pq.go 19 ?_
 repeat' (first|refine mk (h2:=?_)|refine mJ (cs:=c.enc.map .d++[.map 3,.map 4,A8 2 V4 []]) ?_|refine mJ (cs:=aH c 0) ?_|refine mJ (cs:=aH c 1) ?_|refine mJ (cs:=aH c 2) ?_|refine mJ (cs:=aH c 3) ?_|refine mJ (cs:=aH c 4) ?_|refine mJ (cs:=aH c 5) ?_|refine mJ (cs:=aH c 6) ?_|refine mJ (cs:=aH c 7) ?_|refine gx ?_|fail)
 refine bso (fh c) rfl ⟨by decide,rfl⟩ (h2:=?_)
 repeat' (first|refine lrT (h2:=?_)|refine gx ?_|fail)
 refine Ex.L4 (λk T H=>∃(q:Nat),T=[.any,.any,.any,.any,.any,.ptr 5 0,.s5 6 3 0 8,.any,.any,.any,.any,.any,.s5 6 3 0 8,.d (Z (8:Nat)),.d (Z q),.any,.any,.any,.any,.any]/\H=[xa,xo,.cells (c.enc.map .d),.map [],.map [],.cells (c.enc.map .d++[.map 3,.map 4,A8 2 V4 []]),.cells (fh c)]/\q+k=8/\∀p,p<q->cnt c p<=Fh p) ?_ (k:=8) ⟨0,rfl,rfl,U,λp h=>absurd h V⟩;rintro k _ _ ⟨q,rfl,rfl,hk,hq⟩;have b1:=Wz q;have b2:=PK q;have hbk:=DD c q;refine Ex.seq ?_;refine tb (D0 q (8:Nat)) (λg1=>?_) (λg1=>?_)
 .have g2:=A5 g1
  have KJ:q<8:=V
  have hka:=DE c q KJ ([xa,xo,.cells (c.enc.map .d),.map [],.map [],.cells (c.enc.map .d++[.map 3,.map 4,A8 2 V4 []]),.cells (fh c)]) rfl
  repeat' (first|refine ixs (i:=q) (len:=8) KJ ?_|refine Il hka rfl ?_|refine soB (cs:=aH c q) (id:=7) hbk (h2:=?_)|refine gx ?_|fail)
  refine tb (D0 (Fh q) (cnt c q)) (λg3=>?_) (λg3=>?_)
  .have ht:=Qi KJ g3
   have e1:S1 c=(0,8):=by unfold S1;rw [ht];rfl
   refine gr ?_;exact ⟨_,_,rfl,⟨_,rfl⟩,λ_=>by rw [e1];rfl,λh=>by rw [e1] at h;simp [o6] at h⟩
  .have g4:=A9 g3
   refine gr ?_;exact kk ⟨_,_,A6 (j5 rfl) (GR c [] []),q+1,rfl,rfl,V,λp hp=>by
    rcases y8 p q with h|h
    .exact hq p h
    .obtain rfl:p=q:=V
     omega⟩
 have g2:=A9 g1;have HQ:=Tg (c:=c) (λp hp=>hq p V);clear g1 g2 hk hq b1 b2 hbk
 repeat' (first|refine lrT (h2:=?_)|refine gx ?_|fail)
 refine Ex.L4 (λk T H=>∃(q g:Nat) (ds:List I4) (ss:List dB),T=[.any,.any,.any,.any,.any,.ptr 5 0,.any,.any,.d (Z g),.any,.any,.any,.any,.any,.any,.s5 6 3 0 8,.d (Z (8:Nat)),.d (Z q),.any,.any]/\H=[xa,xo,.cells (c.enc.map .d),.map (dmap ds),.map (dc (ss.map (·.1)) 0),.cells (c.enc.map .d++[.map 3,.map 4,A8 2 V4 ss]),.cells (fh c)]/\q+k=8/\g=W8 c q/\ST g ds ss/\iD c g/\S1 c=ep c (O c.names - g) g) ?_ (k:=8) ⟨0,0,[],[],rfl,rfl,U,rfl,an2,λm h=>absurd h V,by unfold S1;rw [HQ];rfl⟩;rintro k _ _ ⟨q,g,ds,ss,rfl,rfl,hk,hg,hst,hok,hch⟩;have b1:=Wz q;have hbk:=DD c q;refine Ex.seq ?_;refine tb (D0 q (8:Nat)) (λg1=>?_) (λg1=>?_)
 .have g2:=A5 g1
  have KJ:q<8:=V
  have hka:=DE c q KJ ([xa,xo,.cells (c.enc.map .d),.map (dmap ds),.map (dc (ss.map (·.1)) 0),.cells (c.enc.map .d++[.map 3,.map 4,A8 2 V4 ss]),.cells (fh c)]) rfl
  repeat' (first|refine ixs (i:=q) (len:=8) KJ ?_|refine Il hka rfl ?_|refine soB (cs:=aH c q) (id:=7) hbk (h2:=?_)|refine gx ?_|fail)
  refine Ex.Y1 (λk T H=>∃(i g:Nat) (ds:List I4) (ss:List dB) (w0 w1 w2 w3 w4 w6 w7 kr uy uz uA EZ:c7),T=[w0,w1,w2,w3,w4,.ptr 5 0,w6,w7,.d (Z g),.ptr 7 0,kr,uy,uz,uA,EZ,.s5 6 3 0 8,.d (Z (8:Nat)),.d (Z q),.d (Z (cnt c q)),.d (Z i)]/\H=[xa,xo,.cells (c.enc.map .d),.map (dmap ds),.map (dc (ss.map (·.1)) 0),.cells (c.enc.map .d++[.map 3,.map 4,A8 2 V4 ss]),.cells (fh c),.cells (aH c q)]/\i+k=cnt c q/\g=W8 c q+i/\ST g ds ss/\iD c g/\S1 c=ep c (O c.names - g) g) ?_ (k:=cnt c q) ⟨0,g,ds,ss,_,_,_,_,_,_,_,_,_,_,_,_,rfl,rfl,U,V,hst,hok,hch⟩;clear hst hok hch hka;rintro k2 _ _ ⟨i,g,ds,ss,w0,w1,w2,w3,w4,w6,w7,kr,uy,uz,uA,EZ,rfl,rfl,hk2,hg2,hst,hok,hch⟩;have Vs:=Qx c KJ;have hnl:O c.names<=8000:=by simp [p7.names];omega
  refine Ex.nT ?_;refine Ex.seq ?_;refine tl i (cnt c q) (λg4=>?_) (λg4=>?_)
  .have Vq:=KT c ds ss
   have ZF:=GQ c ds ss;subst hg2;obtain ⟨dz,sz,hz,HT⟩:=hstep q i ds ss KJ V HQ hok hst;unfold HH at HT Vq ZF;obtain ⟨N,hN⟩:∃N,O c.names - (W8 c q+i)=N+1:=⟨O c.names - (W8 c q+i) - 1,V⟩;rw [hN,ep] at hch;have hfp:=LO KJ;refine gr ?_;have hs5:B1 ([xa,xo,.cells (c.enc.map .d),.map (dmap ds),.map (dc (ss.map (·.1)) 0),.cells (c.enc.map c7.d++[.map 3,.map 4,A8 2 V4 ss]),.cells (fh c),.cells (aH c q)]) 0 6=6:=IA (H:=[xa,xo,.cells (c.enc.map .d),.map (dmap ds),.map (dc (ss.map (·.1)) 0),.cells (c.enc.map c7.d++[.map 3,.map 4,A8 2 V4 ss]),.cells (fh c),.cells (aH c q)]) ZF;refine RE (eM:=hfp.1) (hm:=hfp.2) HT rfl Vq (I8 Vq) rfl (iZ:=by show G9.mk 0 0 6 (B1 _ 0 6)=lW;rw [hs5];rfl) (h2:=?_);refine gr ?_;refine tb (!s7 (M9 c (W8 c q+i)) 0) (λg5=>?_) (λg5=>?_)
   .have e1:S1 c=(((W8 c q+i:Nat):Int),M9 c (W8 c q+i)):=by rw [hch,g5];rfl
    have e2:s7 (M9 c (W8 c q+i)) 0=F:=by simpa using g5
    refine gr ?_;exact ⟨_,_,rfl,⟨_,rfl⟩,λ_=>by rw [e1];rfl,λh=>by rw [e1] at h;simp only [e2] at h;cases h⟩
   .have e2:M9 c (W8 c q+i)=0:=W9 (by simpa using g5)
    rw [g5,if_neg U] at hch;have ar4 :=hz e2;refine gr ?_;refine ⟨k2 - 1,V,i+1,W8 c q+i+1,dz,sz,_,_,_,_,_,_,_,_,_,_,_,_,rfl,rfl,V,V,ar4,λm hm=>?_,?_⟩
    .rcases y8 m (W8 c q+i) with h|h
     .exact hok m h
     .obtain rfl:m=W8 c q+i:=V
      exact e2
    .have:O c.names - (W8 c q+i+1)=N:=V
     rw [this];exact hch
  .refine gr ?_
   refine kk ⟨_,_,A6 ?_ ?_,q+1,g,ds,ss,rfl,rfl,V,?_,hst,hok,hch⟩
   .exact j5 rfl
   .exact GR c ds ss
   .simp only [W8];omega
 have g2:=A9 g1;obtain rfl:q=8:=V
 rw [DX] at hg;subst hg;rw [Nat.sub_self] at hch;obtain ⟨rfl,rfl⟩:=an3 ds ss hst;refine gr ?_;have e1:S1 c=(0,0):=hch;exact ⟨_,_,rfl,⟨_,rfl⟩,λh=>by rw [e1] at h;simp [o6] at h,λ_=>⟨rfl,rfl⟩⟩
end Go.Proofs.YtibjocmpkoepoaaGreat


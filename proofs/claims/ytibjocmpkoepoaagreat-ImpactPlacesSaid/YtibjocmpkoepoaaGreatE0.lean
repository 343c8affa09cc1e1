import Derived.Test.YtibjocmpkoepoaaGreatD7
import Derived.Test.YtibjocmpkoepoaaGreatD5
set_option linter.all false
open Bool renaming eq_false_or_eq_true→C9,false_eq_true→e8,not_eq_false'→D5,not_eq_true'→o8,or_eq_false_iff→E5,true→W,false→F
open List renaming cons_append→G9,drop_of_length_le→o7,length_append→s9,nil_append→J7,take_of_length_le→y6,length→O
open Nat renaming le_of_ble_eq_true→l5,lt_or_ge→x9
open Option renaming some→J,none→K
namespace Go.Proofs.YtibjocmpkoepoaaGreat
open Go.B3 Go.B3.S
attribute [local irreducible] Rx Ry Rn Ex Pf
def vw' (v:Vw):c7:= .agg (v.enc.map .d)
def mQ (v:Vw):Bool :=
 if A1 v.kind 2 then !Q2 v.right []&&A1 (O v.on) 0&&A1 (O v.wh) 0&&A1 (O v.items) 0&&A1 (O v.L7) 0&& !v.distinct
 else if (J2 0 (O v.on)&&Q2 v.right [])||J2 8 (O v.on) then F
 else if A1 v.kind 0&&(A1 (O v.items) 0||J2 0 (O v.L7)) then F
 else if A1 v.kind 1&&(A1 (O v.L7) 0||v.distinct) then F
 else bC (O v.items+O v.L7) 8
set_option maxHeartbeats 8000000 in
def bf0 (v:Vw)(h0:O v.items<=1000)(h1:O v.L7<=1000):Pf A 217 [vw' v] (.d (.bool (mQ v))):=by
 refine Pf.gr 2 ?_;refine tb (A1 v.kind 2) (λg1=>?_) (λg1=>?_)
 .repeat' (first|refine gy ?_|refine fq (λhw=>?_) λhw=>?_|refine ⟨_,rfl,?_⟩|fail)
  all_goals unfold mQ
  all_goals rw [g1]
  all_goals simp [*,j5]
 refine gr ?_;refine tb ((J2 0 (O v.on)&&Q2 v.right [])||J2 8 (O v.on)) (λg2=>?_) (λg2=>?_)
 .refine gr ?_
  exact ⟨_,rfl,by unfold mQ;rw [g1,g2];rfl⟩
 refine gr ?_;refine tb (A1 v.kind 0&&(A1 (O v.items) 0||J2 0 (O v.L7))) (λg3=>?_) (λg3=>?_)
 .refine gr ?_
  exact ⟨_,rfl,by unfold mQ;rw [g1,g2,g3];rfl⟩
 refine gr ?_;refine tb (A1 v.kind 1&&(A1 (O v.L7) 0||v.distinct)) (λg4=>?_) (λg4=>?_)
 .refine gr ?_
  exact ⟨_,rfl,by unfold mQ;rw [g1,g2,g3,g4];rfl⟩
 refine gr ?_;exact ⟨_,rfl,by unfold mQ;rw [g1,g2,g3,g4];rfl⟩
def nS {A:Go.B3.Prog}{l:H8}{b:Nat}{dr:Bool}{j9 ops:List o4}{T:List c7}{H:n9}{n:Nat}{rl:List c7}{o5:List B3.Touch}{Q:List c7->n9->List c7->Prop}{α:Type}{enc:α->List B3.Data}{xs:List α}{neg:Bool}{x:z6}{u:List Nat}
  (h0:0<O xs) (h2:Ry A l b dr j9 ops T H (n+1) (.d (.bool neg)::rl) o5 Q) (hx:rq T n rl x= .d (B8 enc xs):=by rfl):Ry A l b dr j9 (⟨.AJ neg x,K,K,u⟩::ops) T H n rl o5 Q :=
 Ry.pure (rs:=[]) rfl (by simp [l8,hx,B8,h0]) h2
def bf2 (xs:List M6)(h0:0<O xs)(h1:O xs<=100000):Pf A 219 [.d (B8 (λs=>[.str s]) xs)] (L1 1 (λs=>[.str s]) xs):=by
 refine Pf.gr 1 ?_;refine tB (F) ?_ (λh2=>?_) (λh2=>?_)
 .repeat' (first|refine nS h0 ?_|refine gx ?_|refine fq (λhw=>?_) λhw=>?_|refine ⟨rfl,rfl,_,rfl,?_⟩|refine ⟨rfl,rfl⟩|fail)
  all_goals exact cc
 .cases h2
 refine gr ?_;exact ⟨_,rfl,rfl⟩
def bf3 (xs:List Int)(h0:0<O xs)(h1:O xs<=100000):Pf A 220 [.d (ints xs)] (L1 1 (λn=>[Z n]) xs):=by
 refine Pf.gr 1 ?_;refine tB (F) ?_ (λh2=>?_) (λh2=>?_)
 .repeat' (first|refine nS h0 ?_|refine gx ?_|refine fq (λhw=>?_) λhw=>?_|refine ⟨rfl,rfl,_,rfl,?_⟩|refine ⟨rfl,rfl⟩|fail)
  all_goals exact cc
 .cases h2
 refine gr ?_;exact ⟨_,rfl,rfl⟩
def bi8 (n:Nat)(h:n<=1000000)(l:H8):Pm A 279 [.H7,.d (Z n)] [] l (.own 1 0 []) []:=by
 refine ⟨1,λk hk=>?_⟩;obtain ⟨k,rfl⟩:∃j,k=j+1:=⟨k - 1,V⟩;have h1:A.gQ 279=J Gk:=rfl;simp only [call,h1,Gk,Z];rw [if_pos V]
def QV (l:List Int):List B3.Data:=[ints l]
set_option maxHeartbeats 4000000 in
def bg1 (xss:List (List Int))(h0:O xss<=100)(h1:∀i,i<O xss->O (Y xss i)<=10000):Pf A 254 [.d (B8 QV xss)] (.d (ints xss.flatten)):=by
 refine Pf.gr 11 ?_;refine Ex.R8 (λk T H=>∃(i m:Nat),T=[.d (B8 QV xss),.any,.d (Z m),.any,.any,.any,.d (B8 QV xss),.d (Z (O xss)),.d (Z i),.any,.any,.any]/\H=[]/\i+k=O xss/\m<=i * 10000) ?_ (k:=O xss) ⟨0,0,rfl,rfl,U,U⟩;rintro k _ _ ⟨i,m,rfl,rfl,hk,hm⟩;refine Ex.seq ?_;refine tb (J2 i (O xss)) (λh2=>?_) (λh2=>?_)
 .have h3:=F5 h2
  have h4:=h1 i V;have h5:m<=1000000:=V
  refine gr ?_;refine tb (F) (λh6=>?_) (λh6=>?_)
  .cases h6
  refine gr ?_;exact kk ⟨i+1,m+O (Y xss i),rfl,rfl,V,V⟩
 have h3:=G7 h2;have h5:m<=1000000:=V
 have p1:=bi8 m h5;clear h2 hm
 repeat' (first|refine c1 (p1 _) rfl ?_|refine gx ?_|fail)
 refine Ex.R8 (λk T H=>∃(i:Nat) (acc:List Int),T=[.any,.any,.any,.any,L1 1 (λn=>[Z n]) acc,.any,.any,.any,.any,.d (B8 QV xss),.d (Z (O xss)),.d (Z i)]/\H=[]/\i+k=O xss/\O acc<=i * 10000/\xss.flatten=acc++(xss.drop i).flatten) ?_ (k:=O xss) ⟨0,[],rfl,rfl,U,U,U⟩;rintro k _ _ ⟨i,acc,rfl,rfl,hk,hl,hacc⟩;refine Ex.seq ?_;refine tl i (O xss) (λh6=>?_) (λh6=>?_)
 .have h7:=h1 i V
  rw [E3 V] at hacc;have h8:O acc<=1000000:=V
  refine gr ?_;exact kk ⟨i+1,acc++Y xss i,rfl,rfl,V,D,by rw [hacc];simp⟩
 .rw [o7 V] at hacc
  refine gr ?_;exact ⟨_,rfl,by rw [hacc];simp [j5,ints,B8]⟩
def agr (a:Ke):c7:= .agg (a.enc.map .d)
def mY (ty:List Int)(a:Ke):Int×Int :=
 if A1 a.func 0 then (if J2 0 (O a.expr) then (0,1) else (1,0))
 else if A1 a.func 1||A1 a.func 2||A1 a.func 3||A1 a.func 4 then (if !A1 (O1 a.expr ty).2 0 then (0,(O1 a.expr ty).2) else if A1 a.func 1&& !A1 (O1 a.expr ty).1 1 then (0,5) else ((O1 a.expr ty).1,0))
 else (0,1)
set_option maxHeartbeats 8000000 in
def bg2 (ty:List Int)(a:Ke)(h0:O a.expr<=1000)(h1:O ty<=100000):Pf A 259 [agr a,.d (ints ty)] (pair (mY ty a)):=by
 have p1:=YR a.expr ty h0 h1;unfold pair at p1;refine Pf.go 7 ?_
 repeat' (first|refine cl (p1) ?_|refine gy ?_|refine fq (λhw=>?_) λhw=>?_|refine ⟨_,rfl,?_⟩|fail)
 all_goals unfold mY pair
 all_goals first|(simp [*,j5,c7.F4,Z];done)|(simp_all [j5,c7.F4,Z];done)
def l9:H8:=⟨0,0,10,10⟩
def l9R:H8:=⟨0,10,10,10⟩
def Fg (nm:List M6)(ty:List Int):List c7:=[L1 1 encS nm,L1 1 (λn=>[Z n]) ty]
def bi5 (a0 ax a1 a2 a3 a4 a5 a7:B4)(ty:List Int)(x:Wk)(h0:O x.expr<=1000)(h1:O ty<=100000) :
  Pm A 257 [.ptr 9 0,.ptr 7 0] [a0,ax,a1,a2,a3,a4,a5,.cells [.d (ints ty)],a7,.cells (x.enc.map .d)] l9R (pair (O1 x.expr ty)) [a0,ax,a1,a2,a3,a4,a5,.cells [.d (ints ty)],a7,.cells (x.enc.map .d)]:=by
 have p1:=YR x.expr ty h0 h1;unfold pair at *
 suffices h:Pq A 257 [.ptr 9 0,.ptr 7 0] [a0,ax,a1,a2,a3,a4,a5,.cells [.d (ints ty)],a7,.cells (x.enc.map .d)] l9R λv H1=>v= .tuple [.d (Z (O1 x.expr ty).1),.d (Z (O1 x.expr ty).2)]/\H1=[a0,ax,a1,a2,a3,a4,a5,.cells [.d (ints ty)],a7,.cells (x.enc.map .d)] by
  obtain ⟨v,H1,⟨rfl,rfl⟩,h⟩:=h;exact h
 refine Pq.go 2 ?_;refine gc p1 ?_;exact ⟨_,_,rfl,rfl,rfl⟩
def bi6 (a0 ax a1 a2 a3 a4 a5 a7:B4)(ty:List Int)(x:Ke)(h0:O x.expr<=1000)(h1:O ty<=100000) :
  Pm A 258 [.ptr 9 0,.ptr 7 0] [a0,ax,a1,a2,a3,a4,a5,.cells [.d (ints ty)],a7,.cells (x.enc.map .d)] l9R (pair (mY ty x)) [a0,ax,a1,a2,a3,a4,a5,.cells [.d (ints ty)],a7,.cells (x.enc.map .d)]:=by
 have p1:=bg2 ty x h0 h1;unfold pair at *
 suffices h:Pq A 258 [.ptr 9 0,.ptr 7 0] [a0,ax,a1,a2,a3,a4,a5,.cells [.d (ints ty)],a7,.cells (x.enc.map .d)] l9R λv H1=>v= .tuple [.d (Z (mY ty x).1),.d (Z (mY ty x).2)]/\H1=[a0,ax,a1,a2,a3,a4,a5,.cells [.d (ints ty)],a7,.cells (x.enc.map .d)] by
  obtain ⟨v,H1,⟨rfl,rfl⟩,h⟩:=h;exact h
 refine Pq.go 2 ?_;refine gc p1 ?_;exact ⟨_,_,rfl,rfl,rfl⟩
def jT (nm:List M6)(s:M6)(r:Int×Int):Int:=if !M5 s then 3 else if nm.any λy=>Q2 y s then 4 else if !A1 r.2 0 then r.2 else 0
def EG (nm:List M6)(s:M6)(r:Int×Int):List M6:=if A1 (jT nm s r) 0 then nm++[s] else nm
def EI (nm:List M6)(ty:List Int)(s:M6)(r:Int×Int):List Int:=if A1 (jT nm s r) 0 then ty++[r.1] else ty
set_option maxHeartbeats 8000000 in
def aB8 (f:FuncId)(hf1:A.prom f=F)(hf2:A.mode f=1)(a0 ax a1 a2 a3 a4 a5:B4)(ty:List Int)(nm:List M6)(tys:List Int)(cs:List B3.Data)(s:M6)(r:Int×Int)(hn:O nm<=10000)(ht:O tys<=10000)
  (hc:∀a7,Pm A f [.ptr 9 0,.ptr 7 0] [a0,ax,a1,a2,a3,a4,a5,.cells [.d (ints ty)],a7,.cells (cs.map .d)] l9R (pair r) [a0,ax,a1,a2,a3,a4,a5,.cells [.d (ints ty)],a7,.cells (cs.map .d)]) :
  Pm A 256 [.ptr 8 0,.d (.str s),.func f [] [.ptr 9 0,.ptr 7 0]] [a0,ax,a1,a2,a3,a4,a5,.cells [.d (ints ty)],.cells (Fg nm tys),.cells (cs.map .d)] l9 (.d (Z (jT nm s r)))
   [a0,ax,a1,a2,a3,a4,a5,.cells [.d (ints ty)],.cells (Fg (EG nm s r) (EI nm tys s r)),.cells (cs.map .d)]:=by
 have p1:=hc (.cells (Fg nm tys));have p2:=aB3 nm s V;unfold pair at p1
 suffices h:Pq A 256 [.ptr 8 0,.d (.str s),.func f [] [.ptr 9 0,.ptr 7 0]] [a0,ax,a1,a2,a3,a4,a5,.cells [.d (ints ty)],.cells (Fg nm tys),.cells (cs.map .d)] l9 λv H1=>v= .d (Z (jT nm s r))/\H1=[a0,ax,a1,a2,a3,a4,a5,.cells [.d (ints ty)],.cells (Fg (EG nm s r) (EI nm tys s r)),.cells (cs.map .d)] by
  obtain ⟨v,H1,⟨rfl,rfl⟩,h⟩:=h;exact h
 have same:∀e,jT nm s r=e->A1 e 0=F->EG nm s r=nm/\EI nm tys s r=tys:=λe h1 h2=>by unfold EG EI;rw [h1,h2];exact ⟨rfl,rfl⟩
 have hr1:roomFor (O nm+1) 16=W:=by simp only [roomFor,decide_eq_true_eq];omega
 have Va:roomFor (O tys+1) 8=W:=by simp only [roomFor,decide_eq_true_eq];omega
 refine Pq.go 3 ?_;refine gr ?_;refine tc (!M5 s) YQ (λh1=>?_) (λh1=>?_)
 .have e1:jT nm s r=3:=by unfold jT;rw [h1];rfl
  have e2:=same 3 e1 (by simp [p7]);refine gr ?_;exact ⟨_,_,rfl,by rw [e1];rfl,by rw [e2.1,e2.2];rfl⟩
 unfold Fg;refine gr ?_;refine tc (nm.any λy=>Q2 y s) p2 (λh2=>?_) (λh2=>?_)
 .have e1:jT nm s r=4:=by unfold jT;rw [h1,h2];rfl
  have e2:=same 4 e1 (by simp [p7]);refine gr ?_;exact ⟨_,_,rfl,by rw [e1];rfl,by rw [e2.1,e2.2];rfl⟩
 unfold Fg at p1
 repeat' (first|refine cv1 (mL:=hf1) (hm:=hf2) p1 rfl ?_|refine gx ?_|fail)
 refine tb (!A1 r.2 0) (λh3=>?_) (λh3=>?_)
 .have e1:jT nm s r=r.2:=by unfold jT;rw [h1,h2,h3];rfl
  have e2:=same _ e1 (by simpa using h3);refine gr ?_;exact ⟨_,_,rfl,by rw [e1];rfl,by rw [e2.1,e2.2];rfl⟩
 have e1:jT nm s r=0:=by unfold jT;rw [h1,h2,h3];rfl
 have e2:EG nm s r=nm++[s]:=by unfold EG;rw [e1];simp [p7]
 have e3:EI nm tys s r=tys++[r.1]:=by unfold EI;rw [e1];simp [p7]
 refine gr ?_;refine ac1 (a:=s) (xs:=nm) (enc:=encS) hr1 rfl (h2:=?_);refine gr ?_;refine ac1 (a:=r.1) (xs:=tys) (enc:=λn=>[Z n]) Va rfl (h2:=?_)
 repeat' (first|refine soO (h2:=?_)|refine gx ?_|fail)
 exact ⟨_,_,rfl,by rw [e1];rfl,by rw [e2,e3];rfl⟩
def Ex.aC9 {A:Go.B3.Prog}{l:H8}{b:Nat}{c:p6}{st:St}{R:E6->St->Prop}{go:St->Prop}(P:St->Prop)(h1:Ex A l b c st (xC R P))(h2:∀s,P s->go s):Ex A l b c st (xC R go):=by
 refine h1.mono λx s h=>?_
 cases x with
 |normal=>exact h2 s h
 |exit i=>exact h
 |ret=>exact h
def kO (v:Vw)(L R:List Int):Int :=
 if !A1 (S2 L R v.on) 0 then S2 L R v.on
 else if J2 0 (O v.wh)&& !A1 (O1 v.wh (L++R)).2 0 then (O1 v.wh (L++R)).2
 else if J2 0 (O v.wh)&& !A1 (O1 v.wh (L++R)).1 1 then 5
 else bz (L++R) [] (dP v)
def IS (ss:List gU)(v:Vw)(L R:List Int):List gU:=if A1 (kO v L R) 0 then ss++[(v.name,(dP v).map Ic.name,cL v (L++R))] else ss
def Ci {ty:List Int}{seen:List M6}{x:Wk}{r:List Ic}:bz ty seen (⟨F,x.name, -1,x.expr⟩::r)=if !A1 (jT seen x.name (O1 x.expr ty)) 0 then jT seen x.name (O1 x.expr ty) else bz ty (seen++[x.name]) r:=by
 have h3:A1 3 0=F:=by simp [p7]
 have h4:A1 4 0=F:=by simp [p7]
 have h0:A1 0 0=W:=by simp [p7]
 simp only [bz,jT,Bool.false_and,e8,if_false]
 rcases C9 (M5 x.name) with c1|c1
 .rcases C9 (seen.any λy=>Q2 y x.name) with c2|c2
  .simp only [c1,c2,Bool.not_true,e8,if_false,if_true,h4,Bool.not_false]
  .rcases C9 (A1 (O1 x.expr ty).2 0) with c3|c3
   .simp only [c1,c2,c3,Bool.not_true,e8,if_false,h0]
   .simp only [c1,c2,c3,Bool.not_true,Bool.not_false,e8,if_false,if_true]
 .simp only [c1,Bool.not_false,if_true,h3]
def ET {ty:List Int}{seen:List M6}{x:Ke}{r:List Ic}:bz ty seen (⟨W,x.name,x.func,x.expr⟩::r)=if !A1 (jT seen x.name (mY ty x)) 0 then jT seen x.name (mY ty x) else bz ty (seen++[x.name]) r:=by
 have h1:A1 1 0=F:=by simp [p7]
 have h3:A1 3 0=F:=by simp [p7]
 have h4:A1 4 0=F:=by simp [p7]
 have h6:A1 5 0=F:=by simp [p7]
 have h0:A1 0 0=W:=by simp [p7]
 simp only [bz,jT,Bool.true_and]
 rcases C9 (M5 x.name) with c1|c1
 .rcases C9 (seen.any λy=>Q2 y x.name) with c2|c2
  .simp only [c1,c2,Bool.not_true,e8,if_false,if_true,h4,Bool.not_false]
  .simp only [c1,c2,Bool.not_true,e8,if_false,mY]
   rcases C9 (A1 x.func 0) with f0|f0
   .have hw:s4 x.func 0 4=W:=by have:=aT f0;simp [s4,A7];omega
    rcases C9 (J2 0 (O x.expr)) with c5|c5
    .simp only [f0,hw,c5,Bool.not_true,Bool.and_self,Bool.or_true,if_true,h1,Bool.not_false]
    .simp only [f0,hw,c5,Bool.not_true,Bool.and_false,Bool.or_self,e8,if_false,if_true,h0]
   .rcases C9 (s4 x.func 0 4) with hw|hw
    .have hf:(A1 x.func 1||A1 x.func 2||A1 x.func 3||A1 x.func 4)=W:=by
      have:=qz f0;simp [s4,A7] at hw;simp [p7];omega
     simp only [f0,hw,hf,Bool.not_true,Bool.false_and,Bool.or_self,e8,if_false,if_true]
     rcases C9 (A1 (O1 x.expr ty).2 0) with c5|c5
     .rcases C9 (A1 x.func 1&& !A1 (O1 x.expr ty).1 1) with c6|c6
      .simp only [c5,c6,Bool.not_true,Bool.not_false,e8,if_false,if_true,h6]
      .simp only [c5,c6,Bool.not_true,e8,if_false,h0]
     .simp only [c5,Bool.not_false,if_true]
    .have hf:(A1 x.func 1||A1 x.func 2||A1 x.func 3||A1 x.func 4)=F:=by
      simp [s4,A7] at hw;simp [p7];omega
     simp only [f0,hw,hf,Bool.not_false,Bool.true_or,e8,if_false,if_true,h1]
 .simp only [c1,Bool.not_false,if_true,h3]
def aj9 {ty:List Int}{x:Ke}(h:A1 (mY ty x).2 0=W):(mY ty x).1=yC ty x:=by
 have h1:A1 1 0=F:=by simp [p7]
 have h6:A1 5 0=F:=by simp [p7]
 unfold mY at h ⊢;unfold yC;cases f0:A1 x.func 0 with
 |true =>
  rw [f0] at h;cases h5:J2 0 (O x.expr) with
  |true=>rw [h5] at h;simp [h1] at h
  |false=>simp
 |false =>
  rw [f0] at h;simp only [e8,if_false,Bool.false_or] at h ⊢;cases h2:(A1 x.func 1||A1 x.func 2||A1 x.func 3||A1 x.func 4) with
  |false=>rw [h2] at h;simp [h1] at h
  |true =>
   rw [h2] at h;simp only [if_true] at h ⊢;cases h3:A1 (O1 x.expr ty).2 0 with
   |false=>rw [h3] at h;simp [h3] at h
   |true =>
    rw [h3] at h;simp only [Bool.not_true,e8,if_false] at h ⊢;cases f1:A1 x.func 1 with
    |false=>simp
    |true =>
     rw [f1] at h;cases h4:A1 (O1 x.expr ty).1 1 with
     |false=>rw [h4] at h;simp [h6] at h
     |true=>simpa using aT h4
set_option maxHeartbeats 32000000 in
def bi1 [Inhabited XO] (c:s6)(ds:List M6)(ss:List gU)(v:Vw)(L R:List Int)(hL:O L<=5000)(hR:O R<=5000)(h0:O v.on<=1000)(h1:O v.wh<=1000)(h2:O v.items<=1000)(h3:O v.L7<=1000)(h4:∀i,i<O v.items->O (Y v.items i).expr<=1000)(h5:∀i,i<O v.L7->O (Y v.L7 i).expr<=1000)
  (hs:((ss.map (·.1)).any λy=>Q2 y v.name)=F) (hss:O ss<=1000):Pm A 221 [.ptr 5 0,vw v,.d (ints L),.d (ints R)] (HH c ds ss) lW (.d (Z (kO v L R))) (HH c ds (IS ss v L R)):=by
 suffices h:Pq A 221 [.ptr 5 0,vw v,.d (ints L),.d (ints R)] (HH c ds ss) lW λw H1=>w= .d (Z (kO v L R))/\H1=HH c ds (IS ss v L R) by
  obtain ⟨w,H1,⟨rfl,rfl⟩,h⟩:=h;exact h
 have same:∀e,kO v L R=e->A1 e 0=F->IS ss v L R=ss:=λe g1 g2=>by unfold IS;rw [g1,g2];rfl
 have YJ:=YT c ds ss v.name ((dP v).map Ic.name) (cL v (L++R)) hs hss;have bd7:=bg1 [L,R] U (by
  intro i hi
  match i,hi with
  |0,_=>rw [V8];omega
  |1,_=>rw [kU,V8];omega)
 have pW:=YR v.wh (L++R) h1 D;unfold pair at pW;have hfl:[L,R].flatten=L++R:=U
 rw [hfl] at bd7;have hTl:O (L++R)<=100000:=D
 unfold HH at *
 refine Pq.go 20 ?_;refine gr ?_;refine Ex.gX (λk T H=>∃(i:Nat),T=[.ptr 5 0,.any,.d (ints L),.d (ints R),.ptr 6 0,.any,.any,.any,.any,.any,.any,.any,.any,.any,.any,.d (B8 (λp=>[Z p.1,Z p.2]) v.on),.d (Z (O v.on)),.d (Z i),.any,.any,.any,.any,.any,.any]/\H=[xa,xo,.cells (c.enc.map .d),.map (dmap ds),.map (gH (ss.map (·.1)) 0),.cells (c.enc.map .d++[.map 3,.map 4,L1 2 aL ss]),.cells (v.enc.map .d)]/\i+k=O v.on/\S2 L R v.on=S2 L R (v.on.drop i)) ?_ (k:=O v.on) ⟨0,rfl,rfl,U,U⟩;rintro k _ _ ⟨i,rfl,rfl,hk,hi⟩;refine Ex.seq ?_;refine tb (J2 i (O v.on)) (λg1=>?_) (λg1=>?_)
 .have g2:=F5 g1
  rw [E3 V] at hi;refine gr ?_;refine tc (!s4 (Y v.on i).1 0 (O L - 1)|| !s4 (Y v.on i).2 0 (O R - 1)) qN (λg3=>?_) (λg3=>?_)
  .have e1:S2 L R v.on=3:=by rw [hi,S2,g3];rfl
   have e2:kO v L R=3:=by unfold kO;rw [e1];simp [p7]
   refine gr ?_;exact ⟨_,_,rfl,by rw [e2];rfl,by rw [same 3 e2 (by simp [p7])];rfl⟩
  have g4:=g3;simp [s4,A7] at g4;refine gr ?_;refine tb (!A1 (Y L (Y v.on i).1.toNat) (Y R (Y v.on i).2.toNat)) (λg5=>?_) (λg5=>?_)
  .have e1:S2 L R v.on=5:=by rw [hi,S2,g3,g5];rfl
   have e2:kO v L R=5:=by unfold kO;rw [e1];simp [p7]
   refine gr ?_;exact ⟨_,_,rfl,by rw [e2];rfl,by rw [same 5 e2 (by simp [p7])];rfl⟩
  .refine gr ?_
   exact kk ⟨_,_,rfl,i+1,rfl,rfl,V,by rw [hi,S2,g3,g5];rfl⟩
 have g2:=G7 g1;rw [o7 V] at hi;have e0:(!A1 (S2 L R v.on) 0)=F:=by rw [hi];simp [S2,p7]
 clear g1 g2 hk hi;refine gc bd7 ?_;refine Ex.aC9 (λs=>∃(w1 w2 w3 w5 w6 w8 w9 w10 Ww w12 w13 w14 w15 w16 w17 w18 w19 w20 w21 w22 w23:c7),s=⟨[.ptr 5 0,w1,w2,w3,.ptr 6 0,w5,w6,.ptr 7 0,w8,w9,w10,Ww,w12,w13,w14,w15,w16,w17,w18,w19,w20,w21,w22,w23],[xa,xo,.cells (c.enc.map .d),.map (dmap ds),.map (gH (ss.map (·.1)) 0),.cells (c.enc.map .d++[.map 3,.map 4,L1 2 aL ss]),.cells (v.enc.map .d),.cells [.d (ints (L++R))]]⟩/\kO v L R=bz (L++R) [] (dP v)) ?_ ?_
 .skip
  refine tb (J2 0 (O v.wh)) (λg6=>?_) (λg6=>?_)
  .refine gc pW ?_
   refine tb (!A1 (O1 v.wh (L++R)).2 0) (λg7=>?_) (λg7=>?_)
   .have e1:kO v L R=(O1 v.wh (L++R)).2:=by unfold kO;rw [e0,g6,g7];rfl
    refine gr ?_;exact ⟨_,_,rfl,by rw [e1];rfl,by rw [same _ e1 (by simpa using g7)];rfl⟩
   refine gr ?_;refine tb (!A1 (O1 v.wh (L++R)).1 1) (λg8=>?_) (λg8=>?_)
   .have e1:kO v L R=5:=by unfold kO;rw [e0,g6,g7,g8];rfl
    refine gr ?_;exact ⟨_,_,rfl,by rw [e1];rfl,by rw [same 5 e1 (by simp [p7])];rfl⟩
   .have e1:kO v L R=bz (L++R) [] (dP v):=by unfold kO;rw [e0,g6,g7,g8];rfl
    refine gr ?_;exact ⟨_,_,_,_,_,_,_,_,_,_,_,_,_,_,_,_,_,_,_,_,_,rfl,e1⟩
  .have e1:kO v L R=bz (L++R) [] (dP v):=by unfold kO;rw [e0,g6];rfl
   refine gr ?_;exact ⟨_,_,_,_,_,_,_,_,_,_,_,_,_,_,_,_,_,_,_,_,_,rfl,e1⟩
 rintro _ ⟨w1,w2,w3,w5,w6,w8,w9,w10,Ww,w12,w13,w14,w15,w16,w17,w18,w19,w20,w21,w22,w23,rfl,hin⟩;refine gr ?_;refine Ex.gX (λk T H=>∃(i:Nat) (nm:List M6) (tys:List Int),T=[.ptr 5 0,.any,.any,.any,.ptr 6 0,.any,.any,.ptr 7 0,.any,.any,.ptr 8 0,.any,.any,.any,.any,.any,.any,.any,.d (B8 Wk.enc v.items),.d (Z (O v.items)),.d (Z i),.any,.any,.any]/\H=[xa,xo,.cells (c.enc.map .d),.map (dmap ds),.map (gH (ss.map (·.1)) 0),.cells (c.enc.map .d++[.map 3,.map 4,L1 2 aL ss]),.cells (v.enc.map .d),.cells [.d (ints (L++R))],.cells (Fg nm tys)]/\i+k=O v.items/\nm=(v.items.take i).map Wk.name/\tys=(v.items.take i).map (λx=>(O1 x.expr (L++R)).1)/\kO v L R=bz (L++R) nm ((dP v).drop i)) ?_ (k:=O v.items) ⟨0,[],[],rfl,rfl,U,U,U,by simpa using hin⟩;rintro k _ _ ⟨i,nm,tys,rfl,rfl,hk,hnm,uQ,hi⟩;have hl1:O nm=i:=by rw [hnm];simp;omega
 have sC:O tys=i:=by rw [uQ];simp;omega
 refine Ex.seq ?_;refine tb (J2 i (O v.items)) (λg1=>?_) (λg1=>?_)
 .have g2:=F5 g1
  have hel:=nq v;rw [E3 V,xy v V,Ci] at hi;have aO5:=aB8 257 rfl rfl xa xo (.cells (c.enc.map .d)) (.map (dmap ds)) (.map (gH (ss.map (·.1)) 0)) (.cells (c.enc.map .d++[.map 3,.map 4,L1 2 aL ss])) (.cells (v.enc.map .d)) (L++R) nm tys (Y v.items i).enc (Y v.items i).name (O1 (Y v.items i).expr (L++R)) V V (λa7=>bi5 xa xo (.cells (c.enc.map .d)) (.map (dmap ds)) (.map (gH (ss.map (·.1)) 0)) (.cells (c.enc.map .d++[.map 3,.map 4,L1 2 aL ss])) (.cells (v.enc.map .d)) a7 (L++R) (Y v.items i) (h4 i V) hTl)
  repeat' (first|refine c0 aO5 rfl (h2:=?_)|refine gx ?_|fail)
  refine tb (!A1 (jT nm (Y v.items i).name (O1 (Y v.items i).expr (L++R))) 0) (λg3=>?_) (λg3=>?_)
  .rw [g3,if_pos rfl] at hi
   refine gr ?_;exact ⟨_,_,rfl,by rw [hi];rfl,by rw [same _ hi (by simpa using g3)];rfl⟩
  .rw [g3,if_neg U] at hi
   have e1:A1 (jT nm (Y v.items i).name (O1 (Y v.items i).expr (L++R))) 0=W:=by simpa using g3
   have e2:EG nm (Y v.items i).name (O1 (Y v.items i).expr (L++R))=nm++[(Y v.items i).name]:=by unfold EG;rw [e1];rfl
   have e3:EI nm tys (Y v.items i).name (O1 (Y v.items i).expr (L++R))=tys++[(O1 (Y v.items i).expr (L++R)).1]:=by unfold EI;rw [e1];rfl
   rw [e2,e3];refine gr ?_;exact kk ⟨_,_,rfl,i+1,nm++[(Y v.items i).name],tys++[(O1 (Y v.items i).expr (L++R)).1],rfl,rfl,V,by rw [N7 V,hnm];simp,by rw [N7 V,uQ];simp,hi⟩
 have g2:=G7 g1;rw [y6 V] at hnm uQ;have hie:i=O v.items:=V
 subst hie;clear g1 g2 hk;refine gr ?_;refine Ex.gX (λk T H=>∃(i:Nat) (RL:List M6) (JS:List Int),T=[.ptr 5 0,.any,.any,.any,.ptr 6 0,.any,.any,.ptr 7 0,.any,.any,.ptr 8 0,.any,.any,.any,.any,.any,.any,.any,.any,.any,.any,.d (B8 Ke.enc v.L7),.d (Z (O v.L7)),.d (Z i)]/\H=[xa,xo,.cells (c.enc.map .d),.map (dmap ds),.map (gH (ss.map (·.1)) 0),.cells (c.enc.map .d++[.map 3,.map 4,L1 2 aL ss]),.cells (v.enc.map .d),.cells [.d (ints (L++R))],.cells (Fg RL JS)]/\i+k=O v.L7/\RL=nm++(v.L7.take i).map Ke.name/\JS=tys++(v.L7.take i).map (yC (L++R))/\kO v L R=bz (L++R) RL ((dP v).drop (O v.items+i))) ?_ (k:=O v.L7) ⟨0,nm,tys,rfl,rfl,U,U,U,hi⟩;clear hi;rintro k _ _ ⟨i,RL,JS,rfl,rfl,hk,an3,Vc,hi⟩;have hl3:O RL=O v.items+i:=by rw [an3,s9,hl1];simp;omega
 have hl4:O JS=O v.items+i:=by rw [Vc,s9,sC];simp;omega
 refine Ex.seq ?_;have hel:=nq v;refine tl i (O v.L7) (λg2=>?_) (λg2=>?_)
 .rw [E3 V,Ch v V V,Nat.add_sub_cancel_left,ET] at hi
  have aO5:=aB8 258 rfl rfl xa xo (.cells (c.enc.map .d)) (.map (dmap ds)) (.map (gH (ss.map (·.1)) 0)) (.cells (c.enc.map .d++[.map 3,.map 4,L1 2 aL ss])) (.cells (v.enc.map .d)) (L++R) RL JS (Y v.L7 i).enc (Y v.L7 i).name (mY (L++R) (Y v.L7 i)) V V (λa7=>bi6 xa xo (.cells (c.enc.map .d)) (.map (dmap ds)) (.map (gH (ss.map (·.1)) 0)) (.cells (c.enc.map .d++[.map 3,.map 4,L1 2 aL ss])) (.cells (v.enc.map .d)) a7 (L++R) (Y v.L7 i) (h5 i V) hTl)
  repeat' (first|refine c0 aO5 rfl (h2:=?_)|refine gx ?_|fail)
  refine tb (!A1 (jT RL (Y v.L7 i).name (mY (L++R) (Y v.L7 i))) 0) (λg3=>?_) (λg3=>?_)
  .rw [g3,if_pos rfl] at hi
   refine gr ?_;exact ⟨_,_,rfl,by rw [hi];rfl,by rw [same _ hi (by simpa using g3)];rfl⟩
  .rw [g3,if_neg U] at hi
   have e1:A1 (jT RL (Y v.L7 i).name (mY (L++R) (Y v.L7 i))) 0=W:=by simpa using g3
   have e2:EG RL (Y v.L7 i).name (mY (L++R) (Y v.L7 i))=RL++[(Y v.L7 i).name]:=by unfold EG;rw [e1];rfl
   have e3:EI RL JS (Y v.L7 i).name (mY (L++R) (Y v.L7 i))=JS++[(mY (L++R) (Y v.L7 i)).1]:=by unfold EI;rw [e1];rfl
   have e4:A1 (mY (L++R) (Y v.L7 i)).2 0=W:=by
    have e5:=aT e1;unfold jT at e5;cases c1:(!M5 (Y v.L7 i).name) with
    |true=>rw [c1] at e5;simp at e5
    |false =>
     rw [c1] at e5;cases c2:RL.any λy=>Q2 y (Y v.L7 i).name with
     |true=>rw [c2] at e5;simp at e5
     |false =>
      rw [c2] at e5;cases c3:A1 (mY (L++R) (Y v.L7 i)).2 0 with
      |true=>rfl
      |false=>rw [c3] at e5;simp at e5;rw [e5] at c3;simp [p7] at c3
   rw [e2,e3];refine gr ?_;exact kk ⟨_,_,rfl,i+1,RL++[(Y v.L7 i).name],JS++[(mY (L++R) (Y v.L7 i)).1],rfl,rfl,V,by rw [N7 V,an3];simp,by rw [N7 V,Vc,aj9 e4];simp,hi⟩
 .rw [y6 V] at an3 Vc
  rw [o7 V] at hi;have e1:kO v L R=0:=hi;have e2:IS ss v L R=ss++[(v.name,(dP v).map Ic.name,cL v (L++R))]:=by unfold IS;rw [e1];simp [p7]
  have e3:RL=(dP v).map Ic.name:=by rw [an3,hnm];simp [dP,Function.comp_def]
  have e4:JS=cL v (L++R):=by rw [Vc,uQ];rfl
  rw [e2,e3,e4];refine gr ?_;unfold Fg
  repeat' (first|refine c0 YJ rfl (h2:=?_)|refine gx ?_|fail)
  exact ⟨_,_,rfl,by rw [e1];rfl,rfl⟩
def Ex.nH {A:Go.B3.Prog}{l:H8}{b:Nat}{c:p6}{T:List c7}{H:n9}{Q:E6->St->Prop}(H2:n9)(hH:H=H2)(h:Ex A l b c ⟨T,H2⟩ Q):Ex A l b c ⟨T,H⟩ Q:=hH ▸ h
def Rn.z {A:Go.B3.Prog}{l:H8}{b:Nat}{ops:List o4}{Q:List c7->n9->List c7->Prop}{T:List c7}{H:n9}(s na:Nat)(H' :n9)(Ka:Z2 ops=[.dead])(ED:slotsOf ops=[.slot s])(hu:∀i,i∈ops->∀e,e∈i.dm->e<O ops)(hH:H++[.dead]=H')(hna:O H=na)(h:Rz A l b ops ops T H' 0 [] [.slot s] na Q):Rn A l b ops W T H Q:=by
 subst hH hna;exact Rn.bL3 Ka ED hu h
def lpA {A:Go.B3.Prog}{l:H8}{b:Nat}{dr:Bool}{j9 ops:List o4}{T:List c7}{H:n9}{n:Nat}{rl:List c7}{o5:List B3.Touch}{Q:List c7->n9->List c7->Prop}{x:z6}{u:List Nat}{id o:Nat}{w v:c7}(hv:w.F4=v)(h2:Ry A l b dr j9 ops T H (n+1) (v::rl) o5 Q)(hx:rq T n rl x= .ptr id o:=by rfl)(hr:rd H id o 1=J [w]:=by rfl) :
  Ry A l b dr j9 (⟨.load K x,K,K,u⟩::ops) T H n rl o5 Q:=Ry.pure (rs:=[id]) rfl (by simp only [l8,hx,hr,hv]) h2
def bK (ss:List gU)(s:M6):gU:=Y ss (K6 s (ss.map (·.1)) 0).toNat
def Kc (ss:List gU)(v:Vw):gU:=if Q2 v.right [] then ([],[],[]) else bK ss v.right
def fQ (ss:List gU)(ds:List M6)(v:Vw):Int :=
 if !A1 (R7 ds v.name) 0 then R7 ds v.name
 else if !A1 v.kind 0&& !A1 v.kind 1&& !A1 v.kind 2 then 1
 else if J2 (K6 v.left (ss.map (·.1)) 0) 0||(!Q2 v.right []&&J2 (K6 v.right (ss.map (·.1)) 0) 0) then 7
 else if !mQ v then 1
 else if A1 v.kind 2 then (if !gK A1 (bK ss v.left).2.2 (Kc ss v).2.2 then 5 else 0)
 else kO v (bK ss v.left).2.2 (Kc ss v).2.2
def tK (ss:List gU)(ds:List M6)(v:Vw):List gU :=
 if A1 (fQ ss ds v) 0 then (if A1 v.kind 2 then ss++[(v.name,(bK ss v.left).2.1,(bK ss v.left).2.2)] else ss++[(v.name,(dP v).map Ic.name,cL v ((bK ss v.left).2.2++(Kc ss v).2.2))]) else ss
set_option maxHeartbeats 32000000 in
def bP3 [Inhabited XO] (c:s6)(ds:List M6)(ss:List gU)(i:Nat)(hi:i<O c.views)(h0:O (Y c.views i).on<=1000)(h1:O (Y c.views i).wh<=1000)(h2:O (Y c.views i).items<=1000)(h3:O (Y c.views i).L7<=1000)(h4:∀j,j<O (Y c.views i).items->O (Y (Y c.views i).items j).expr<=1000)(h5:∀j,j<O (Y c.views i).L7->O (Y (Y c.views i).L7 j).expr<=1000)
  (hss:O ss<=1000) (ht:∀k,k<O ss->0<O (Y ss k).2.1/\O (Y ss k).2.1<=5000/\0<O (Y ss k).2.2/\O (Y ss k).2.2<=5000) (hsub:∀s,(ds.any λy=>Q2 y s)=F->((ss.map (·.1)).any λy=>Q2 y s)=F) :
  Pm A 150 [.ptr 5 0,.d (Z i)] (HH c ds ss) lW (.d (Z (fQ ss ds (Y c.views i)))) (HH c (P9 ds (Y c.views i).name) (tK ss ds (Y c.views i))):=by
 generalize hx:Y c.views i=v at *
 have uF:=zk c ds ss v.name;have pL:=Vz c (P9 ds v.name) ss v.left;have pR:=Vz c (P9 ds v.name) ss v.right;have bL:=CA ss v.left;have bR:=CA ss v.right;have bL7:=bf0 v h2 h3;have hno:R7 ds v.name=0->((ss.map (·.1)).any λy=>Q2 y v.name)=F:=λh=>by
  refine hsub _ ?_;unfold R7 at h;cases c1:(!M5 v.name) with
  |true=>rw [c1] at h;simp at h
  |false =>
   rw [c1] at h;cases c2:ds.any λy=>Q2 y v.name with
   |false=>rfl
   |true=>rw [c2] at h;simp at h
 suffices h:Pq A 150 [.ptr 5 0,.d (Z i)] (HH c ds ss) lW λw H1=>w= .d (Z (fQ ss ds v))/\H1=HH c (P9 ds v.name) (tK ss ds v) by
  obtain ⟨w,H1,⟨rfl,rfl⟩,h⟩:=h;exact h
 have same:∀e,fQ ss ds v=e->A1 e 0=F->tK ss ds v=ss:=λe g1 g2=>by unfold tK;rw [g1,g2];rfl
 have aM8:∀L R:List Int,O L<=5000->O R<=5000->R7 ds v.name=0->Pm A 221 [.ptr 5 0,vw v,.d (ints L),.d (ints R)] (HH c (P9 ds v.name) ss) lW (.d (Z (kO v L R))) (HH c (P9 ds v.name) (IS ss v L R)):=λL R hL hR hd=>bi1 c (P9 ds v.name) ss v L R hL hR h0 h1 h2 h3 h4 h5 (hno hd) hss
 have YJ:∀nm ty,R7 ds v.name=0->Pm A 212 [.ptr 5 0,.d (.str v.name),QL nm ty] (HH c (P9 ds v.name) ss) lW (.tuple []) (HH c (P9 ds v.name) (ss++[(v.name,nm,ty)])):=λnm ty hd=>YT c (P9 ds v.name) ss v.name nm ty (hno hd) hss
 unfold HH at *
 refine Pq.go 5 ?_;refine gr ?_;rw [hx]
 repeat' (first|refine c0 uF rfl (h2:=?_)|refine gx ?_|fail)
 refine tb (!A1 (R7 ds v.name) 0) (λg1=>?_) (λg1=>?_)
 .have e1:fQ ss ds v=R7 ds v.name:=by unfold fQ;rw [g1];rfl
  refine gr ?_;exact ⟨_,_,rfl,by rw [e1];rfl,by rw [same _ e1 (by simpa using g1)];rfl⟩
 have hd0:R7 ds v.name=0:=aT (by simpa using g1);refine gr ?_;refine tb (!A1 v.kind 0&& !A1 v.kind 1&& !A1 v.kind 2) (λg2=>?_) (λg2=>?_)
 .have e1:fQ ss ds v=1:=by unfold fQ;rw [g1,g2];rfl
  refine gr ?_;exact ⟨_,_,rfl,by rw [e1];rfl,by rw [same 1 e1 (by simp [p7])];rfl⟩
 refine gr ?_;refine tB (J2 (K6 v.left (ss.map (·.1)) 0) 0||(!Q2 v.right []&&J2 (K6 v.right (ss.map (·.1)) 0) 0)) ?_ (λg3=>?_) (λg3=>?_)
 .repeat' (first|refine c1 pL rfl ?_|refine c1 pR rfl ?_|refine gx ?_|refine fq (λhw=>?_) λhw=>?_|refine ⟨rfl,rfl,_,rfl,?_⟩|refine ⟨rfl,rfl⟩|fail)
  all_goals exact cc
 .have e1:fQ ss ds v=7:=by unfold fQ;rw [g1,g2,g3];rfl
  refine gr ?_;exact ⟨_,_,rfl,by rw [e1];rfl,by rw [same 7 e1 (by simp [p7])];rfl⟩
 have g3' :=g3;simp only [E5] at g3';have f1:=G7 g3'.1;have f2:Q2 v.right []=F->0<=K6 v.right (ss.map (·.1)) 0:=λh=>by
  have:=g3'.2;simp only [h,Bool.not_false,Bool.true_and] at this;exact G7 this
 have htL:=ht (K6 v.left (ss.map (·.1)) 0).toNat V;have hsL:Y ss (K6 v.left (ss.map (·.1)) 0).toNat=bK ss v.left:=rfl;rw [hsL] at htL;refine gr ?_;refine tc (!mQ v) bL7 (λg4=>?_) (λg4=>?_)
 .have e1:fQ ss ds v=1:=by unfold fQ;rw [g1,g2,g3,g4];rfl
  refine gr ?_;exact ⟨_,_,rfl,by rw [e1];rfl,by rw [same 1 e1 (by simp [p7])];rfl⟩
 refine gr ?_;refine Ex.nH [xa,xo,.cells (c.enc.map .d),.map (dmap (P9 ds v.name)),.map (gH (ss.map (·.1)) 0),.cells (c.enc.map .d++[.map 3,.map 4,L1 2 aL ss]),.cells (v.enc.map .d)] rfl ?_;refine Ex.region (Rn.z 5 7 [xa,xo,.cells (c.enc.map .d),.map (dmap (P9 ds v.name)),.map (gH (ss.map (·.1)) 0),.cells (c.enc.map .d++[.map 3,.map 4,L1 2 aL ss]),.cells (v.enc.map .d),.dead] rfl rfl (by decide) rfl rfl ?_);refine zm ?_;refine zp (rs:=[]) (.ptr 5 0) rfl ?_;refine zp (rs:=[]) (.ptr 5 10) rfl ?_;refine zp (rs:=[5]) (.d (B8 aL ss)) rfl ?_;refine zm ?_;refine zp (rs:=[]) (.ptr 6 2) rfl ?_;refine zp (rs:=[6]) (.d (.str v.left)) rfl ?_;refine zc pL rfl ?_ (hmn:=l5 rfl);refine zix (xs:=ss) (enc:=aL) (e:=K6 v.left (ss.map (·.1)) 0) V ?_;refine zle ?_;rw [hsL];refine za (h2:=?_);refine zs (h2:=?_);refine zn ?_;refine gr ?_;refine Ex.aC9 (λs=>∃(w0 w1 w2 w4 wa wb:c7),s=⟨[.ptr 5 0,w1,w2,.ptr 6 0,w4,.ptr 7 0,.ptr 8 0],[xa,xo,.cells (c.enc.map .d),.map (dmap (P9 ds v.name)),.map (gH (ss.map (·.1)) 0),.cells (c.enc.map .d++[.map 3,.map 4,L1 2 aL ss]),.cells (v.enc.map .d),.cells ((aL (bK ss v.left)).map .d),.cells [wa,wb]]⟩/\wa.F4= .d (B8 encS (Kc ss v).2.1)/\wb.F4= .d (ints (Kc ss v).2.2)/\O (Kc ss v).2.2<=5000) ?_ ?_
 .skip
  refine tb (!Q2 v.right []) (λg6=>?_) (λg6=>?_)
  .simp only [o8] at g6
   have f3:=f2 g6;have htR:=ht (K6 v.right (ss.map (·.1)) 0).toNat V;have hsR:Y ss (K6 v.right (ss.map (·.1)) 0).toNat=Kc ss v:=by unfold Kc;rw [g6];rfl
   rw [hsR] at htR
   repeat' (first|refine c1 pR rfl ?_|refine soD (h2:=?_)|refine gx ?_|fail)
   rw [hsR];exact ⟨.any,_,_,_,_,_,rfl,rfl,rfl,V⟩
  .simp only [D5] at g6
   have hsR:Kc ss v=([],[],[]):=by unfold Kc;rw [g6];rfl
   refine gr ?_;exact ⟨.any,_,_,_,_,_,rfl,by rw [hsR];rfl,by rw [hsR];rfl,by rw [hsR];simp⟩
 rintro _ ⟨w0,w1,w2,w4,wa,wb,rfl,ha,hb,hrl⟩;have bQ9:=bf1 (bK ss v.left).2.2 (Kc ss v).2.2 V;have Ze:=bf2 (bK ss v.left).2.1 V V;have bR0:=bf3 (bK ss v.left).2.2 V V;have aO4:=YJ (bK ss v.left).2.1 (bK ss v.left).2.2 hd0;have bR1:=aM8 (bK ss v.left).2.2 (Kc ss v).2.2 V hrl hd0;refine gr ?_;refine tb (A1 v.kind 2) (λg7=>?_) (λg7=>?_)
 .refine gr ?_
  refine tB (!gK A1 (bK ss v.left).2.2 (Kc ss v).2.2) ?_ (λg8=>?_) (λg8=>?_)
  .repeat' (first|refine lpA hb ?_|refine cl (bQ9) ?_|refine gx ?_|refine fq (λhw=>?_) λhw=>?_|refine ⟨rfl,rfl,_,rfl,?_⟩|refine ⟨rfl,rfl⟩|fail)
   all_goals exact cc
  .have e1:fQ ss ds v=5:=by unfold fQ;rw [g1,g2,g3,g4,g7,g8];rfl
   refine gr ?_;exact ⟨_,_,rfl,by rw [e1];rfl,by rw [same 5 e1 (by simp [p7])];rfl⟩
  have e1:fQ ss ds v=0:=by unfold fQ;rw [g1,g2,g3,g4,g7,g8];rfl
  have e2:tK ss ds v=ss++[(v.name,(bK ss v.left).2.1,(bK ss v.left).2.2)]:=by unfold tK;rw [e1,g7];simp [p7]
  rw [e2]
  repeat' (first|refine cl (Ze) ?_|refine cl (bR0) ?_|refine c0 aO4 rfl (h2:=?_)|refine gx ?_|fail)
  exact ⟨_,_,rfl,by rw [e1];rfl,rfl⟩
 .have e1:fQ ss ds v=kO v (bK ss v.left).2.2 (Kc ss v).2.2:=by unfold fQ;rw [g1,g2,g3,g4,g7];rfl
  have e2:tK ss ds v=IS ss v (bK ss v.left).2.2 (Kc ss v).2.2:=by unfold tK IS;rw [e1,g7];rfl
  rw [e2]
  repeat' (first|refine lpA hb ?_|refine c0 bR1 rfl (h2:=?_)|refine gx ?_|fail)
  exact ⟨_,_,rfl,by rw [e1];rfl,rfl⟩
def cnt (c:s6):Nat->Nat
 |0=>O c.k9
 |1=>O c.views
 |2=>O c.idxs
 |3=>O c.M7
 |4=>O c.O0
 |5=>O c.R1
 |6=>O c.S8
 |_=>O c.W6
def Ov:Nat->Nat
 |0=>8
 |1=>12
 |_=>16
def fid (q:Nat):FuncId:=149+q
def bg (c:s6):Nat->Nat
 |0=>0
 |q+1=>bg c q+cnt c q
def cV (c:s6)(q:Nat):List c7:=[.d (Z (cnt c q)),.d (Z (Ov q)),.func (fid q) [.ptr 5 0] []]
def jB (c:s6):List c7:=cV c 0++cV c 1++cV c 2++cV c 3++cV c 4++cV c 5++cV c 6++cV c 7
def Lt (c:s6)(q:Nat)(h:q<8)(H:n9)(hH:H[6]? =J (.cells (jB c))):rd H 6 (0+q * 3) 3=J (cV c q):=by
 simp only [rd,hH]
 match q,h with
 |0,_=>rfl
 |1,_=>rfl
 |2,_=>rfl
 |3,_=>rfl
 |4,_=>rfl
 |5,_=>rfl
 |6,_=>rfl
 |7,_=>rfl
def xk (l:List c7):(B4.cells l).K9=C0 l:=rfl
def Io (es:List (Key×c7)):(B4.map es).K9=C0 (es.map (·.2)):=rfl
def WB [Inhabited XO] (c:s6)(ds:List M6)(ss:List gU):Q5 (HH c ds ss)<=6:=by
 have h1:=vp ds;have h2:=vJ (ss.map (·.1)) 0;have ha:=(default:XO).ha;have hb:=(default:XO).hb;have e1:C0 (c.enc.map c7.d)=0:=rfl;have e2:C0 (c.enc.map c7.d++[.map 3,.map 4,L1 2 aL ss])=5:=rfl;simp only [HH,Q5,xa,xo,ha,hb,xk,Io,h1,h2,e1,e2]
 decide
def Qy [Inhabited XO] (c:s6)(ds:List M6)(ss:List gU):cU (HH c ds ss) 0=W:=by
 have h1:=vp ds;have h2:=vJ (ss.map (·.1)) 0;have ha:=(default:XO).ha;have hb:=(default:XO).hb;have e1:C0 (c.enc.map c7.d)=0:=rfl;have e2:C0 (c.enc.map c7.d++[.map 3,.map 4,L1 2 aL ss])=5:=rfl;simp only [HH,cU,xa,xo,ha,hb,xk,Io,h1,h2,e1,e2]
 decide
def Sg {H:n9}(h:cU ((H.take 6).drop 0) 0=W):I7 H 0 6=6:=by
 unfold I7;rw [if_neg (by decide),if_pos h]
def Xq {q:Nat}(h:q<8):A.prom (fid q)=F/\A.mode (fid q)=0:=by
 match q,h with
 |0,_=>exact ⟨rfl,rfl⟩
 |1,_=>exact ⟨rfl,rfl⟩
 |2,_=>exact ⟨rfl,rfl⟩
 |3,_=>exact ⟨rfl,rfl⟩
 |4,_=>exact ⟨rfl,rfl⟩
 |5,_=>exact ⟨rfl,rfl⟩
 |6,_=>exact ⟨rfl,rfl⟩
 |7,_=>exact ⟨rfl,rfl⟩
def LN (c:s6):bg c 8=O c.names:=by simp [bg,cnt,s6.names];omega
def ar2 (c:s6){q:Nat}(h:q<8):bg c q+cnt c q<=O c.names:=by
 rw [<- LN]
 match q,h with
 |0,_=>simp only [bg];omega
 |1,_=>simp only [bg];omega
 |2,_=>simp only [bg];omega
 |3,_=>simp only [bg];omega
 |4,_=>simp only [bg];omega
 |5,_=>simp only [bg];omega
 |6,_=>simp only [bg];omega
 |7,_=>simp only [bg];omega
def ap2 {c:s6}{q:Nat}(h:q<8)(h2:J2 (Ov q) (cnt c q)=W):tooMany c=W:=by
 unfold tooMany Gc
 match q,h with
 |0,_=>simp only [Ov,cnt] at h2;simp [show J2 8 (O c.k9)=W from h2]
 |1,_=>simp only [Ov,cnt] at h2;simp [show J2 12 (O c.views)=W from h2]
 |2,_=>simp only [Ov,cnt] at h2;simp [show J2 16 (O c.idxs)=W from h2]
 |3,_=>simp only [Ov,cnt] at h2;simp [show J2 16 (O c.M7)=W from h2]
 |4,_=>simp only [Ov,cnt] at h2;simp [show J2 16 (O c.O0)=W from h2]
 |5,_=>simp only [Ov,cnt] at h2;simp [show J2 16 (O c.R1)=W from h2]
 |6,_=>simp only [Ov,cnt] at h2;simp [show J2 16 (O c.S8)=W from h2]
 |7,_=>simp only [Ov,cnt] at h2;simp [show J2 16 (O c.W6)=W from h2]
def aH8 {c:s6}(h:∀p,p<8->cnt c p<=Ov p):tooMany c=F:=by
 have h0:=h 0 V;have h1:=h 1 V;have h2:=h 2 V;have h3:=h 3 V;have h4:=h 4 V;have h5:=h 5 V;have h6:=h 6 V;have h7:=h 7 V;simp only [cnt,Ov] at h0 h1 h2 h3 h4 h5 h6 h7;simp only [tooMany,Gc,A5,E5,decide_eq_false_iff_not];omega
def Qz [Inhabited XO] (c:s6)(ds:List M6)(ss:List gU):Q5 (HH c ds ss++[.cells (jB c)])<=7:=by
 have h1:=vp ds;have h2:=vJ (ss.map (·.1)) 0;have ha:=(default:XO).ha;have hb:=(default:XO).hb;have e1:C0 (c.enc.map c7.d)=0:=rfl;have e2:C0 (c.enc.map c7.d++[.map 3,.map 4,L1 2 aL ss])=5:=rfl;have e3:C0 (jB c)=6:=rfl;simp only [HH,G9,J7,Q5,xa,xo,ha,hb,xk,Io,h1,h2,e1,e2,e3]
 decide
def Ls (c:s6)(q:Nat):C0 (cV c q)<=7+1:=by
 exact l5 rfl
def AZ [Inhabited XO] (c:s6)(fds:List M6)(fss:List gU)(v:c7)(H1:n9):Prop :=
 (∃R,H1=xa::xo::R)/\(A1 (Y8 c).2 0=F->v= .tuple [.d .cZ,.d (Z (Y8 c).1),.d (Z (Y8 c).2)]) /\
  (A1 (Y8 c).2 0=W->v= .tuple [.ptr 5 0,.d (Z 0),.d (Z 0)]/\H1=HH c fds fss++[.cells (jB c)])
def aH2 [Inhabited XO] {c:s6}{fds:List M6}{fss:List gU}{v:c7}{H1:n9}(h:AZ c fds fss v H1):2<=O H1:=by
 obtain ⟨⟨R,rfl⟩,_⟩:=h;simp
set_option maxHeartbeats 32000000 in
def bQ2 [Inhabited XO] (c:s6)(hf:c.lH)(ST:Nat->List M6->List gU->Prop)(bE9:ST 0 [] [])(hST:∀g ds ss ds' ss',ST g ds ss->ST g ds' ss' ->ds=ds' /\ss=ss')(fds:List M6)(fss:List gU)(bF0:∀ds ss,ST (O c.names) ds ss->ds=fds/\ss=fss)
  (hstep:∀q i ds ss,q<8->i<cnt c q->tooMany c=F->mO c (bg c q+i)->ST (bg c q+i) ds ss->∃dz sz,(Q4 c (bg c q+i)=0->ST (bg c q+i+1) dz sz)/\Pm A (fid q) [.ptr 5 0,.d (Z i)] (HH c ds ss) lW (.d (Z (Q4 c (bg c q+i)))) (HH c dz sz)) :
  Pq A 101 [cat c] [xa,xo] Q9 (AZ c fds fss):=by
 obtain ⟨f0,f1,f2,f3,f4,f5,f6,f7⟩:=id hf;have hcn:∀q,cnt c q<=1000:=λq=>by unfold cnt;split<;>assumption
 have hlm:∀q,Ov q<=16:=λq=>by unfold Ov;split<;>omega
 refine Pq.go 19 ?_
 repeat' (first|refine mk (h2:=?_)|refine Wl (cs:=c.enc.map .d++[.map 3,.map 4,L1 2 aL []]) ?_|refine Wl (cs:=cV c 0) ?_|refine Wl (cs:=cV c 1) ?_|refine Wl (cs:=cV c 2) ?_|refine Wl (cs:=cV c 3) ?_|refine Wl (cs:=cV c 4) ?_|refine Wl (cs:=cV c 5) ?_|refine Wl (cs:=cV c 6) ?_|refine Wl (cs:=cV c 7) ?_|refine gx ?_|fail)
 refine bso (jB c) rfl ⟨by decide,rfl⟩ (h2:=?_)
 repeat' (first|refine lrT (h2:=?_)|refine gx ?_|fail)
 refine Ex.gX (λk T H=>∃(q:Nat),T=[.any,.any,.any,.any,.any,.ptr 5 0,.s5 6 3 0 8,.any,.any,.any,.any,.any,.s5 6 3 0 8,.d (Z (8:Nat)),.d (Z q),.any,.any,.any,.any,.any]/\H=[xa,xo,.cells (c.enc.map .d),.map [],.map [],.cells (c.enc.map .d++[.map 3,.map 4,L1 2 aL []]),.cells (jB c)]/\q+k=8/\∀p,p<q->cnt c p<=Ov p) ?_ (k:=8) ⟨0,rfl,rfl,U,λp h=>absurd h V⟩;rintro k _ _ ⟨q,rfl,rfl,hk,hq⟩;have b1:=hcn q;have b2:=hlm q;have hbk:=Ls c q;refine Ex.seq ?_;refine tb (J2 q (8:Nat)) (λg1=>?_) (λg1=>?_)
 .have g2:=F5 g1
  have hq8:q<8:=V
  have hka:=Lt c q hq8 ([xa,xo,.cells (c.enc.map .d),.map [],.map [],.cells (c.enc.map .d++[.map 3,.map 4,L1 2 aL []]),.cells (jB c)]) rfl
  repeat' (first|refine ixs (i:=q) (len:=8) hq8 ?_|refine Vk hka rfl ?_|refine soB (cs:=cV c q) (id:=7) hbk (h2:=?_)|refine gx ?_|fail)
  refine tb (J2 (Ov q) (cnt c q)) (λg3=>?_) (λg3=>?_)
  .have ht:=ap2 hq8 g3
   have e1:Y8 c=(0,8):=by unfold Y8;rw [ht];rfl
   refine gr ?_;exact ⟨_,_,rfl,⟨_,rfl⟩,λ_=>by rw [e1];rfl,λh=>by rw [e1] at h;simp [p7] at h⟩
  .have g4:=G7 g3
   refine gr ?_;exact kk ⟨_,_,ah (l5 rfl) (Qz c [] []),q+1,rfl,rfl,V,λp hp=>by
    rcases x9 p q with h|h
    .exact hq p h
    .obtain rfl:p=q:=V
     omega⟩
 have g2:=G7 g1;have Ro:=aH8 (c:=c) (λp hp=>hq p V);clear g1 g2 hk hq b1 b2 hbk
 repeat' (first|refine lrT (h2:=?_)|refine gx ?_|fail)
 refine Ex.gX (λk T H=>∃(q g:Nat) (ds:List M6) (ss:List gU),T=[.any,.any,.any,.any,.any,.ptr 5 0,.any,.any,.d (Z g),.any,.any,.any,.any,.any,.any,.s5 6 3 0 8,.d (Z (8:Nat)),.d (Z q),.any,.any]/\H=[xa,xo,.cells (c.enc.map .d),.map (dmap ds),.map (gH (ss.map (·.1)) 0),.cells (c.enc.map .d++[.map 3,.map 4,L1 2 aL ss]),.cells (jB c)]/\q+k=8/\g=bg c q/\ST g ds ss/\mO c g/\Y8 c=iW c (O c.names - g) g) ?_ (k:=8) ⟨0,0,[],[],rfl,rfl,U,rfl,bE9,λm h=>absurd h V,by unfold Y8;rw [Ro];rfl⟩;rintro k _ _ ⟨q,g,ds,ss,rfl,rfl,hk,hg,hst,hok,hch⟩;have b1:=hcn q;have hbk:=Ls c q;refine Ex.seq ?_;refine tb (J2 q (8:Nat)) (λg1=>?_) (λg1=>?_)
 .have g2:=F5 g1
  have hq8:q<8:=V
  have hka:=Lt c q hq8 ([xa,xo,.cells (c.enc.map .d),.map (dmap ds),.map (gH (ss.map (·.1)) 0),.cells (c.enc.map .d++[.map 3,.map 4,L1 2 aL ss]),.cells (jB c)]) rfl
  repeat' (first|refine ixs (i:=q) (len:=8) hq8 ?_|refine Vk hka rfl ?_|refine soB (cs:=cV c q) (id:=7) hbk (h2:=?_)|refine gx ?_|fail)
  refine Ex.jH (λk T H=>∃(i g:Nat) (ds:List M6) (ss:List gU) (w0 w1 w2 w3 w4 w6 w7 w10 Ww w12 w13 w14:c7),T=[w0,w1,w2,w3,w4,.ptr 5 0,w6,w7,.d (Z g),.ptr 7 0,w10,Ww,w12,w13,w14,.s5 6 3 0 8,.d (Z (8:Nat)),.d (Z q),.d (Z (cnt c q)),.d (Z i)]/\H=[xa,xo,.cells (c.enc.map .d),.map (dmap ds),.map (gH (ss.map (·.1)) 0),.cells (c.enc.map .d++[.map 3,.map 4,L1 2 aL ss]),.cells (jB c),.cells (cV c q)]/\i+k=cnt c q/\g=bg c q+i/\ST g ds ss/\mO c g/\Y8 c=iW c (O c.names - g) g) ?_ (k:=cnt c q) ⟨0,g,ds,ss,_,_,_,_,_,_,_,_,_,_,_,_,rfl,rfl,U,V,hst,hok,hch⟩;clear hst hok hch hka;rintro k2 _ _ ⟨i,g,ds,ss,w0,w1,w2,w3,w4,w6,w7,w10,Ww,w12,w13,w14,rfl,rfl,hk2,hg2,hst,hok,hch⟩;have hol:=ar2 c hq8;have hnl:O c.names<=8000:=by simp [s6.names];omega
  refine Ex.nT ?_;refine Ex.seq ?_;refine tl i (cnt c q) (λg4=>?_) (λg4=>?_)
  .have hb5:=WB c ds ss
   have hd5:=Qy c ds ss;subst hg2;obtain ⟨dz,sz,hz,hpm⟩:=hstep q i ds ss hq8 V Ro hok hst;unfold HH at hpm hb5 hd5;obtain ⟨N,hN⟩:∃N,O c.names - (bg c q+i)=N+1:=⟨O c.names - (bg c q+i) - 1,V⟩;rw [hN,iW] at hch;have hfp:=Xq hq8;refine gr ?_;have hs5:I7 ([xa,xo,.cells (c.enc.map .d),.map (dmap ds),.map (gH (ss.map (·.1)) 0),.cells (c.enc.map c7.d++[.map 3,.map 4,L1 2 aL ss]),.cells (jB c),.cells (cV c q)]) 0 6=6:=Sg (H:=[xa,xo,.cells (c.enc.map .d),.map (dmap ds),.map (gH (ss.map (·.1)) 0),.cells (c.enc.map c7.d++[.map 3,.map 4,L1 2 aL ss]),.cells (jB c),.cells (cV c q)]) hd5;refine cv0 (mL:=hfp.1) (hm:=hfp.2) hpm rfl hb5 (mZ hb5) rfl (sC:=by show H8.mk 0 0 6 (I7 _ 0 6)=lW;rw [hs5];rfl) (h2:=?_);refine gr ?_;refine tb (!A1 (Q4 c (bg c q+i)) 0) (λg5=>?_) (λg5=>?_)
   .have e1:Y8 c=(((bg c q+i:Nat):Int),Q4 c (bg c q+i)):=by rw [hch,g5];rfl
    have e2:A1 (Q4 c (bg c q+i)) 0=F:=by simpa using g5
    refine gr ?_;exact ⟨_,_,rfl,⟨_,rfl⟩,λ_=>by rw [e1];rfl,λh=>by rw [e1] at h;simp only [e2] at h;cases h⟩
   .have e2:Q4 c (bg c q+i)=0:=aT (by simpa using g5)
    rw [g5,if_neg U] at hch;have bI3 :=hz e2;refine gr ?_;refine ⟨k2 - 1,V,i+1,bg c q+i+1,dz,sz,_,_,_,_,_,_,_,_,_,_,_,_,rfl,rfl,V,V,bI3,λm hm=>?_,?_⟩
    .rcases x9 m (bg c q+i) with h|h
     .exact hok m h
     .obtain rfl:m=bg c q+i:=V
      exact e2
    .have:O c.names - (bg c q+i+1)=N:=V
     rw [this];exact hch
  .refine gr ?_
   refine kk ⟨_,_,ah ?_ ?_,q+1,g,ds,ss,rfl,rfl,V,?_,hst,hok,hch⟩
   .exact l5 rfl
   .exact Qz c ds ss
   .simp only [bg];omega
 have g2:=G7 g1;obtain rfl:q=8:=V
 rw [LN] at hg;subst hg;rw [Nat.sub_self] at hch;obtain ⟨rfl,rfl⟩:=bF0 ds ss hst;refine gr ?_;have e1:Y8 c=(0,0):=hch;exact ⟨_,_,rfl,⟨_,rfl⟩,λh=>by rw [e1] at h;simp [p7] at h,λ_=>⟨rfl,rfl⟩⟩
end Go.Proofs.YtibjocmpkoepoaaGreat


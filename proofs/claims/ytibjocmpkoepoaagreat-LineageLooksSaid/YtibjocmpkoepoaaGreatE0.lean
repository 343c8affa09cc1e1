import Derived.Test.YtibjocmpkoepoaaGreatD7
import Derived.Test.YtibjocmpkoepoaaGreatD5
set_option linter.all false
open Bool renaming eq_false_or_eq_true→D4,false_eq_true→j4,not_eq_false'→E4,not_eq_true'→p6,or_eq_false_iff→J3,true→W,false→F
open List renaming cons_append→A8,drop_of_length_le→n9,length_append→n5,nil_append→B3,take_of_length_le→z7,length→O
open Nat renaming le_of_ble_eq_true→j9,lt_or_ge→A5
open Option renaming some→J,none→K
namespace Go.Proofs.YtibjocmpkoepoaaGreat
open Go.A1 Go.A1.S
attribute [local irreducible] Rx Ry Rn Ex Pf
def vw' (v:Vw):c8:= .agg (v.enc.map .d)
def mU (v:Vw):Bool :=
 if u7 v.kind 2 then !P8 v.right []&&u7 (O v.on) 0&&u7 (O v.wh) 0&&u7 (O v.items) 0&&u7 (O v.F4) 0&& !v.distinct
 else if (F6 0 (O v.on)&&P8 v.right [])||F6 8 (O v.on) then F
 else if u7 v.kind 0&&(u7 (O v.items) 0||F6 0 (O v.F4)) then F
 else if u7 v.kind 1&&(u7 (O v.F4) 0||v.distinct) then F
 else cg (O v.items+O v.F4) 8
set_option maxHeartbeats 8000000 in
def bu7 (v:Vw)(h0:O v.items<=1000)(h1:O v.F4<=1000):Pf A 217 [vw' v] (.d (.bool (mU v))):=by
 refine Pf.gr 2 ?_;refine tb (u7 v.kind 2) (λg1=>?_) (λg1=>?_)
 .repeat' (first|refine gy ?_|refine fq (λhw=>?_) λhw=>?_|refine ⟨_,rfl,?_⟩|fail)
  all_goals unfold mU
  all_goals rw [g1]
  all_goals simp [*,j3]
 refine gr ?_;refine tb ((F6 0 (O v.on)&&P8 v.right [])||F6 8 (O v.on)) (λg2=>?_) (λg2=>?_)
 .refine gr ?_
  exact ⟨_,rfl,by unfold mU;rw [g1,g2];rfl⟩
 refine gr ?_;refine tb (u7 v.kind 0&&(u7 (O v.items) 0||F6 0 (O v.F4))) (λg3=>?_) (λg3=>?_)
 .refine gr ?_
  exact ⟨_,rfl,by unfold mU;rw [g1,g2,g3];rfl⟩
 refine gr ?_;refine tb (u7 v.kind 1&&(u7 (O v.F4) 0||v.distinct)) (λg4=>?_) (λg4=>?_)
 .refine gr ?_
  exact ⟨_,rfl,by unfold mU;rw [g1,g2,g3,g4];rfl⟩
 refine gr ?_;exact ⟨_,rfl,by unfold mU;rw [g1,g2,g3,g4];rfl⟩
def nS {A:Go.A1.Prog}{l:I7}{b:Nat}{dr:Bool}{l5 ops:List p7}{T:List c8}{H:q6}{n:Nat}{rl:List c8}{o9:List A1.Touch}{Q:List c8->q6->List c8->Prop}{α:Type}{enc:α->List A1.Data}{xs:List α}{neg:Bool}{x:y7}{u:List Nat}
  (h0:0<O xs) (h2:Ry A l b dr l5 ops T H (n+1) (.d (.bool neg)::rl) o9 Q) (hx:rq T n rl x= .d (C6 enc xs):=by rfl):Ry A l b dr l5 (⟨.DS neg x,K,K,u⟩::ops) T H n rl o9 Q :=
 Ry.pure (rs:=[]) rfl (by simp [o7,hx,C6,h0]) h2
def bu9 (xs:List M3)(h0:0<O xs)(h1:O xs<=100000):Pf A 219 [.d (C6 (λs=>[.str s]) xs)] (D9 1 (λs=>[.str s]) xs):=by
 refine Pf.gr 1 ?_;refine tB (F) ?_ (λh2=>?_) (λh2=>?_)
 .repeat' (first|refine nS h0 ?_|refine gx ?_|refine fq (λhw=>?_) λhw=>?_|refine ⟨rfl,rfl,_,rfl,?_⟩|refine ⟨rfl,rfl⟩|fail)
  all_goals exact cc
 .cases h2
 refine gr ?_;exact ⟨_,rfl,rfl⟩
def bv0 (xs:List Int)(h0:0<O xs)(h1:O xs<=100000):Pf A 220 [.d (ints xs)] (D9 1 (λn=>[Z n]) xs):=by
 refine Pf.gr 1 ?_;refine tB (F) ?_ (λh2=>?_) (λh2=>?_)
 .repeat' (first|refine nS h0 ?_|refine gx ?_|refine fq (λhw=>?_) λhw=>?_|refine ⟨rfl,rfl,_,rfl,?_⟩|refine ⟨rfl,rfl⟩|fail)
  all_goals exact cc
 .cases h2
 refine gr ?_;exact ⟨_,rfl,rfl⟩
def bz1 (n:Nat)(h:n<=1000000)(l:I7):Pm A 279 [.P9,.d (Z n)] [] l (.own 1 0 []) []:=by
 refine ⟨1,λk hk=>?_⟩;obtain ⟨k,rfl⟩:∃j,k=j+1:=⟨k - 1,V⟩;have h1:A.cM 279=J Hu:=rfl;simp only [call,h1,Hu,Z];rw [if_pos V]
def SA (l:List Int):List A1.Data:=[ints l]
set_option maxHeartbeats 4000000 in
def bv7 (xss:List (List Int))(h0:O xss<=100)(h1:∀i,i<O xss->O (Y xss i)<=10000):Pf A 254 [.d (C6 SA xss)] (.d (ints xss.flatten)):=by
 refine Pf.gr 11 ?_;refine Ex.T9 (λk T H=>∃(i m:Nat),T=[.d (C6 SA xss),.any,.d (Z m),.any,.any,.any,.d (C6 SA xss),.d (Z (O xss)),.d (Z i),.any,.any,.any]/\H=[]/\i+k=O xss/\m<=i * 10000) ?_ (k:=O xss) ⟨0,0,rfl,rfl,U,U⟩;rintro k _ _ ⟨i,m,rfl,rfl,hk,hm⟩;refine Ex.seq ?_;refine tb (F6 i (O xss)) (λh2=>?_) (λh2=>?_)
 .have h3:=C4 h2
  have h4:=h1 i V;have h5:m<=1000000:=V
  refine gr ?_;refine tb (F) (λh6=>?_) (λh6=>?_)
  .cases h6
  refine gr ?_;exact kk ⟨i+1,m+O (Y xss i),rfl,rfl,V,V⟩
 have h3:=B5 h2;have h5:m<=1000000:=V
 have p1:=bz1 m h5;clear h2 hm
 repeat' (first|refine c1 (p1 _) rfl ?_|refine gx ?_|fail)
 refine Ex.T9 (λk T H=>∃(i:Nat) (acc:List Int),T=[.any,.any,.any,.any,D9 1 (λn=>[Z n]) acc,.any,.any,.any,.any,.d (C6 SA xss),.d (Z (O xss)),.d (Z i)]/\H=[]/\i+k=O xss/\O acc<=i * 10000/\xss.flatten=acc++(xss.drop i).flatten) ?_ (k:=O xss) ⟨0,[],rfl,rfl,U,U,U⟩;rintro k _ _ ⟨i,acc,rfl,rfl,hk,hl,hacc⟩;refine Ex.seq ?_;refine tl i (O xss) (λh6=>?_) (λh6=>?_)
 .have h7:=h1 i V
  rw [E0 V] at hacc;have h8:O acc<=1000000:=V
  refine gr ?_;exact kk ⟨i+1,acc++Y xss i,rfl,rfl,V,D,by rw [hacc];simp⟩
 .rw [n9 V] at hacc
  refine gr ?_;exact ⟨_,rfl,by rw [hacc];simp [j3,ints,C6]⟩
def agr (a:KW):c8:= .agg (a.enc.map .d)
def nx (ty:List Int)(a:KW):Int×Int :=
 if u7 a.func 0 then (if F6 0 (O a.expr) then (0,1) else (1,0))
 else if u7 a.func 1||u7 a.func 2||u7 a.func 3||u7 a.func 4 then (if !u7 (O6 a.expr ty).2 0 then (0,(O6 a.expr ty).2) else if u7 a.func 1&& !u7 (O6 a.expr ty).1 1 then (0,5) else ((O6 a.expr ty).1,0))
 else (0,1)
set_option maxHeartbeats 8000000 in
def bv8 (ty:List Int)(a:KW)(h0:O a.expr<=1000)(h1:O ty<=100000):Pf A 259 [agr a,.d (ints ty)] (pair (nx ty a)):=by
 have p1:=ad4 a.expr ty h0 h1;unfold pair at p1;refine Pf.go 7 ?_
 repeat' (first|refine cl (p1) ?_|refine gy ?_|refine fq (λhw=>?_) λhw=>?_|refine ⟨_,rfl,?_⟩|fail)
 all_goals unfold nx pair
 all_goals first|(simp [*,j3,c8.K7,Z];done)|(simp_all [j3,c8.K7,Z];done)
def l9:I7:=⟨0,0,10,10⟩
def l9R:I7:=⟨0,10,10,10⟩
def Gr (nm:List M3)(ty:List Int):List c8:=[D9 1 encS nm,D9 1 (λn=>[Z n]) ty]
def by5 (a0 ax a1 a2 a3 a4 a5 a7:y6)(ty:List Int)(x:RY)(h0:O x.expr<=1000)(h1:O ty<=100000) :
  Pm A 257 [.ptr 9 0,.ptr 7 0] [a0,ax,a1,a2,a3,a4,a5,.cells [.d (ints ty)],a7,.cells (x.enc.map .d)] l9R (pair (O6 x.expr ty)) [a0,ax,a1,a2,a3,a4,a5,.cells [.d (ints ty)],a7,.cells (x.enc.map .d)]:=by
 have p1:=ad4 x.expr ty h0 h1;unfold pair at *
 suffices h:Pq A 257 [.ptr 9 0,.ptr 7 0] [a0,ax,a1,a2,a3,a4,a5,.cells [.d (ints ty)],a7,.cells (x.enc.map .d)] l9R λv H1=>v= .tuple [.d (Z (O6 x.expr ty).1),.d (Z (O6 x.expr ty).2)]/\H1=[a0,ax,a1,a2,a3,a4,a5,.cells [.d (ints ty)],a7,.cells (x.enc.map .d)] by
  obtain ⟨v,H1,⟨rfl,rfl⟩,h⟩:=h;exact h
 refine Pq.go 2 ?_;refine gc p1 ?_;exact ⟨_,_,rfl,rfl,rfl⟩
def by6 (a0 ax a1 a2 a3 a4 a5 a7:y6)(ty:List Int)(x:KW)(h0:O x.expr<=1000)(h1:O ty<=100000) :
  Pm A 258 [.ptr 9 0,.ptr 7 0] [a0,ax,a1,a2,a3,a4,a5,.cells [.d (ints ty)],a7,.cells (x.enc.map .d)] l9R (pair (nx ty x)) [a0,ax,a1,a2,a3,a4,a5,.cells [.d (ints ty)],a7,.cells (x.enc.map .d)]:=by
 have p1:=bv8 ty x h0 h1;unfold pair at *
 suffices h:Pq A 258 [.ptr 9 0,.ptr 7 0] [a0,ax,a1,a2,a3,a4,a5,.cells [.d (ints ty)],a7,.cells (x.enc.map .d)] l9R λv H1=>v= .tuple [.d (Z (nx ty x).1),.d (Z (nx ty x).2)]/\H1=[a0,ax,a1,a2,a3,a4,a5,.cells [.d (ints ty)],a7,.cells (x.enc.map .d)] by
  obtain ⟨v,H1,⟨rfl,rfl⟩,h⟩:=h;exact h
 refine Pq.go 2 ?_;refine gc p1 ?_;exact ⟨_,_,rfl,rfl,rfl⟩
def jW (nm:List M3)(s:M3)(r:Int×Int):Int:=if !M8 s then 3 else if nm.any λy=>P8 y s then 4 else if !u7 r.2 0 then r.2 else 0
def FV (nm:List M3)(s:M3)(r:Int×Int):List M3:=if u7 (jW nm s r) 0 then nm++[s] else nm
def FW (nm:List M3)(ty:List Int)(s:M3)(r:Int×Int):List Int:=if u7 (jW nm s r) 0 then ty++[r.1] else ty
set_option maxHeartbeats 8000000 in
def aN3 (f:FuncId)(hf1:A.prom f=F)(hf2:A.mode f=1)(a0 ax a1 a2 a3 a4 a5:y6)(ty:List Int)(nm:List M3)(tys:List Int)(cs:List A1.Data)(s:M3)(r:Int×Int)(hn:O nm<=10000)(ht:O tys<=10000)
  (hc:∀a7,Pm A f [.ptr 9 0,.ptr 7 0] [a0,ax,a1,a2,a3,a4,a5,.cells [.d (ints ty)],a7,.cells (cs.map .d)] l9R (pair r) [a0,ax,a1,a2,a3,a4,a5,.cells [.d (ints ty)],a7,.cells (cs.map .d)]) :
  Pm A 256 [.ptr 8 0,.d (.str s),.func f [] [.ptr 9 0,.ptr 7 0]] [a0,ax,a1,a2,a3,a4,a5,.cells [.d (ints ty)],.cells (Gr nm tys),.cells (cs.map .d)] l9 (.d (Z (jW nm s r)))
   [a0,ax,a1,a2,a3,a4,a5,.cells [.d (ints ty)],.cells (Gr (FV nm s r) (FW nm tys s r)),.cells (cs.map .d)]:=by
 have p1:=hc (.cells (Gr nm tys));have p2:=aM3 nm s V;unfold pair at p1
 suffices h:Pq A 256 [.ptr 8 0,.d (.str s),.func f [] [.ptr 9 0,.ptr 7 0]] [a0,ax,a1,a2,a3,a4,a5,.cells [.d (ints ty)],.cells (Gr nm tys),.cells (cs.map .d)] l9 λv H1=>v= .d (Z (jW nm s r))/\H1=[a0,ax,a1,a2,a3,a4,a5,.cells [.d (ints ty)],.cells (Gr (FV nm s r) (FW nm tys s r)),.cells (cs.map .d)] by
  obtain ⟨v,H1,⟨rfl,rfl⟩,h⟩:=h;exact h
 have same:∀e,jW nm s r=e->u7 e 0=F->FV nm s r=nm/\FW nm tys s r=tys:=λe h1 h2=>by unfold FV FW;rw [h1,h2];exact ⟨rfl,rfl⟩
 have hr1:roomFor (O nm+1) 16=W:=by simp only [roomFor,decide_eq_true_eq];omega
 have hr2:roomFor (O tys+1) 8=W:=by simp only [roomFor,decide_eq_true_eq];omega
 refine Pq.go 3 ?_;refine gr ?_;refine tc (!M8 s) ad3 (λh1=>?_) (λh1=>?_)
 .have e1:jW nm s r=3:=by unfold jW;rw [h1];rfl
  have e2:=same 3 e1 (by simp [o8]);refine gr ?_;exact ⟨_,_,rfl,by rw [e1];rfl,by rw [e2.1,e2.2];rfl⟩
 unfold Gr;refine gr ?_;refine tc (nm.any λy=>P8 y s) p2 (λh2=>?_) (λh2=>?_)
 .have e1:jW nm s r=4:=by unfold jW;rw [h1,h2];rfl
  have e2:=same 4 e1 (by simp [o8]);refine gr ?_;exact ⟨_,_,rfl,by rw [e1];rfl,by rw [e2.1,e2.2];rfl⟩
 unfold Gr at p1
 repeat' (first|refine cv1 (jG:=hf1) (hm:=hf2) p1 rfl ?_|refine gx ?_|fail)
 refine tb (!u7 r.2 0) (λh3=>?_) (λh3=>?_)
 .have e1:jW nm s r=r.2:=by unfold jW;rw [h1,h2,h3];rfl
  have e2:=same _ e1 (by simpa using h3);refine gr ?_;exact ⟨_,_,rfl,by rw [e1];rfl,by rw [e2.1,e2.2];rfl⟩
 have e1:jW nm s r=0:=by unfold jW;rw [h1,h2,h3];rfl
 have e2:FV nm s r=nm++[s]:=by unfold FV;rw [e1];simp [o8]
 have e3:FW nm tys s r=tys++[r.1]:=by unfold FW;rw [e1];simp [o8]
 refine gr ?_;refine ac1 (a:=s) (xs:=nm) (enc:=encS) hr1 rfl (h2:=?_);refine gr ?_;refine ac1 (a:=r.1) (xs:=tys) (enc:=λn=>[Z n]) hr2 rfl (h2:=?_)
 repeat' (first|refine soO (h2:=?_)|refine gx ?_|fail)
 exact ⟨_,_,rfl,by rw [e1];rfl,by rw [e2,e3];rfl⟩
def Ex.aO1 {A:Go.A1.Prog}{l:I7}{b:Nat}{c:q7}{st:St}{R:I6->St->Prop}{go:St->Prop}(P:St->Prop)(h1:Ex A l b c st (yM R P))(h2:∀s,P s->go s):Ex A l b c st (yM R go):=by
 refine h1.mono λx s h=>?_
 cases x with
 |normal=>exact h2 s h
 |exit i=>exact h
 |ret=>exact h
def kQ (v:Vw)(L R:List Int):Int :=
 if !u7 (Q7 L R v.on) 0 then Q7 L R v.on
 else if F6 0 (O v.wh)&& !u7 (O6 v.wh (L++R)).2 0 then (O6 v.wh (L++R)).2
 else if F6 0 (O v.wh)&& !u7 (O6 v.wh (L++R)).1 1 then 5
 else aP (L++R) [] (dK v)
def JI (ss:List gU)(v:Vw)(L R:List Int):List gU:=if u7 (kQ v L R) 0 then ss++[(v.name,(dK v).map Gz.name,bA v (L++R))] else ss
def Da {ty:List Int}{seen:List M3}{x:RY}{r:List Gz}:aP ty seen (⟨F,x.name, -1,x.expr⟩::r)=if !u7 (jW seen x.name (O6 x.expr ty)) 0 then jW seen x.name (O6 x.expr ty) else aP ty (seen++[x.name]) r:=by
 have h3:u7 3 0=F:=by simp [o8]
 have h4:u7 4 0=F:=by simp [o8]
 have h0:u7 0 0=W:=by simp [o8]
 simp only [aP,jW,Bool.false_and,j4,if_false]
 rcases D4 (M8 x.name) with c1|c1
 .rcases D4 (seen.any λy=>P8 y x.name) with c2|c2
  .simp only [c1,c2,Bool.not_true,j4,if_false,if_true,h4,Bool.not_false]
  .rcases D4 (u7 (O6 x.expr ty).2 0) with c3|c3
   .simp only [c1,c2,c3,Bool.not_true,j4,if_false,h0]
   .simp only [c1,c2,c3,Bool.not_true,Bool.not_false,j4,if_false,if_true]
 .simp only [c1,Bool.not_false,if_true,h3]
def Gg {ty:List Int}{seen:List M3}{x:KW}{r:List Gz}:aP ty seen (⟨W,x.name,x.func,x.expr⟩::r)=if !u7 (jW seen x.name (nx ty x)) 0 then jW seen x.name (nx ty x) else aP ty (seen++[x.name]) r:=by
 have h1:u7 1 0=F:=by simp [o8]
 have h3:u7 3 0=F:=by simp [o8]
 have h4:u7 4 0=F:=by simp [o8]
 have h6:u7 5 0=F:=by simp [o8]
 have h0:u7 0 0=W:=by simp [o8]
 simp only [aP,jW,Bool.true_and]
 rcases D4 (M8 x.name) with c1|c1
 .rcases D4 (seen.any λy=>P8 y x.name) with c2|c2
  .simp only [c1,c2,Bool.not_true,j4,if_false,if_true,h4,Bool.not_false]
  .simp only [c1,c2,Bool.not_true,j4,if_false,nx]
   rcases D4 (u7 x.func 0) with f0|f0
   .have hw:s7 x.func 0 4=W:=by have:=eE f0;simp [s7,s8];omega
    rcases D4 (F6 0 (O x.expr)) with c5|c5
    .simp only [f0,hw,c5,Bool.not_true,Bool.and_self,Bool.or_true,if_true,h1,Bool.not_false]
    .simp only [f0,hw,c5,Bool.not_true,Bool.and_false,Bool.or_self,j4,if_false,if_true,h0]
   .rcases D4 (s7 x.func 0 4) with hw|hw
    .have hf:(u7 x.func 1||u7 x.func 2||u7 x.func 3||u7 x.func 4)=W:=by
      have:=wB f0;simp [s7,s8] at hw;simp [o8];omega
     simp only [f0,hw,hf,Bool.not_true,Bool.false_and,Bool.or_self,j4,if_false,if_true]
     rcases D4 (u7 (O6 x.expr ty).2 0) with c5|c5
     .rcases D4 (u7 x.func 1&& !u7 (O6 x.expr ty).1 1) with c6|c6
      .simp only [c5,c6,Bool.not_true,Bool.not_false,j4,if_false,if_true,h6]
      .simp only [c5,c6,Bool.not_true,j4,if_false,h0]
     .simp only [c5,Bool.not_false,if_true]
    .have hf:(u7 x.func 1||u7 x.func 2||u7 x.func 3||u7 x.func 4)=F:=by
      simp [s7,s8] at hw;simp [o8];omega
     simp only [f0,hw,hf,Bool.not_false,Bool.true_or,j4,if_false,if_true,h1]
 .simp only [c1,Bool.not_false,if_true,h3]
def au2 {ty:List Int}{x:KW}(h:u7 (nx ty x).2 0=W):(nx ty x).1=zQ ty x:=by
 have h1:u7 1 0=F:=by simp [o8]
 have h6:u7 5 0=F:=by simp [o8]
 unfold nx at h ⊢;unfold zQ;cases f0:u7 x.func 0 with
 |true =>
  rw [f0] at h;cases h5:F6 0 (O x.expr) with
  |true=>rw [h5] at h;simp [h1] at h
  |false=>simp
 |false =>
  rw [f0] at h;simp only [j4,if_false,Bool.false_or] at h ⊢;cases h2:(u7 x.func 1||u7 x.func 2||u7 x.func 3||u7 x.func 4) with
  |false=>rw [h2] at h;simp [h1] at h
  |true =>
   rw [h2] at h;simp only [if_true] at h ⊢;cases h3:u7 (O6 x.expr ty).2 0 with
   |false=>rw [h3] at h;simp [h3] at h
   |true =>
    rw [h3] at h;simp only [Bool.not_true,j4,if_false] at h ⊢;cases f1:u7 x.func 1 with
    |false=>simp
    |true =>
     rw [f1] at h;cases h4:u7 (O6 x.expr ty).1 1 with
     |false=>rw [h4] at h;simp [h6] at h
     |true=>simpa using eE h4
set_option maxHeartbeats 32000000 in
def by2 [Inhabited XO] (c:s5)(ds:List M3)(ss:List gU)(v:Vw)(L R:List Int)(hL:O L<=5000)(hR:O R<=5000)(h0:O v.on<=1000)(h1:O v.wh<=1000)(h2:O v.items<=1000)(h3:O v.F4<=1000)(h4:∀i,i<O v.items->O (Y v.items i).expr<=1000)(h5:∀i,i<O v.F4->O (Y v.F4 i).expr<=1000)
  (hs:((ss.map (·.1)).any λy=>P8 y v.name)=F) (hss:O ss<=1000):Pm A 221 [.ptr 5 0,vw v,.d (ints L),.d (ints R)] (HH c ds ss) lW (.d (Z (kQ v L R))) (HH c ds (JI ss v L R)):=by
 suffices h:Pq A 221 [.ptr 5 0,vw v,.d (ints L),.d (ints R)] (HH c ds ss) lW λw H1=>w= .d (Z (kQ v L R))/\H1=HH c ds (JI ss v L R) by
  obtain ⟨w,H1,⟨rfl,rfl⟩,h⟩:=h;exact h
 have same:∀e,kQ v L R=e->u7 e 0=F->JI ss v L R=ss:=λe g1 g2=>by unfold JI;rw [g1,g2];rfl
 have ab9:=ae1 c ds ss v.name ((dK v).map Gz.name) (bA v (L++R)) hs hss;have bt3:=bv7 [L,R] U (by
  intro i hi
  match i,hi with
  |0,_=>rw [ay];omega
  |1,_=>rw [wU,ay];omega)
 have pW:=ad4 v.wh (L++R) h1 D;unfold pair at pW;have hfl:[L,R].flatten=L++R:=U
 rw [hfl] at bt3;have hTl:O (L++R)<=100000:=D
 unfold HH at *
 refine Pq.go 20 ?_;refine gr ?_;refine Ex.au (λk T H=>∃(i:Nat),T=[.ptr 5 0,.any,.d (ints L),.d (ints R),.ptr 6 0,.any,.any,.any,.any,.any,.any,.any,.any,.any,.any,.d (C6 (λp=>[Z p.1,Z p.2]) v.on),.d (Z (O v.on)),.d (Z i),.any,.any,.any,.any,.any,.any]/\H=[xa,xo,.cells (c.enc.map .d),.map (dmap ds),.map (gI (ss.map (·.1)) 0),.cells (c.enc.map .d++[.map 3,.map 4,D9 2 aG ss]),.cells (v.enc.map .d)]/\i+k=O v.on/\Q7 L R v.on=Q7 L R (v.on.drop i)) ?_ (k:=O v.on) ⟨0,rfl,rfl,U,U⟩;rintro k _ _ ⟨i,rfl,rfl,hk,hi⟩;refine Ex.seq ?_;refine tb (F6 i (O v.on)) (λg1=>?_) (λg1=>?_)
 .have g2:=C4 g1
  rw [E0 V] at hi;refine gr ?_;refine tc (!s7 (Y v.on i).1 0 (O L - 1)|| !s7 (Y v.on i).2 0 (O R - 1)) rJ (λg3=>?_) (λg3=>?_)
  .have e1:Q7 L R v.on=3:=by rw [hi,Q7,g3];rfl
   have e2:kQ v L R=3:=by unfold kQ;rw [e1];simp [o8]
   refine gr ?_;exact ⟨_,_,rfl,by rw [e2];rfl,by rw [same 3 e2 (by simp [o8])];rfl⟩
  have g4:=g3;simp [s7,s8] at g4;refine gr ?_;refine tb (!u7 (Y L (Y v.on i).1.toNat) (Y R (Y v.on i).2.toNat)) (λg5=>?_) (λg5=>?_)
  .have e1:Q7 L R v.on=5:=by rw [hi,Q7,g3,g5];rfl
   have e2:kQ v L R=5:=by unfold kQ;rw [e1];simp [o8]
   refine gr ?_;exact ⟨_,_,rfl,by rw [e2];rfl,by rw [same 5 e2 (by simp [o8])];rfl⟩
  .refine gr ?_
   exact kk ⟨_,_,rfl,i+1,rfl,rfl,V,by rw [hi,Q7,g3,g5];rfl⟩
 have g2:=B5 g1;rw [n9 V] at hi;have e0:(!u7 (Q7 L R v.on) 0)=F:=by rw [hi];simp [Q7,o8]
 clear g1 g2 hk hi;refine gc bt3 ?_;refine Ex.aO1 (λs=>∃(w1 w2 w3 w5 w6 w8 w9 Ic Ol Om TW On w15 w16 w17 w18 w19 w20 w21 w22 w23:c8),s=⟨[.ptr 5 0,w1,w2,w3,.ptr 6 0,w5,w6,.ptr 7 0,w8,w9,Ic,Ol,Om,TW,On,w15,w16,w17,w18,w19,w20,w21,w22,w23],[xa,xo,.cells (c.enc.map .d),.map (dmap ds),.map (gI (ss.map (·.1)) 0),.cells (c.enc.map .d++[.map 3,.map 4,D9 2 aG ss]),.cells (v.enc.map .d),.cells [.d (ints (L++R))]]⟩/\kQ v L R=aP (L++R) [] (dK v)) ?_ ?_
 .skip
  refine tb (F6 0 (O v.wh)) (λg6=>?_) (λg6=>?_)
  .refine gc pW ?_
   refine tb (!u7 (O6 v.wh (L++R)).2 0) (λg7=>?_) (λg7=>?_)
   .have e1:kQ v L R=(O6 v.wh (L++R)).2:=by unfold kQ;rw [e0,g6,g7];rfl
    refine gr ?_;exact ⟨_,_,rfl,by rw [e1];rfl,by rw [same _ e1 (by simpa using g7)];rfl⟩
   refine gr ?_;refine tb (!u7 (O6 v.wh (L++R)).1 1) (λg8=>?_) (λg8=>?_)
   .have e1:kQ v L R=5:=by unfold kQ;rw [e0,g6,g7,g8];rfl
    refine gr ?_;exact ⟨_,_,rfl,by rw [e1];rfl,by rw [same 5 e1 (by simp [o8])];rfl⟩
   .have e1:kQ v L R=aP (L++R) [] (dK v):=by unfold kQ;rw [e0,g6,g7,g8];rfl
    refine gr ?_;exact ⟨_,_,_,_,_,_,_,_,_,_,_,_,_,_,_,_,_,_,_,_,_,rfl,e1⟩
  .have e1:kQ v L R=aP (L++R) [] (dK v):=by unfold kQ;rw [e0,g6];rfl
   refine gr ?_;exact ⟨_,_,_,_,_,_,_,_,_,_,_,_,_,_,_,_,_,_,_,_,_,rfl,e1⟩
 rintro _ ⟨w1,w2,w3,w5,w6,w8,w9,Ic,Ol,Om,TW,On,w15,w16,w17,w18,w19,w20,w21,w22,w23,rfl,hin⟩;refine gr ?_;refine Ex.au (λk T H=>∃(i:Nat) (nm:List M3) (tys:List Int),T=[.ptr 5 0,.any,.any,.any,.ptr 6 0,.any,.any,.ptr 7 0,.any,.any,.ptr 8 0,.any,.any,.any,.any,.any,.any,.any,.d (C6 RY.enc v.items),.d (Z (O v.items)),.d (Z i),.any,.any,.any]/\H=[xa,xo,.cells (c.enc.map .d),.map (dmap ds),.map (gI (ss.map (·.1)) 0),.cells (c.enc.map .d++[.map 3,.map 4,D9 2 aG ss]),.cells (v.enc.map .d),.cells [.d (ints (L++R))],.cells (Gr nm tys)]/\i+k=O v.items/\nm=(v.items.take i).map RY.name/\tys=(v.items.take i).map (λx=>(O6 x.expr (L++R)).1)/\kQ v L R=aP (L++R) nm ((dK v).drop i)) ?_ (k:=O v.items) ⟨0,[],[],rfl,rfl,U,U,U,by simpa using hin⟩;rintro k _ _ ⟨i,nm,tys,rfl,rfl,hk,hnm,uZ,hi⟩;have PS:O nm=i:=by rw [hnm];simp;omega
 have pH:O tys=i:=by rw [uZ];simp;omega
 refine Ex.seq ?_;refine tb (F6 i (O v.items)) (λg1=>?_) (λg1=>?_)
 .have g2:=C4 g1
  have hel:=nG v;rw [E0 V,yG v V,Da] at hi;have bb7:=aN3 257 rfl rfl xa xo (.cells (c.enc.map .d)) (.map (dmap ds)) (.map (gI (ss.map (·.1)) 0)) (.cells (c.enc.map .d++[.map 3,.map 4,D9 2 aG ss])) (.cells (v.enc.map .d)) (L++R) nm tys (Y v.items i).enc (Y v.items i).name (O6 (Y v.items i).expr (L++R)) V V (λa7=>by5 xa xo (.cells (c.enc.map .d)) (.map (dmap ds)) (.map (gI (ss.map (·.1)) 0)) (.cells (c.enc.map .d++[.map 3,.map 4,D9 2 aG ss])) (.cells (v.enc.map .d)) a7 (L++R) (Y v.items i) (h4 i V) hTl)
  repeat' (first|refine c0 bb7 rfl (h2:=?_)|refine gx ?_|fail)
  refine tb (!u7 (jW nm (Y v.items i).name (O6 (Y v.items i).expr (L++R))) 0) (λg3=>?_) (λg3=>?_)
  .rw [g3,if_pos rfl] at hi
   refine gr ?_;exact ⟨_,_,rfl,by rw [hi];rfl,by rw [same _ hi (by simpa using g3)];rfl⟩
  .rw [g3,if_neg U] at hi
   have e1:u7 (jW nm (Y v.items i).name (O6 (Y v.items i).expr (L++R))) 0=W:=by simpa using g3
   have e2:FV nm (Y v.items i).name (O6 (Y v.items i).expr (L++R))=nm++[(Y v.items i).name]:=by unfold FV;rw [e1];rfl
   have e3:FW nm tys (Y v.items i).name (O6 (Y v.items i).expr (L++R))=tys++[(O6 (Y v.items i).expr (L++R)).1]:=by unfold FW;rw [e1];rfl
   rw [e2,e3];refine gr ?_;exact kk ⟨_,_,rfl,i+1,nm++[(Y v.items i).name],tys++[(O6 (Y v.items i).expr (L++R)).1],rfl,rfl,V,by rw [E2 V,hnm];simp,by rw [E2 V,uZ];simp,hi⟩
 have g2:=B5 g1;rw [z7 V] at hnm uZ;have hie:i=O v.items:=V
 subst hie;clear g1 g2 hk;refine gr ?_;refine Ex.au (λk T H=>∃(i:Nat) (To:List M3) (KJ:List Int),T=[.ptr 5 0,.any,.any,.any,.ptr 6 0,.any,.any,.ptr 7 0,.any,.any,.ptr 8 0,.any,.any,.any,.any,.any,.any,.any,.any,.any,.any,.d (C6 KW.enc v.F4),.d (Z (O v.F4)),.d (Z i)]/\H=[xa,xo,.cells (c.enc.map .d),.map (dmap ds),.map (gI (ss.map (·.1)) 0),.cells (c.enc.map .d++[.map 3,.map 4,D9 2 aG ss]),.cells (v.enc.map .d),.cells [.d (ints (L++R))],.cells (Gr To KJ)]/\i+k=O v.F4/\To=nm++(v.F4.take i).map KW.name/\KJ=tys++(v.F4.take i).map (zQ (L++R))/\kQ v L R=aP (L++R) To ((dK v).drop (O v.items+i))) ?_ (k:=O v.F4) ⟨0,nm,tys,rfl,rfl,U,U,U,hi⟩;clear hi;rintro k _ _ ⟨i,To,KJ,rfl,rfl,hk,ax9,WL,hi⟩;have hl3:O To=O v.items+i:=by rw [ax9,n5,PS];simp;omega
 have hl4:O KJ=O v.items+i:=by rw [WL,n5,pH];simp;omega
 refine Ex.seq ?_;have hel:=nG v;refine tl i (O v.F4) (λg2=>?_) (λg2=>?_)
 .rw [E0 V,CZ v V V,Nat.add_sub_cancel_left,Gg] at hi
  have bb7:=aN3 258 rfl rfl xa xo (.cells (c.enc.map .d)) (.map (dmap ds)) (.map (gI (ss.map (·.1)) 0)) (.cells (c.enc.map .d++[.map 3,.map 4,D9 2 aG ss])) (.cells (v.enc.map .d)) (L++R) To KJ (Y v.F4 i).enc (Y v.F4 i).name (nx (L++R) (Y v.F4 i)) V V (λa7=>by6 xa xo (.cells (c.enc.map .d)) (.map (dmap ds)) (.map (gI (ss.map (·.1)) 0)) (.cells (c.enc.map .d++[.map 3,.map 4,D9 2 aG ss])) (.cells (v.enc.map .d)) a7 (L++R) (Y v.F4 i) (h5 i V) hTl)
  repeat' (first|refine c0 bb7 rfl (h2:=?_)|refine gx ?_|fail)
  refine tb (!u7 (jW To (Y v.F4 i).name (nx (L++R) (Y v.F4 i))) 0) (λg3=>?_) (λg3=>?_)
  .rw [g3,if_pos rfl] at hi
   refine gr ?_;exact ⟨_,_,rfl,by rw [hi];rfl,by rw [same _ hi (by simpa using g3)];rfl⟩
  .rw [g3,if_neg U] at hi
   have e1:u7 (jW To (Y v.F4 i).name (nx (L++R) (Y v.F4 i))) 0=W:=by simpa using g3
   have e2:FV To (Y v.F4 i).name (nx (L++R) (Y v.F4 i))=To++[(Y v.F4 i).name]:=by unfold FV;rw [e1];rfl
   have e3:FW To KJ (Y v.F4 i).name (nx (L++R) (Y v.F4 i))=KJ++[(nx (L++R) (Y v.F4 i)).1]:=by unfold FW;rw [e1];rfl
   have e4:u7 (nx (L++R) (Y v.F4 i)).2 0=W:=by
    have e5:=eE e1;unfold jW at e5;cases c1:(!M8 (Y v.F4 i).name) with
    |true=>rw [c1] at e5;simp at e5
    |false =>
     rw [c1] at e5;cases c2:To.any λy=>P8 y (Y v.F4 i).name with
     |true=>rw [c2] at e5;simp at e5
     |false =>
      rw [c2] at e5;cases c3:u7 (nx (L++R) (Y v.F4 i)).2 0 with
      |true=>rfl
      |false=>rw [c3] at e5;simp at e5;rw [e5] at c3;simp [o8] at c3
   rw [e2,e3];refine gr ?_;exact kk ⟨_,_,rfl,i+1,To++[(Y v.F4 i).name],KJ++[(nx (L++R) (Y v.F4 i)).1],rfl,rfl,V,by rw [E2 V,ax9];simp,by rw [E2 V,WL,au2 e4];simp,hi⟩
 .rw [z7 V] at ax9 WL
  rw [n9 V] at hi;have e1:kQ v L R=0:=hi;have e2:JI ss v L R=ss++[(v.name,(dK v).map Gz.name,bA v (L++R))]:=by unfold JI;rw [e1];simp [o8]
  have e3:To=(dK v).map Gz.name:=by rw [ax9,hnm];simp [dK,Function.comp_def]
  have e4:KJ=bA v (L++R):=by rw [WL,uZ];rfl
  rw [e2,e3,e4];refine gr ?_;unfold Gr
  repeat' (first|refine c0 ab9 rfl (h2:=?_)|refine gx ?_|fail)
  exact ⟨_,_,rfl,by rw [e1];rfl,rfl⟩
def Ex.nH {A:Go.A1.Prog}{l:I7}{b:Nat}{c:q7}{T:List c8}{H:q6}{Q:I6->St->Prop}(H2:q6)(hH:H=H2)(h:Ex A l b c ⟨T,H2⟩ Q):Ex A l b c ⟨T,H⟩ Q:=hH ▸ h
def Rn.z {A:Go.A1.Prog}{l:I7}{b:Nat}{ops:List p7}{Q:List c8->q6->List c8->Prop}{T:List c8}{H:q6}(s na:Nat)(H' :q6)(vM:aO ops=[.dead])(vN:slotsOf ops=[.slot s])(hu:∀i,i∈ops->∀e,e∈i.cB->e<O ops)(hH:H++[.dead]=H')(hna:O H=na)(h:Rz A l b ops ops T H' 0 [] [.slot s] na Q):Rn A l b ops W T H Q:=by
 subst hH hna;exact Rn.cc1 vM vN hu h
def lpA {A:Go.A1.Prog}{l:I7}{b:Nat}{dr:Bool}{l5 ops:List p7}{T:List c8}{H:q6}{n:Nat}{rl:List c8}{o9:List A1.Touch}{Q:List c8->q6->List c8->Prop}{x:y7}{u:List Nat}{id o:Nat}{w v:c8}(hv:w.K7=v)(h2:Ry A l b dr l5 ops T H (n+1) (v::rl) o9 Q)(hx:rq T n rl x= .ptr id o:=by rfl)(hr:rd H id o 1=J [w]:=by rfl) :
  Ry A l b dr l5 (⟨.load K x,K,K,u⟩::ops) T H n rl o9 Q:=Ry.pure (rs:=[id]) rfl (by simp only [o7,hx,hr,hv]) h2
def bU (ss:List gU)(s:M3):gU:=Y ss (K9 s (ss.map (·.1)) 0).toNat
def KZ (ss:List gU)(v:Vw):gU:=if P8 v.right [] then ([],[],[]) else bU ss v.right
def fS (ss:List gU)(ds:List M3)(v:Vw):Int :=
 if !u7 (T3 ds v.name) 0 then T3 ds v.name
 else if !u7 v.kind 0&& !u7 v.kind 1&& !u7 v.kind 2 then 1
 else if F6 (K9 v.left (ss.map (·.1)) 0) 0||(!P8 v.right []&&F6 (K9 v.right (ss.map (·.1)) 0) 0) then 7
 else if !mU v then 1
 else if u7 v.kind 2 then (if !gL u7 (bU ss v.left).2.2 (KZ ss v).2.2 then 5 else 0)
 else kQ v (bU ss v.left).2.2 (KZ ss v).2.2
def uk (ss:List gU)(ds:List M3)(v:Vw):List gU :=
 if u7 (fS ss ds v) 0 then (if u7 v.kind 2 then ss++[(v.name,(bU ss v.left).2.1,(bU ss v.left).2.2)] else ss++[(v.name,(dK v).map Gz.name,bA v ((bU ss v.left).2.2++(KZ ss v).2.2))]) else ss
set_option maxHeartbeats 32000000 in
def cf2 [Inhabited XO] (c:s5)(ds:List M3)(ss:List gU)(i:Nat)(hi:i<O c.views)(h0:O (Y c.views i).on<=1000)(h1:O (Y c.views i).wh<=1000)(h2:O (Y c.views i).items<=1000)(h3:O (Y c.views i).F4<=1000)(h4:∀j,j<O (Y c.views i).items->O (Y (Y c.views i).items j).expr<=1000)(h5:∀j,j<O (Y c.views i).F4->O (Y (Y c.views i).F4 j).expr<=1000)
  (hss:O ss<=1000) (ht:∀k,k<O ss->0<O (Y ss k).2.1/\O (Y ss k).2.1<=5000/\0<O (Y ss k).2.2/\O (Y ss k).2.2<=5000) (hsub:∀s,(ds.any λy=>P8 y s)=F->((ss.map (·.1)).any λy=>P8 y s)=F) :
  Pm A 150 [.ptr 5 0,.d (Z i)] (HH c ds ss) lW (.d (Z (fS ss ds (Y c.views i)))) (HH c (R6 ds (Y c.views i).name) (uk ss ds (Y c.views i))):=by
 generalize hx:Y c.views i=v at *
 have vu:=Ay c ds ss v.name;have pL:=Re c (R6 ds v.name) ss v.left;have pR:=Re c (R6 ds v.name) ss v.right;have bL:=Dw ss v.left;have bR:=Dw ss v.right;have ba0:=bu7 v h2 h3;have hno:T3 ds v.name=0->((ss.map (·.1)).any λy=>P8 y v.name)=F:=λh=>by
  refine hsub _ ?_;unfold T3 at h;cases c1:(!M8 v.name) with
  |true=>rw [c1] at h;simp at h
  |false =>
   rw [c1] at h;cases c2:ds.any λy=>P8 y v.name with
   |false=>rfl
   |true=>rw [c2] at h;simp at h
 suffices h:Pq A 150 [.ptr 5 0,.d (Z i)] (HH c ds ss) lW λw H1=>w= .d (Z (fS ss ds v))/\H1=HH c (R6 ds v.name) (uk ss ds v) by
  obtain ⟨w,H1,⟨rfl,rfl⟩,h⟩:=h;exact h
 have same:∀e,fS ss ds v=e->u7 e 0=F->uk ss ds v=ss:=λe g1 g2=>by unfold uk;rw [g1,g2];rfl
 have cc6:∀L R:List Int,O L<=5000->O R<=5000->T3 ds v.name=0->Pm A 221 [.ptr 5 0,vw v,.d (ints L),.d (ints R)] (HH c (R6 ds v.name) ss) lW (.d (Z (kQ v L R))) (HH c (R6 ds v.name) (JI ss v L R)):=λL R hL hR hd=>by2 c (R6 ds v.name) ss v L R hL hR h0 h1 h2 h3 h4 h5 (hno hd) hss
 have ab9:∀nm ty,T3 ds v.name=0->Pm A 212 [.ptr 5 0,.d (.str v.name),Sr nm ty] (HH c (R6 ds v.name) ss) lW (.tuple []) (HH c (R6 ds v.name) (ss++[(v.name,nm,ty)])):=λnm ty hd=>ae1 c (R6 ds v.name) ss v.name nm ty (hno hd) hss
 unfold HH at *
 refine Pq.go 5 ?_;refine gr ?_;rw [hx]
 repeat' (first|refine c0 vu rfl (h2:=?_)|refine gx ?_|fail)
 refine tb (!u7 (T3 ds v.name) 0) (λg1=>?_) (λg1=>?_)
 .have e1:fS ss ds v=T3 ds v.name:=by unfold fS;rw [g1];rfl
  refine gr ?_;exact ⟨_,_,rfl,by rw [e1];rfl,by rw [same _ e1 (by simpa using g1)];rfl⟩
 have hd0:T3 ds v.name=0:=eE (by simpa using g1);refine gr ?_;refine tb (!u7 v.kind 0&& !u7 v.kind 1&& !u7 v.kind 2) (λg2=>?_) (λg2=>?_)
 .have e1:fS ss ds v=1:=by unfold fS;rw [g1,g2];rfl
  refine gr ?_;exact ⟨_,_,rfl,by rw [e1];rfl,by rw [same 1 e1 (by simp [o8])];rfl⟩
 refine gr ?_;refine tB (F6 (K9 v.left (ss.map (·.1)) 0) 0||(!P8 v.right []&&F6 (K9 v.right (ss.map (·.1)) 0) 0)) ?_ (λg3=>?_) (λg3=>?_)
 .repeat' (first|refine c1 pL rfl ?_|refine c1 pR rfl ?_|refine gx ?_|refine fq (λhw=>?_) λhw=>?_|refine ⟨rfl,rfl,_,rfl,?_⟩|refine ⟨rfl,rfl⟩|fail)
  all_goals exact cc
 .have e1:fS ss ds v=7:=by unfold fS;rw [g1,g2,g3];rfl
  refine gr ?_;exact ⟨_,_,rfl,by rw [e1];rfl,by rw [same 7 e1 (by simp [o8])];rfl⟩
 have g3' :=g3;simp only [J3] at g3';have f1:=B5 g3'.1;have f2:P8 v.right []=F->0<=K9 v.right (ss.map (·.1)) 0:=λh=>by
  have:=g3'.2;simp only [h,Bool.not_false,Bool.true_and] at this;exact B5 this
 have htL:=ht (K9 v.left (ss.map (·.1)) 0).toNat V;have hsL:Y ss (K9 v.left (ss.map (·.1)) 0).toNat=bU ss v.left:=rfl;rw [hsL] at htL;refine gr ?_;refine tc (!mU v) ba0 (λg4=>?_) (λg4=>?_)
 .have e1:fS ss ds v=1:=by unfold fS;rw [g1,g2,g3,g4];rfl
  refine gr ?_;exact ⟨_,_,rfl,by rw [e1];rfl,by rw [same 1 e1 (by simp [o8])];rfl⟩
 refine gr ?_;refine Ex.nH [xa,xo,.cells (c.enc.map .d),.map (dmap (R6 ds v.name)),.map (gI (ss.map (·.1)) 0),.cells (c.enc.map .d++[.map 3,.map 4,D9 2 aG ss]),.cells (v.enc.map .d)] rfl ?_;refine Ex.region (Rn.z 5 7 [xa,xo,.cells (c.enc.map .d),.map (dmap (R6 ds v.name)),.map (gI (ss.map (·.1)) 0),.cells (c.enc.map .d++[.map 3,.map 4,D9 2 aG ss]),.cells (v.enc.map .d),.dead] rfl rfl (by decide) rfl rfl ?_);refine zm ?_;refine zp (rs:=[]) (.ptr 5 0) rfl ?_;refine zp (rs:=[]) (.ptr 5 10) rfl ?_;refine zp (rs:=[5]) (.d (C6 aG ss)) rfl ?_;refine zm ?_;refine zp (rs:=[]) (.ptr 6 2) rfl ?_;refine zp (rs:=[6]) (.d (.str v.left)) rfl ?_;refine zc pL rfl ?_ (hmn:=j9 rfl);refine zix (xs:=ss) (enc:=aG) (e:=K9 v.left (ss.map (·.1)) 0) V ?_;refine zle ?_;rw [hsL];refine za (h2:=?_);refine zs (h2:=?_);refine zn ?_;refine gr ?_;refine Ex.aO1 (λs=>∃(w0 w1 w2 w4 wa wb:c8),s=⟨[.ptr 5 0,w1,w2,.ptr 6 0,w4,.ptr 7 0,.ptr 8 0],[xa,xo,.cells (c.enc.map .d),.map (dmap (R6 ds v.name)),.map (gI (ss.map (·.1)) 0),.cells (c.enc.map .d++[.map 3,.map 4,D9 2 aG ss]),.cells (v.enc.map .d),.cells ((aG (bU ss v.left)).map .d),.cells [wa,wb]]⟩/\wa.K7= .d (C6 encS (KZ ss v).2.1)/\wb.K7= .d (ints (KZ ss v).2.2)/\O (KZ ss v).2.2<=5000) ?_ ?_
 .skip
  refine tb (!P8 v.right []) (λg6=>?_) (λg6=>?_)
  .simp only [p6] at g6
   have f3:=f2 g6;have htR:=ht (K9 v.right (ss.map (·.1)) 0).toNat V;have hsR:Y ss (K9 v.right (ss.map (·.1)) 0).toNat=KZ ss v:=by unfold KZ;rw [g6];rfl
   rw [hsR] at htR
   repeat' (first|refine c1 pR rfl ?_|refine soD (h2:=?_)|refine gx ?_|fail)
   rw [hsR];exact ⟨.any,_,_,_,_,_,rfl,rfl,rfl,V⟩
  .simp only [E4] at g6
   have hsR:KZ ss v=([],[],[]):=by unfold KZ;rw [g6];rfl
   refine gr ?_;exact ⟨.any,_,_,_,_,_,rfl,by rw [hsR];rfl,by rw [hsR];rfl,by rw [hsR];simp⟩
 rintro _ ⟨w0,w1,w2,w4,wa,wb,rfl,ha,hb,hrl⟩;have ch1:=bu8 (bU ss v.left).2.2 (KZ ss v).2.2 V;have af2:=bu9 (bU ss v.left).2.1 V V;have ch2:=bv0 (bU ss v.left).2.2 V V;have bb6:=ab9 (bU ss v.left).2.1 (bU ss v.left).2.2 hd0;have ch3:=cc6 (bU ss v.left).2.2 (KZ ss v).2.2 V hrl hd0;refine gr ?_;refine tb (u7 v.kind 2) (λg7=>?_) (λg7=>?_)
 .refine gr ?_
  refine tB (!gL u7 (bU ss v.left).2.2 (KZ ss v).2.2) ?_ (λg8=>?_) (λg8=>?_)
  .repeat' (first|refine lpA hb ?_|refine cl (ch1) ?_|refine gx ?_|refine fq (λhw=>?_) λhw=>?_|refine ⟨rfl,rfl,_,rfl,?_⟩|refine ⟨rfl,rfl⟩|fail)
   all_goals exact cc
  .have e1:fS ss ds v=5:=by unfold fS;rw [g1,g2,g3,g4,g7,g8];rfl
   refine gr ?_;exact ⟨_,_,rfl,by rw [e1];rfl,by rw [same 5 e1 (by simp [o8])];rfl⟩
  have e1:fS ss ds v=0:=by unfold fS;rw [g1,g2,g3,g4,g7,g8];rfl
  have e2:uk ss ds v=ss++[(v.name,(bU ss v.left).2.1,(bU ss v.left).2.2)]:=by unfold uk;rw [e1,g7];simp [o8]
  rw [e2]
  repeat' (first|refine cl (af2) ?_|refine cl (ch2) ?_|refine c0 bb6 rfl (h2:=?_)|refine gx ?_|fail)
  exact ⟨_,_,rfl,by rw [e1];rfl,rfl⟩
 .have e1:fS ss ds v=kQ v (bU ss v.left).2.2 (KZ ss v).2.2:=by unfold fS;rw [g1,g2,g3,g4,g7];rfl
  have e2:uk ss ds v=JI ss v (bU ss v.left).2.2 (KZ ss v).2.2:=by unfold uk JI;rw [e1,g7];rfl
  rw [e2]
  repeat' (first|refine lpA hb ?_|refine c0 ch3 rfl (h2:=?_)|refine gx ?_|fail)
  exact ⟨_,_,rfl,by rw [e1];rfl,rfl⟩
def cnt (c:s5):Nat->Nat
 |0=>O c.k9
 |1=>O c.views
 |2=>O c.idxs
 |3=>O c.O1
 |4=>O c.P3
 |5=>O c.T0
 |6=>O c.U0
 |_=>O c.W7
def PT:Nat->Nat
 |0=>8
 |1=>12
 |_=>16
def fid (q:Nat):FuncId:=149+q
def aX (c:s5):Nat->Nat
 |0=>0
 |q+1=>aX c q+cnt c q
def de (c:s5)(q:Nat):List c8:=[.d (Z (cnt c q)),.d (Z (PT q)),.func (fid q) [.ptr 5 0] []]
def jH (c:s5):List c8:=de c 0++de c 1++de c 2++de c 3++de c 4++de c 5++de c 6++de c 7
def Mx (c:s5)(q:Nat)(h:q<8)(H:q6)(hH:H[6]? =J (.cells (jH c))):rd H 6 (0+q * 3) 3=J (de c q):=by
 simp only [rd,hH]
 match q,h with
 |0,_=>rfl
 |1,_=>rfl
 |2,_=>rfl
 |3,_=>rfl
 |4,_=>rfl
 |5,_=>rfl
 |6,_=>rfl
 |7,_=>rfl
def yx (l:List c8):(y6.cells l).L7=C5 l:=rfl
def Ji (es:List (Key×c8)):(y6.map es).L7=C5 (es.map (·.2)):=rfl
def Yg [Inhabited XO] (c:s5)(ds:List M3)(ss:List gU):P0 (HH c ds ss)<=6:=by
 have h1:=wz ds;have h2:=wT (ss.map (·.1)) 0;have ha:=(default:XO).ha;have hb:=(default:XO).hb;have e1:C5 (c.enc.map c8.d)=0:=rfl;have e2:C5 (c.enc.map c8.d++[.map 3,.map 4,D9 2 aG ss])=5:=rfl;simp only [HH,P0,xa,xo,ha,hb,yx,Ji,h1,h2,e1,e2]
 decide
def RW [Inhabited XO] (c:s5)(ds:List M3)(ss:List gU):aQ (HH c ds ss) 0=W:=by
 have h1:=wz ds;have h2:=wT (ss.map (·.1)) 0;have ha:=(default:XO).ha;have hb:=(default:XO).hb;have e1:C5 (c.enc.map c8.d)=0:=rfl;have e2:C5 (c.enc.map c8.d++[.map 3,.map 4,D9 2 aG ss])=5:=rfl;simp only [HH,aQ,xa,xo,ha,hb,yx,Ji,h1,h2,e1,e2]
 decide
def TM {H:q6}(h:aQ ((H.take 6).drop 0) 0=W):E9 H 0 6=6:=by
 unfold E9;rw [if_neg (by decide),if_pos h]
def YY {q:Nat}(h:q<8):A.prom (fid q)=F/\A.mode (fid q)=0:=by
 match q,h with
 |0,_=>exact ⟨rfl,rfl⟩
 |1,_=>exact ⟨rfl,rfl⟩
 |2,_=>exact ⟨rfl,rfl⟩
 |3,_=>exact ⟨rfl,rfl⟩
 |4,_=>exact ⟨rfl,rfl⟩
 |5,_=>exact ⟨rfl,rfl⟩
 |6,_=>exact ⟨rfl,rfl⟩
 |7,_=>exact ⟨rfl,rfl⟩
def MW (c:s5):aX c 8=O c.names:=by simp [aX,cnt,s5.names];omega
def aB4 (c:s5){q:Nat}(h:q<8):aX c q+cnt c q<=O c.names:=by
 rw [<- MW]
 match q,h with
 |0,_=>simp only [aX];omega
 |1,_=>simp only [aX];omega
 |2,_=>simp only [aX];omega
 |3,_=>simp only [aX];omega
 |4,_=>simp only [aX];omega
 |5,_=>simp only [aX];omega
 |6,_=>simp only [aX];omega
 |7,_=>simp only [aX];omega
def az8 {c:s5}{q:Nat}(h:q<8)(h2:F6 (PT q) (cnt c q)=W):tooMany c=W:=by
 unfold tooMany Hp
 match q,h with
 |0,_=>simp only [PT,cnt] at h2;simp [show F6 8 (O c.k9)=W from h2]
 |1,_=>simp only [PT,cnt] at h2;simp [show F6 12 (O c.views)=W from h2]
 |2,_=>simp only [PT,cnt] at h2;simp [show F6 16 (O c.idxs)=W from h2]
 |3,_=>simp only [PT,cnt] at h2;simp [show F6 16 (O c.O1)=W from h2]
 |4,_=>simp only [PT,cnt] at h2;simp [show F6 16 (O c.P3)=W from h2]
 |5,_=>simp only [PT,cnt] at h2;simp [show F6 16 (O c.T0)=W from h2]
 |6,_=>simp only [PT,cnt] at h2;simp [show F6 16 (O c.U0)=W from h2]
 |7,_=>simp only [PT,cnt] at h2;simp [show F6 16 (O c.W7)=W from h2]
def aS5 {c:s5}(h:∀p,p<8->cnt c p<=PT p):tooMany c=F:=by
 have h0:=h 0 V;have h1:=h 1 V;have h2:=h 2 V;have h3:=h 3 V;have h4:=h 4 V;have h5:=h 5 V;have h6:=h 6 V;have h7:=h 7 V;simp only [cnt,PT] at h0 h1 h2 h3 h4 h5 h6 h7;simp only [tooMany,Hp,s9,J3,decide_eq_false_iff_not];omega
def RX [Inhabited XO] (c:s5)(ds:List M3)(ss:List gU):P0 (HH c ds ss++[.cells (jH c)])<=7:=by
 have h1:=wz ds;have h2:=wT (ss.map (·.1)) 0;have ha:=(default:XO).ha;have hb:=(default:XO).hb;have e1:C5 (c.enc.map c8.d)=0:=rfl;have e2:C5 (c.enc.map c8.d++[.map 3,.map 4,D9 2 aG ss])=5:=rfl;have e3:C5 (jH c)=6:=rfl;simp only [HH,A8,B3,P0,xa,xo,ha,hb,yx,Ji,h1,h2,e1,e2,e3]
 decide
def Mw (c:s5)(q:Nat):C5 (de c q)<=7+1:=by
 exact j9 rfl
def BL [Inhabited XO] (c:s5)(fds:List M3)(fss:List gU)(v:c8)(H1:q6):Prop :=
 (∃R,H1=xa::xo::R)/\(u7 (X2 c).2 0=F->v= .tuple [.d .dg,.d (Z (X2 c).1),.d (Z (X2 c).2)]) /\
  (u7 (X2 c).2 0=W->v= .tuple [.ptr 5 0,.d (Z 0),.d (Z 0)]/\H1=HH c fds fss++[.cells (jH c)])
def Qm [Inhabited XO] {c:s5}{fds:List M3}{fss:List gU}{v:c8}{H1:q6}(h:BL c fds fss v H1):2<=O H1:=by
 obtain ⟨⟨R,rfl⟩,_⟩:=h;simp
set_option maxHeartbeats 32000000 in
def cg4 [Inhabited XO] (c:s5)(hf:c.oW)(ST:Nat->List M3->List gU->Prop)(bU8:ST 0 [] [])(hST:∀g ds ss ds' ss',ST g ds ss->ST g ds' ss' ->ds=ds' /\ss=ss')(fds:List M3)(fss:List gU)(bU9:∀ds ss,ST (O c.names) ds ss->ds=fds/\ss=fss)
  (hstep:∀q i ds ss,q<8->i<cnt c q->tooMany c=F->mT c (aX c q+i)->ST (aX c q+i) ds ss->∃dz sz,(R9 c (aX c q+i)=0->ST (aX c q+i+1) dz sz)/\Pm A (fid q) [.ptr 5 0,.d (Z i)] (HH c ds ss) lW (.d (Z (R9 c (aX c q+i)))) (HH c dz sz)) :
  Pq A 101 [cat c] [xa,xo] W8 (BL c fds fss):=by
 obtain ⟨f0,f1,f2,f3,f4,f5,f6,f7⟩:=id hf;have hcn:∀q,cnt c q<=1000:=λq=>by unfold cnt;split<;>assumption
 have hlm:∀q,PT q<=16:=λq=>by unfold PT;split<;>omega
 refine Pq.go 19 ?_
 repeat' (first|refine mk (h2:=?_)|refine Bu (cs:=c.enc.map .d++[.map 3,.map 4,D9 2 aG []]) ?_|refine Bu (cs:=de c 0) ?_|refine Bu (cs:=de c 1) ?_|refine Bu (cs:=de c 2) ?_|refine Bu (cs:=de c 3) ?_|refine Bu (cs:=de c 4) ?_|refine Bu (cs:=de c 5) ?_|refine Bu (cs:=de c 6) ?_|refine Bu (cs:=de c 7) ?_|refine gx ?_|fail)
 refine bso (jH c) rfl ⟨by decide,rfl⟩ (h2:=?_)
 repeat' (first|refine lrT (h2:=?_)|refine gx ?_|fail)
 refine Ex.au (λk T H=>∃(q:Nat),T=[.any,.any,.any,.any,.any,.ptr 5 0,.B8 6 3 0 8,.any,.any,.any,.any,.any,.B8 6 3 0 8,.d (Z (8:Nat)),.d (Z q),.any,.any,.any,.any,.any]/\H=[xa,xo,.cells (c.enc.map .d),.map [],.map [],.cells (c.enc.map .d++[.map 3,.map 4,D9 2 aG []]),.cells (jH c)]/\q+k=8/\∀p,p<q->cnt c p<=PT p) ?_ (k:=8) ⟨0,rfl,rfl,U,λp h=>absurd h V⟩;rintro k _ _ ⟨q,rfl,rfl,hk,hq⟩;have b1:=hcn q;have b2:=hlm q;have hbk:=Mw c q;refine Ex.seq ?_;refine tb (F6 q (8:Nat)) (λg1=>?_) (λg1=>?_)
 .have g2:=C4 g1
  have hq8:q<8:=V
  have hka:=Mx c q hq8 ([xa,xo,.cells (c.enc.map .d),.map [],.map [],.cells (c.enc.map .d++[.map 3,.map 4,D9 2 aG []]),.cells (jH c)]) rfl
  repeat' (first|refine ixs (i:=q) (len:=8) hq8 ?_|refine lqV hka rfl ?_|refine soB (cs:=de c q) (id:=7) hbk (h2:=?_)|refine gx ?_|fail)
  refine tb (F6 (PT q) (cnt c q)) (λg3=>?_) (λg3=>?_)
  .have ht:=az8 hq8 g3
   have e1:X2 c=(0,8):=by unfold X2;rw [ht];rfl
   refine gr ?_;exact ⟨_,_,rfl,⟨_,rfl⟩,λ_=>by rw [e1];rfl,λh=>by rw [e1] at h;simp [o8] at h⟩
  .have g4:=B5 g3
   refine gr ?_;exact kk ⟨_,_,O3 (j9 rfl) (RX c [] []),q+1,rfl,rfl,V,λp hp=>by
    rcases A5 p q with h|h
    .exact hq p h
    .obtain rfl:p=q:=V
     omega⟩
 have g2:=B5 g1;have SN:=aS5 (c:=c) (λp hp=>hq p V);clear g1 g2 hk hq b1 b2 hbk
 repeat' (first|refine lrT (h2:=?_)|refine gx ?_|fail)
 refine Ex.au (λk T H=>∃(q g:Nat) (ds:List M3) (ss:List gU),T=[.any,.any,.any,.any,.any,.ptr 5 0,.any,.any,.d (Z g),.any,.any,.any,.any,.any,.any,.B8 6 3 0 8,.d (Z (8:Nat)),.d (Z q),.any,.any]/\H=[xa,xo,.cells (c.enc.map .d),.map (dmap ds),.map (gI (ss.map (·.1)) 0),.cells (c.enc.map .d++[.map 3,.map 4,D9 2 aG ss]),.cells (jH c)]/\q+k=8/\g=aX c q/\ST g ds ss/\mT c g/\X2 c=iW c (O c.names - g) g) ?_ (k:=8) ⟨0,0,[],[],rfl,rfl,U,rfl,bU8,λm h=>absurd h V,by unfold X2;rw [SN];rfl⟩;rintro k _ _ ⟨q,g,ds,ss,rfl,rfl,hk,hg,hst,hok,hch⟩;have b1:=hcn q;have hbk:=Mw c q;refine Ex.seq ?_;refine tb (F6 q (8:Nat)) (λg1=>?_) (λg1=>?_)
 .have g2:=C4 g1
  have hq8:q<8:=V
  have hka:=Mx c q hq8 ([xa,xo,.cells (c.enc.map .d),.map (dmap ds),.map (gI (ss.map (·.1)) 0),.cells (c.enc.map .d++[.map 3,.map 4,D9 2 aG ss]),.cells (jH c)]) rfl
  repeat' (first|refine ixs (i:=q) (len:=8) hq8 ?_|refine lqV hka rfl ?_|refine soB (cs:=de c q) (id:=7) hbk (h2:=?_)|refine gx ?_|fail)
  refine Ex.aY (λk T H=>∃(i g:Nat) (ds:List M3) (ss:List gU) (w0 w1 w2 w3 w4 w6 w7 Ic Ol Om TW On:c8),T=[w0,w1,w2,w3,w4,.ptr 5 0,w6,w7,.d (Z g),.ptr 7 0,Ic,Ol,Om,TW,On,.B8 6 3 0 8,.d (Z (8:Nat)),.d (Z q),.d (Z (cnt c q)),.d (Z i)]/\H=[xa,xo,.cells (c.enc.map .d),.map (dmap ds),.map (gI (ss.map (·.1)) 0),.cells (c.enc.map .d++[.map 3,.map 4,D9 2 aG ss]),.cells (jH c),.cells (de c q)]/\i+k=cnt c q/\g=aX c q+i/\ST g ds ss/\mT c g/\X2 c=iW c (O c.names - g) g) ?_ (k:=cnt c q) ⟨0,g,ds,ss,_,_,_,_,_,_,_,_,_,_,_,_,rfl,rfl,U,V,hst,hok,hch⟩;clear hst hok hch hka;rintro k2 _ _ ⟨i,g,ds,ss,w0,w1,w2,w3,w4,w6,w7,Ic,Ol,Om,TW,On,rfl,rfl,hk2,hg2,hst,hok,hch⟩;have hol:=aB4 c hq8;have hnl:O c.names<=8000:=by simp [s5.names];omega
  refine Ex.nT ?_;refine Ex.seq ?_;refine tl i (cnt c q) (λg4=>?_) (λg4=>?_)
  .have XY:=Yg c ds ss
   have hd5:=RW c ds ss;subst hg2;obtain ⟨dz,sz,hz,SQ⟩:=hstep q i ds ss hq8 V SN hok hst;unfold HH at SQ XY hd5;obtain ⟨N,hN⟩:∃N,O c.names - (aX c q+i)=N+1:=⟨O c.names - (aX c q+i) - 1,V⟩;rw [hN,iW] at hch;have hfp:=YY hq8;refine gr ?_;have hs5:E9 ([xa,xo,.cells (c.enc.map .d),.map (dmap ds),.map (gI (ss.map (·.1)) 0),.cells (c.enc.map c8.d++[.map 3,.map 4,D9 2 aG ss]),.cells (jH c),.cells (de c q)]) 0 6=6:=TM (H:=[xa,xo,.cells (c.enc.map .d),.map (dmap ds),.map (gI (ss.map (·.1)) 0),.cells (c.enc.map c8.d++[.map 3,.map 4,D9 2 aG ss]),.cells (jH c),.cells (de c q)]) hd5;refine cv0 (jG:=hfp.1) (hm:=hfp.2) SQ rfl XY (fG XY) rfl (pH:=by show I7.mk 0 0 6 (E9 _ 0 6)=lW;rw [hs5];rfl) (h2:=?_);refine gr ?_;refine tb (!u7 (R9 c (aX c q+i)) 0) (λg5=>?_) (λg5=>?_)
   .have e1:X2 c=(((aX c q+i:Nat):Int),R9 c (aX c q+i)):=by rw [hch,g5];rfl
    have e2:u7 (R9 c (aX c q+i)) 0=F:=by simpa using g5
    refine gr ?_;exact ⟨_,_,rfl,⟨_,rfl⟩,λ_=>by rw [e1];rfl,λh=>by rw [e1] at h;simp only [e2] at h;cases h⟩
   .have e2:R9 c (aX c q+i)=0:=eE (by simpa using g5)
    rw [g5,if_neg U] at hch;have bY1 :=hz e2;refine gr ?_;refine ⟨k2 - 1,V,i+1,aX c q+i+1,dz,sz,_,_,_,_,_,_,_,_,_,_,_,_,rfl,rfl,V,V,bY1,λm hm=>?_,?_⟩
    .rcases A5 m (aX c q+i) with h|h
     .exact hok m h
     .obtain rfl:m=aX c q+i:=V
      exact e2
    .have:O c.names - (aX c q+i+1)=N:=V
     rw [this];exact hch
  .refine gr ?_
   refine kk ⟨_,_,O3 ?_ ?_,q+1,g,ds,ss,rfl,rfl,V,?_,hst,hok,hch⟩
   .exact j9 rfl
   .exact RX c ds ss
   .simp only [aX];omega
 have g2:=B5 g1;obtain rfl:q=8:=V
 rw [MW] at hg;subst hg;rw [Nat.sub_self] at hch;obtain ⟨rfl,rfl⟩:=bU9 ds ss hst;refine gr ?_;have e1:X2 c=(0,0):=hch;exact ⟨_,_,rfl,⟨_,rfl⟩,λh=>by rw [e1] at h;simp [o8] at h,λ_=>⟨rfl,rfl⟩⟩
end Go.Proofs.YtibjocmpkoepoaaGreat


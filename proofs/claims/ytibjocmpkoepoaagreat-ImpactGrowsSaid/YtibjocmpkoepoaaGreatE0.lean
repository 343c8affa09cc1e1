import Derived.Test.YtibjocmpkoepoaaGreatD7
import Derived.Test.YtibjocmpkoepoaaGreatD5
set_option linter.all false
open Bool renaming eq_false_or_eq_true→C4,false_eq_true→j5,not_eq_false'→C5,not_eq_true'→o5,or_eq_false_iff→D5,true→W,false→F
open List renaming cons_append→x6,drop_of_length_le→n5,length_append→l5,nil_append→y5,take_of_length_le→A4,length→O
open Nat renaming le_of_ble_eq_true→j6,lt_or_ge→A7
open Option renaming some→J,none→K
namespace Go.Proofs.YtibjocmpkoepoaaGreat
open Go.A5 Go.A5.S
attribute [local irreducible] Rx Ry Rn Ex Pf
def vw' (v:Vw):c7:= .agg (v.enc.map .d)
def lQ (v:Vw):Bool :=
 if x5 v.kind 2 then !O4 v.right []&&x5 (O v.on) 0&&x5 (O v.wh) 0&&x5 (O v.items) 0&&x5 (O v.I6) 0&& !v.distinct
 else if (F0 0 (O v.on)&&O4 v.right [])||F0 8 (O v.on) then F
 else if x5 v.kind 0&&(x5 (O v.items) 0||F0 0 (O v.I6)) then F
 else if x5 v.kind 1&&(x5 (O v.I6) 0||v.distinct) then F
 else aH (O v.items+O v.I6) 8
set_option maxHeartbeats 8000000 in
def aI8 (v:Vw)(h0:O v.items<=1000)(h1:O v.I6<=1000):Pf A 217 [vw' v] (.d (.bool (lQ v))):=by
 refine Pf.gr 2 ?_;refine tb (x5 v.kind 2) (λg1=>?_) (λg1=>?_)
 .repeat' (first|refine gy ?_|refine fq (λhw=>?_) λhw=>?_|refine ⟨_,rfl,?_⟩|fail)
  all_goals unfold lQ
  all_goals rw [g1]
  all_goals simp [*,j4]
 refine gr ?_;refine tb ((F0 0 (O v.on)&&O4 v.right [])||F0 8 (O v.on)) (λg2=>?_) (λg2=>?_)
 .refine gr ?_
  exact ⟨_,rfl,by unfold lQ;rw [g1,g2];rfl⟩
 refine gr ?_;refine tb (x5 v.kind 0&&(x5 (O v.items) 0||F0 0 (O v.I6))) (λg3=>?_) (λg3=>?_)
 .refine gr ?_
  exact ⟨_,rfl,by unfold lQ;rw [g1,g2,g3];rfl⟩
 refine gr ?_;refine tb (x5 v.kind 1&&(x5 (O v.I6) 0||v.distinct)) (λg4=>?_) (λg4=>?_)
 .refine gr ?_
  exact ⟨_,rfl,by unfold lQ;rw [g1,g2,g3,g4];rfl⟩
 refine gr ?_;exact ⟨_,rfl,by unfold lQ;rw [g1,g2,g3,g4];rfl⟩
def nS {A:Go.A5.Prog}{l:J2}{b:Nat}{dr:Bool}{j8 ops:List o3}{T:List c7}{H:j9}{n:Nat}{rl:List c7}{l6:List A5.Touch}{Q:List c7->j9->List c7->Prop}{α:Type}{enc:α->List A5.Data}{xs:List α}{neg:Bool}{x:y4}{u:List Nat}
  (h0:0<O xs) (h2:Ry A l b dr j8 ops T H (n+1) (.d (.bool neg)::rl) l6 Q) (hx:rq T n rl x= .d (y6 enc xs):=by rfl):Ry A l b dr j8 (⟨.BH neg x,K,K,u⟩::ops) T H n rl l6 Q :=
 Ry.pure (rs:=[]) rfl (by simp [k8,hx,y6,h0]) h2
def aJ0 (xs:List K0)(h0:0<O xs)(h1:O xs<=100000):Pf A 219 [.d (y6 (λs=>[.str s]) xs)] (B9 1 (λs=>[.str s]) xs):=by
 refine Pf.gr 1 ?_;refine tB (F) ?_ (λh2=>?_) (λh2=>?_)
 .repeat' (first|refine nS h0 ?_|refine gx ?_|refine fq (λhw=>?_) λhw=>?_|refine ⟨rfl,rfl,_,rfl,?_⟩|refine ⟨rfl,rfl⟩|fail)
  all_goals exact cc
 .cases h2
 refine gr ?_;exact ⟨_,rfl,rfl⟩
def aJ1 (xs:List Int)(h0:0<O xs)(h1:O xs<=100000):Pf A 220 [.d (ints xs)] (B9 1 (λn=>[Z n]) xs):=by
 refine Pf.gr 1 ?_;refine tB (F) ?_ (λh2=>?_) (λh2=>?_)
 .repeat' (first|refine nS h0 ?_|refine gx ?_|refine fq (λhw=>?_) λhw=>?_|refine ⟨rfl,rfl,_,rfl,?_⟩|refine ⟨rfl,rfl⟩|fail)
  all_goals exact cc
 .cases h2
 refine gr ?_;exact ⟨_,rfl,rfl⟩
def aN2 (n:Nat)(h:n<=1000000)(l:J2):Pm A 279 [.N7,.d (Z n)] [] l (.own 1 0 []) []:=by
 refine ⟨1,λk hk=>?_⟩;obtain ⟨k,rfl⟩:∃j,k=j+1:=⟨k - 1,V⟩;have h1:A.dR 279=J EV:=rfl;simp only [call,h1,EV,Z];rw [if_pos V]
def OC (l:List Int):List A5.Data:=[ints l]
set_option maxHeartbeats 4000000 in
def aJ9 (xss:List (List Int))(h0:O xss<=100)(h1:∀i,i<O xss->O (Y xss i)<=10000):Pf A 254 [.d (y6 OC xss)] (.d (ints xss.flatten)):=by
 refine Pf.gr 11 ?_;refine Ex.M4 (λk T H=>∃(i m:Nat),T=[.d (y6 OC xss),.any,.d (Z m),.any,.any,.any,.d (y6 OC xss),.d (Z (O xss)),.d (Z i),.any,.any,.any]/\H=[]/\i+k=O xss/\m<=i * 10000) ?_ (k:=O xss) ⟨0,0,rfl,rfl,U,U⟩;rintro k _ _ ⟨i,m,rfl,rfl,hk,hm⟩;refine Ex.seq ?_;refine tb (F0 i (O xss)) (λh2=>?_) (λh2=>?_)
 .have h3:=C8 h2
  have h4:=h1 i V;have h5:m<=1000000:=V
  refine gr ?_;refine tb (F) (λh6=>?_) (λh6=>?_)
  .cases h6
  refine gr ?_;exact kk ⟨i+1,m+O (Y xss i),rfl,rfl,V,V⟩
 have h3:=D4 h2;have h5:m<=1000000:=V
 have p1:=aN2 m h5;clear h2 hm
 repeat' (first|refine c1 (p1 _) rfl ?_|refine gx ?_|fail)
 refine Ex.M4 (λk T H=>∃(i:Nat) (acc:List Int),T=[.any,.any,.any,.any,B9 1 (λn=>[Z n]) acc,.any,.any,.any,.any,.d (y6 OC xss),.d (Z (O xss)),.d (Z i)]/\H=[]/\i+k=O xss/\O acc<=i * 10000/\xss.flatten=acc++(xss.drop i).flatten) ?_ (k:=O xss) ⟨0,[],rfl,rfl,U,U,U⟩;rintro k _ _ ⟨i,acc,rfl,rfl,hk,hl,hacc⟩;refine Ex.seq ?_;refine tl i (O xss) (λh6=>?_) (λh6=>?_)
 .have h7:=h1 i V
  rw [D8 V] at hacc;have h8:O acc<=1000000:=V
  refine gr ?_;exact kk ⟨i+1,acc++Y xss i,rfl,rfl,V,D,by rw [hacc];simp⟩
 .rw [n5 V] at hacc
  refine gr ?_;exact ⟨_,rfl,by rw [hacc];simp [j4,ints,y6]⟩
def agr (a:zA):c7:= .agg (a.enc.map .d)
def mj (ty:List Int)(a:zA):Int×Int :=
 if x5 a.func 0 then (if F0 0 (O a.expr) then (0,1) else (1,0))
 else if x5 a.func 1||x5 a.func 2||x5 a.func 3||x5 a.func 4 then (if !x5 (M8 a.expr ty).2 0 then (0,(M8 a.expr ty).2) else if x5 a.func 1&& !x5 (M8 a.expr ty).1 1 then (0,5) else ((M8 a.expr ty).1,0))
 else (0,1)
set_option maxHeartbeats 8000000 in
def aK0 (ty:List Int)(a:zA)(h0:O a.expr<=1000)(h1:O ty<=100000):Pf A 259 [agr a,.d (ints ty)] (pair (mj ty a)):=by
 have p1:=Vx a.expr ty h0 h1;unfold pair at p1;refine Pf.go 7 ?_
 repeat' (first|refine cl (p1) ?_|refine gy ?_|refine fq (λhw=>?_) λhw=>?_|refine ⟨_,rfl,?_⟩|fail)
 all_goals unfold mj pair
 all_goals first|(simp [*,j4,c7.K9,Z];done)|(simp_all [j4,c7.K9,Z];done)
def l9:J2:=⟨0,0,10,10⟩
def l9R:J2:=⟨0,10,10,10⟩
def DJ (nm:List K0)(ty:List Int):List c7:=[B9 1 encS nm,B9 1 (λn=>[Z n]) ty]
def aM6 (a0 ax a1 a2 a3 a4 a5 a7:x4)(ty:List Int)(x:zW)(h0:O x.expr<=1000)(h1:O ty<=100000) :
  Pm A 257 [.ptr 9 0,.ptr 7 0] [a0,ax,a1,a2,a3,a4,a5,.cells [.d (ints ty)],a7,.cells (x.enc.map .d)] l9R (pair (M8 x.expr ty)) [a0,ax,a1,a2,a3,a4,a5,.cells [.d (ints ty)],a7,.cells (x.enc.map .d)]:=by
 have p1:=Vx x.expr ty h0 h1;unfold pair at *
 suffices h:Pq A 257 [.ptr 9 0,.ptr 7 0] [a0,ax,a1,a2,a3,a4,a5,.cells [.d (ints ty)],a7,.cells (x.enc.map .d)] l9R λv H1=>v= .tuple [.d (Z (M8 x.expr ty).1),.d (Z (M8 x.expr ty).2)]/\H1=[a0,ax,a1,a2,a3,a4,a5,.cells [.d (ints ty)],a7,.cells (x.enc.map .d)] by
  obtain ⟨v,H1,⟨rfl,rfl⟩,h⟩:=h;exact h
 refine Pq.go 2 ?_;refine gc p1 ?_;exact ⟨_,_,rfl,rfl,rfl⟩
def aM7 (a0 ax a1 a2 a3 a4 a5 a7:x4)(ty:List Int)(x:zA)(h0:O x.expr<=1000)(h1:O ty<=100000) :
  Pm A 258 [.ptr 9 0,.ptr 7 0] [a0,ax,a1,a2,a3,a4,a5,.cells [.d (ints ty)],a7,.cells (x.enc.map .d)] l9R (pair (mj ty x)) [a0,ax,a1,a2,a3,a4,a5,.cells [.d (ints ty)],a7,.cells (x.enc.map .d)]:=by
 have p1:=aK0 ty x h0 h1;unfold pair at *
 suffices h:Pq A 258 [.ptr 9 0,.ptr 7 0] [a0,ax,a1,a2,a3,a4,a5,.cells [.d (ints ty)],a7,.cells (x.enc.map .d)] l9R λv H1=>v= .tuple [.d (Z (mj ty x).1),.d (Z (mj ty x).2)]/\H1=[a0,ax,a1,a2,a3,a4,a5,.cells [.d (ints ty)],a7,.cells (x.enc.map .d)] by
  obtain ⟨v,H1,⟨rfl,rfl⟩,h⟩:=h;exact h
 refine Pq.go 2 ?_;refine gc p1 ?_;exact ⟨_,_,rfl,rfl,rfl⟩
def jo (nm:List K0)(s:K0)(r:Int×Int):Int:=if !M3 s then 3 else if nm.any λy=>O4 y s then 4 else if !x5 r.2 0 then r.2 else 0
def Dk (nm:List K0)(s:K0)(r:Int×Int):List K0:=if x5 (jo nm s r) 0 then nm++[s] else nm
def Dl (nm:List K0)(ty:List Int)(s:K0)(r:Int×Int):List Int:=if x5 (jo nm s r) 0 then ty++[r.1] else ty
set_option maxHeartbeats 8000000 in
def af6 (f:FuncId)(hf1:A.prom f=F)(hf2:A.mode f=1)(a0 ax a1 a2 a3 a4 a5:x4)(ty:List Int)(nm:List K0)(tys:List Int)(cs:List A5.Data)(s:K0)(r:Int×Int)(hn:O nm<=10000)(ht:O tys<=10000)
  (hc:∀a7,Pm A f [.ptr 9 0,.ptr 7 0] [a0,ax,a1,a2,a3,a4,a5,.cells [.d (ints ty)],a7,.cells (cs.map .d)] l9R (pair r) [a0,ax,a1,a2,a3,a4,a5,.cells [.d (ints ty)],a7,.cells (cs.map .d)]) :
  Pm A 256 [.ptr 8 0,.d (.str s),.func f [] [.ptr 9 0,.ptr 7 0]] [a0,ax,a1,a2,a3,a4,a5,.cells [.d (ints ty)],.cells (DJ nm tys),.cells (cs.map .d)] l9 (.d (Z (jo nm s r)))
   [a0,ax,a1,a2,a3,a4,a5,.cells [.d (ints ty)],.cells (DJ (Dk nm s r) (Dl nm tys s r)),.cells (cs.map .d)]:=by
 have p1:=hc (.cells (DJ nm tys));have p2:=ae8 nm s V;unfold pair at p1
 suffices h:Pq A 256 [.ptr 8 0,.d (.str s),.func f [] [.ptr 9 0,.ptr 7 0]] [a0,ax,a1,a2,a3,a4,a5,.cells [.d (ints ty)],.cells (DJ nm tys),.cells (cs.map .d)] l9 λv H1=>v= .d (Z (jo nm s r))/\H1=[a0,ax,a1,a2,a3,a4,a5,.cells [.d (ints ty)],.cells (DJ (Dk nm s r) (Dl nm tys s r)),.cells (cs.map .d)] by
  obtain ⟨v,H1,⟨rfl,rfl⟩,h⟩:=h;exact h
 have same:∀e,jo nm s r=e->x5 e 0=F->Dk nm s r=nm/\Dl nm tys s r=tys:=λe h1 h2=>by unfold Dk Dl;rw [h1,h2];exact ⟨rfl,rfl⟩
 have hr1:roomFor (O nm+1) 16=W:=by simp only [roomFor,decide_eq_true_eq];omega
 have Sh:roomFor (O tys+1) 8=W:=by simp only [roomFor,decide_eq_true_eq];omega
 refine Pq.go 3 ?_;refine gr ?_;refine tc (!M3 s) Vv (λh1=>?_) (λh1=>?_)
 .have e1:jo nm s r=3:=by unfold jo;rw [h1];rfl
  have e2:=same 3 e1 (by simp [o9]);refine gr ?_;exact ⟨_,_,rfl,by rw [e1];rfl,by rw [e2.1,e2.2];rfl⟩
 unfold DJ;refine gr ?_;refine tc (nm.any λy=>O4 y s) p2 (λh2=>?_) (λh2=>?_)
 .have e1:jo nm s r=4:=by unfold jo;rw [h1,h2];rfl
  have e2:=same 4 e1 (by simp [o9]);refine gr ?_;exact ⟨_,_,rfl,by rw [e1];rfl,by rw [e2.1,e2.2];rfl⟩
 unfold DJ at p1
 repeat' (first|refine cv1 (iD:=hf1) (hm:=hf2) p1 rfl ?_|refine gx ?_|fail)
 refine tb (!x5 r.2 0) (λh3=>?_) (λh3=>?_)
 .have e1:jo nm s r=r.2:=by unfold jo;rw [h1,h2,h3];rfl
  have e2:=same _ e1 (by simpa using h3);refine gr ?_;exact ⟨_,_,rfl,by rw [e1];rfl,by rw [e2.1,e2.2];rfl⟩
 have e1:jo nm s r=0:=by unfold jo;rw [h1,h2,h3];rfl
 have e2:Dk nm s r=nm++[s]:=by unfold Dk;rw [e1];simp [o9]
 have e3:Dl nm tys s r=tys++[r.1]:=by unfold Dl;rw [e1];simp [o9]
 refine gr ?_;refine ac1 (a:=s) (xs:=nm) (enc:=encS) hr1 rfl (h2:=?_);refine gr ?_;refine ac1 (a:=r.1) (xs:=tys) (enc:=λn=>[Z n]) Sh rfl (h2:=?_)
 repeat' (first|refine Ik (h2:=?_)|refine gx ?_|fail)
 exact ⟨_,_,rfl,by rw [e1];rfl,by rw [e2,e3];rfl⟩
def Ex.ag4 {A:Go.A5.Prog}{l:J2}{b:Nat}{c:p7}{st:St}{R:J6->St->Prop}{go:St->Prop}(P:St->Prop)(h1:Ex A l b c st (oI R P))(h2:∀s,P s->go s):Ex A l b c st (oI R go):=by
 refine h1.mono λx s h=>?_
 cases x with
 |normal=>exact h2 s h
 |exit i=>exact h
 |ret=>exact h
def jS (v:Vw)(L R:List Int):Int :=
 if !x5 (P5 L R v.on) 0 then P5 L R v.on
 else if F0 0 (O v.wh)&& !x5 (M8 v.wh (L++R)).2 0 then (M8 v.wh (L++R)).2
 else if F0 0 (O v.wh)&& !x5 (M8 v.wh (L++R)).1 1 then 5
 else aP (L++R) [] (de v)
def Hp (ss:List gD)(v:Vw)(L R:List Int):List gD:=if x5 (jS v L R) 0 then ss++[(v.name,(de v).map DY.name,bf v (L++R))] else ss
def AV {ty:List Int}{seen:List K0}{x:zW}{r:List DY}:aP ty seen (⟨F,x.name, -1,x.expr⟩::r)=if !x5 (jo seen x.name (M8 x.expr ty)) 0 then jo seen x.name (M8 x.expr ty) else aP ty (seen++[x.name]) r:=by
 have h3:x5 3 0=F:=by simp [o9]
 have h4:x5 4 0=F:=by simp [o9]
 have h0:x5 0 0=W:=by simp [o9]
 simp only [aP,jo,Bool.false_and,j5,if_false]
 rcases C4 (M3 x.name) with c1|c1
 .rcases C4 (seen.any λy=>O4 y x.name) with c2|c2
  .simp only [c1,c2,Bool.not_true,j5,if_false,if_true,h4,Bool.not_false]
  .rcases C4 (x5 (M8 x.expr ty).2 0) with c3|c3
   .simp only [c1,c2,c3,Bool.not_true,j5,if_false,h0]
   .simp only [c1,c2,c3,Bool.not_true,Bool.not_false,j5,if_false,if_true]
 .simp only [c1,Bool.not_false,if_true,h3]
def Dw {ty:List Int}{seen:List K0}{x:zA}{r:List DY}:aP ty seen (⟨W,x.name,x.func,x.expr⟩::r)=if !x5 (jo seen x.name (mj ty x)) 0 then jo seen x.name (mj ty x) else aP ty (seen++[x.name]) r:=by
 have h1:x5 1 0=F:=by simp [o9]
 have h3:x5 3 0=F:=by simp [o9]
 have h4:x5 4 0=F:=by simp [o9]
 have h6:x5 5 0=F:=by simp [o9]
 have h0:x5 0 0=W:=by simp [o9]
 simp only [aP,jo,Bool.true_and]
 rcases C4 (M3 x.name) with c1|c1
 .rcases C4 (seen.any λy=>O4 y x.name) with c2|c2
  .simp only [c1,c2,Bool.not_true,j5,if_false,if_true,h4,Bool.not_false]
  .simp only [c1,c2,Bool.not_true,j5,if_false,mj]
   rcases C4 (x5 x.func 0) with f0|f0
   .have hw:s4 x.func 0 4=W:=by have:=br f0;simp [s4,x8];omega
    rcases C4 (F0 0 (O x.expr)) with c5|c5
    .simp only [f0,hw,c5,Bool.not_true,Bool.and_self,Bool.or_true,if_true,h1,Bool.not_false]
    .simp only [f0,hw,c5,Bool.not_true,Bool.and_false,Bool.or_self,j5,if_false,if_true,h0]
   .rcases C4 (s4 x.func 0 4) with hw|hw
    .have hf:(x5 x.func 1||x5 x.func 2||x5 x.func 3||x5 x.func 4)=W:=by
      have:=ot f0;simp [s4,x8] at hw;simp [o9];omega
     simp only [f0,hw,hf,Bool.not_true,Bool.false_and,Bool.or_self,j5,if_false,if_true]
     rcases C4 (x5 (M8 x.expr ty).2 0) with c5|c5
     .rcases C4 (x5 x.func 1&& !x5 (M8 x.expr ty).1 1) with c6|c6
      .simp only [c5,c6,Bool.not_true,Bool.not_false,j5,if_false,if_true,h6]
      .simp only [c5,c6,Bool.not_true,j5,if_false,h0]
     .simp only [c5,Bool.not_false,if_true]
    .have hf:(x5 x.func 1||x5 x.func 2||x5 x.func 3||x5 x.func 4)=F:=by
      simp [s4,x8] at hw;simp [o9];omega
     simp only [f0,hw,hf,Bool.not_false,Bool.true_or,j5,if_false,if_true,h1]
 .simp only [c1,Bool.not_false,if_true,h3]
def Ye {ty:List Int}{x:zA}(h:x5 (mj ty x).2 0=W):(mj ty x).1=xx ty x:=by
 have h1:x5 1 0=F:=by simp [o9]
 have h6:x5 5 0=F:=by simp [o9]
 unfold mj at h ⊢;unfold xx;cases f0:x5 x.func 0 with
 |true =>
  rw [f0] at h;cases h5:F0 0 (O x.expr) with
  |true=>rw [h5] at h;simp [h1] at h
  |false=>simp
 |false =>
  rw [f0] at h;simp only [j5,if_false,Bool.false_or] at h ⊢;cases h2:(x5 x.func 1||x5 x.func 2||x5 x.func 3||x5 x.func 4) with
  |false=>rw [h2] at h;simp [h1] at h
  |true =>
   rw [h2] at h;simp only [if_true] at h ⊢;cases h3:x5 (M8 x.expr ty).2 0 with
   |false=>rw [h3] at h;simp [h3] at h
   |true =>
    rw [h3] at h;simp only [Bool.not_true,j5,if_false] at h ⊢;cases f1:x5 x.func 1 with
    |false=>simp
    |true =>
     rw [f1] at h;cases h4:x5 (M8 x.expr ty).1 1 with
     |false=>rw [h4] at h;simp [h6] at h
     |true=>simpa using br h4
set_option maxHeartbeats 32000000 in
def aM3 [Inhabited XO] (c:p9)(ds:List K0)(ss:List gD)(v:Vw)(L R:List Int)(hL:O L<=5000)(hR:O R<=5000)(h0:O v.on<=1000)(h1:O v.wh<=1000)(h2:O v.items<=1000)(h3:O v.I6<=1000)(h4:∀i,i<O v.items->O (Y v.items i).expr<=1000)(h5:∀i,i<O v.I6->O (Y v.I6 i).expr<=1000)
  (hs:((ss.map (·.1)).any λy=>O4 y v.name)=F) (hss:O ss<=1000):Pm A 221 [.ptr 5 0,vw v,.d (ints L),.d (ints R)] (HH c ds ss) lW (.d (Z (jS v L R))) (HH c ds (Hp ss v L R)):=by
 suffices h:Pq A 221 [.ptr 5 0,vw v,.d (ints L),.d (ints R)] (HH c ds ss) lW λw H1=>w= .d (Z (jS v L R))/\H1=HH c ds (Hp ss v L R) by
  obtain ⟨w,H1,⟨rfl,rfl⟩,h⟩:=h;exact h
 have same:∀e,jS v L R=e->x5 e 0=F->Hp ss v L R=ss:=λe g1 g2=>by unfold Hp;rw [g1,g2];rfl
 have Vp:=VD c ds ss v.name ((de v).map DY.name) (bf v (L++R)) hs hss;have aH1:=aJ9 [L,R] U (by
  intro i hi
  match i,hi with
  |0,_=>rw [T8];omega
  |1,_=>rw [gp,T8];omega)
 have pW:=Vx v.wh (L++R) h1 D;unfold pair at pW;have hfl:[L,R].flatten=L++R:=U
 rw [hfl] at aH1;have hTl:O (L++R)<=100000:=D
 unfold HH at *
 refine Pq.go 20 ?_;refine gr ?_;refine Ex.S4 (λk T H=>∃(i:Nat),T=[.ptr 5 0,.any,.d (ints L),.d (ints R),.ptr 6 0,.any,.any,.any,.any,.any,.any,.any,.any,.any,.any,.d (y6 (λp=>[Z p.1,Z p.2]) v.on),.d (Z (O v.on)),.d (Z i),.any,.any,.any,.any,.any,.any]/\H=[xa,xo,.cells (c.enc.map .d),.map (dmap ds),.map (gn (ss.map (·.1)) 0),.cells (c.enc.map .d++[.map 3,.map 4,B9 2 aG ss]),.cells (v.enc.map .d)]/\i+k=O v.on/\P5 L R v.on=P5 L R (v.on.drop i)) ?_ (k:=O v.on) ⟨0,rfl,rfl,U,U⟩;rintro k _ _ ⟨i,rfl,rfl,hk,hi⟩;refine Ex.seq ?_;refine tb (F0 i (O v.on)) (λg1=>?_) (λg1=>?_)
 .have g2:=C8 g1
  rw [D8 V] at hi;refine gr ?_;refine tc (!s4 (Y v.on i).1 0 (O L - 1)|| !s4 (Y v.on i).2 0 (O R - 1)) pZ (λg3=>?_) (λg3=>?_)
  .have e1:P5 L R v.on=3:=by rw [hi,P5,g3];rfl
   have e2:jS v L R=3:=by unfold jS;rw [e1];simp [o9]
   refine gr ?_;exact ⟨_,_,rfl,by rw [e2];rfl,by rw [same 3 e2 (by simp [o9])];rfl⟩
  have g4:=g3;simp [s4,x8] at g4;refine gr ?_;refine tb (!x5 (Y L (Y v.on i).1.toNat) (Y R (Y v.on i).2.toNat)) (λg5=>?_) (λg5=>?_)
  .have e1:P5 L R v.on=5:=by rw [hi,P5,g3,g5];rfl
   have e2:jS v L R=5:=by unfold jS;rw [e1];simp [o9]
   refine gr ?_;exact ⟨_,_,rfl,by rw [e2];rfl,by rw [same 5 e2 (by simp [o9])];rfl⟩
  .refine gr ?_
   exact kk ⟨_,_,rfl,i+1,rfl,rfl,V,by rw [hi,P5,g3,g5];rfl⟩
 have g2:=D4 g1;rw [n5 V] at hi;have e0:(!x5 (P5 L R v.on) 0)=F:=by rw [hi];simp [P5,o9]
 clear g1 g2 hk hi;refine gc aH1 ?_;refine Ex.ag4 (λs=>∃(w1 w2 w3 w5 w6 w8 w9 xb Mt Mu Mv w14 w15 w16 w17 w18 w19 w20 w21 w22 w23:c7),s=⟨[.ptr 5 0,w1,w2,w3,.ptr 6 0,w5,w6,.ptr 7 0,w8,w9,xb,Mt,Mu,Mv,w14,w15,w16,w17,w18,w19,w20,w21,w22,w23],[xa,xo,.cells (c.enc.map .d),.map (dmap ds),.map (gn (ss.map (·.1)) 0),.cells (c.enc.map .d++[.map 3,.map 4,B9 2 aG ss]),.cells (v.enc.map .d),.cells [.d (ints (L++R))]]⟩/\jS v L R=aP (L++R) [] (de v)) ?_ ?_
 .skip
  refine tb (F0 0 (O v.wh)) (λg6=>?_) (λg6=>?_)
  .refine gc pW ?_
   refine tb (!x5 (M8 v.wh (L++R)).2 0) (λg7=>?_) (λg7=>?_)
   .have e1:jS v L R=(M8 v.wh (L++R)).2:=by unfold jS;rw [e0,g6,g7];rfl
    refine gr ?_;exact ⟨_,_,rfl,by rw [e1];rfl,by rw [same _ e1 (by simpa using g7)];rfl⟩
   refine gr ?_;refine tb (!x5 (M8 v.wh (L++R)).1 1) (λg8=>?_) (λg8=>?_)
   .have e1:jS v L R=5:=by unfold jS;rw [e0,g6,g7,g8];rfl
    refine gr ?_;exact ⟨_,_,rfl,by rw [e1];rfl,by rw [same 5 e1 (by simp [o9])];rfl⟩
   .have e1:jS v L R=aP (L++R) [] (de v):=by unfold jS;rw [e0,g6,g7,g8];rfl
    refine gr ?_;exact ⟨_,_,_,_,_,_,_,_,_,_,_,_,_,_,_,_,_,_,_,_,_,rfl,e1⟩
  .have e1:jS v L R=aP (L++R) [] (de v):=by unfold jS;rw [e0,g6];rfl
   refine gr ?_;exact ⟨_,_,_,_,_,_,_,_,_,_,_,_,_,_,_,_,_,_,_,_,_,rfl,e1⟩
 rintro _ ⟨w1,w2,w3,w5,w6,w8,w9,xb,Mt,Mu,Mv,w14,w15,w16,w17,w18,w19,w20,w21,w22,w23,rfl,hin⟩;refine gr ?_;refine Ex.S4 (λk T H=>∃(i:Nat) (nm:List K0) (tys:List Int),T=[.ptr 5 0,.any,.any,.any,.ptr 6 0,.any,.any,.ptr 7 0,.any,.any,.ptr 8 0,.any,.any,.any,.any,.any,.any,.any,.d (y6 zW.enc v.items),.d (Z (O v.items)),.d (Z i),.any,.any,.any]/\H=[xa,xo,.cells (c.enc.map .d),.map (dmap ds),.map (gn (ss.map (·.1)) 0),.cells (c.enc.map .d++[.map 3,.map 4,B9 2 aG ss]),.cells (v.enc.map .d),.cells [.d (ints (L++R))],.cells (DJ nm tys)]/\i+k=O v.items/\nm=(v.items.take i).map zW.name/\tys=(v.items.take i).map (λx=>(M8 x.expr (L++R)).1)/\jS v L R=aP (L++R) nm ((de v).drop i)) ?_ (k:=O v.items) ⟨0,[],[],rfl,rfl,U,U,U,by simpa using hin⟩;rintro k _ _ ⟨i,nm,tys,rfl,rfl,hk,hnm,tP,hi⟩;have YI:O nm=i:=by rw [hnm];simp;omega
 have ov:O tys=i:=by rw [tP];simp;omega
 refine Ex.seq ?_;refine tb (F0 i (O v.items)) (λg1=>?_) (λg1=>?_)
 .have g2:=C8 g1
  have hel:=mF v;rw [D8 V,wv v V,AV] at hi;have as3:=af6 257 rfl rfl xa xo (.cells (c.enc.map .d)) (.map (dmap ds)) (.map (gn (ss.map (·.1)) 0)) (.cells (c.enc.map .d++[.map 3,.map 4,B9 2 aG ss])) (.cells (v.enc.map .d)) (L++R) nm tys (Y v.items i).enc (Y v.items i).name (M8 (Y v.items i).expr (L++R)) V V (λa7=>aM6 xa xo (.cells (c.enc.map .d)) (.map (dmap ds)) (.map (gn (ss.map (·.1)) 0)) (.cells (c.enc.map .d++[.map 3,.map 4,B9 2 aG ss])) (.cells (v.enc.map .d)) a7 (L++R) (Y v.items i) (h4 i V) hTl)
  repeat' (first|refine c0 as3 rfl (h2:=?_)|refine gx ?_|fail)
  refine tb (!x5 (jo nm (Y v.items i).name (M8 (Y v.items i).expr (L++R))) 0) (λg3=>?_) (λg3=>?_)
  .rw [g3,if_pos rfl] at hi
   refine gr ?_;exact ⟨_,_,rfl,by rw [hi];rfl,by rw [same _ hi (by simpa using g3)];rfl⟩
  .rw [g3,if_neg U] at hi
   have e1:x5 (jo nm (Y v.items i).name (M8 (Y v.items i).expr (L++R))) 0=W:=by simpa using g3
   have e2:Dk nm (Y v.items i).name (M8 (Y v.items i).expr (L++R))=nm++[(Y v.items i).name]:=by unfold Dk;rw [e1];rfl
   have e3:Dl nm tys (Y v.items i).name (M8 (Y v.items i).expr (L++R))=tys++[(M8 (Y v.items i).expr (L++R)).1]:=by unfold Dl;rw [e1];rfl
   rw [e2,e3];refine gr ?_;exact kk ⟨_,_,rfl,i+1,nm++[(Y v.items i).name],tys++[(M8 (Y v.items i).expr (L++R)).1],rfl,rfl,V,by rw [H8 V,hnm];simp,by rw [H8 V,tP];simp,hi⟩
 have g2:=D4 g1;rw [A4 V] at hnm tP;have hie:i=O v.items:=V
 subst hie;clear g1 g2 hk;refine gr ?_;refine Ex.S4 (λk T H=>∃(i:Nat) (Pc:List K0) (HZ:List Int),T=[.ptr 5 0,.any,.any,.any,.ptr 6 0,.any,.any,.ptr 7 0,.any,.any,.ptr 8 0,.any,.any,.any,.any,.any,.any,.any,.any,.any,.any,.d (y6 zA.enc v.I6),.d (Z (O v.I6)),.d (Z i)]/\H=[xa,xo,.cells (c.enc.map .d),.map (dmap ds),.map (gn (ss.map (·.1)) 0),.cells (c.enc.map .d++[.map 3,.map 4,B9 2 aG ss]),.cells (v.enc.map .d),.cells [.d (ints (L++R))],.cells (DJ Pc HZ)]/\i+k=O v.I6/\Pc=nm++(v.I6.take i).map zA.name/\HZ=tys++(v.I6.take i).map (xx (L++R))/\jS v L R=aP (L++R) Pc ((de v).drop (O v.items+i))) ?_ (k:=O v.I6) ⟨0,nm,tys,rfl,rfl,U,U,U,hi⟩;clear hi;rintro k _ _ ⟨i,Pc,HZ,rfl,rfl,hk,YL,Si,hi⟩;have hl3:O Pc=O v.items+i:=by rw [YL,l5,YI];simp;omega
 have hl4:O HZ=O v.items+i:=by rw [Si,l5,ov];simp;omega
 refine Ex.seq ?_;have hel:=mF v;refine tl i (O v.I6) (λg2=>?_) (λg2=>?_)
 .rw [D8 V,AU v V V,Nat.add_sub_cancel_left,Dw] at hi
  have as3:=af6 258 rfl rfl xa xo (.cells (c.enc.map .d)) (.map (dmap ds)) (.map (gn (ss.map (·.1)) 0)) (.cells (c.enc.map .d++[.map 3,.map 4,B9 2 aG ss])) (.cells (v.enc.map .d)) (L++R) Pc HZ (Y v.I6 i).enc (Y v.I6 i).name (mj (L++R) (Y v.I6 i)) V V (λa7=>aM7 xa xo (.cells (c.enc.map .d)) (.map (dmap ds)) (.map (gn (ss.map (·.1)) 0)) (.cells (c.enc.map .d++[.map 3,.map 4,B9 2 aG ss])) (.cells (v.enc.map .d)) a7 (L++R) (Y v.I6 i) (h5 i V) hTl)
  repeat' (first|refine c0 as3 rfl (h2:=?_)|refine gx ?_|fail)
  refine tb (!x5 (jo Pc (Y v.I6 i).name (mj (L++R) (Y v.I6 i))) 0) (λg3=>?_) (λg3=>?_)
  .rw [g3,if_pos rfl] at hi
   refine gr ?_;exact ⟨_,_,rfl,by rw [hi];rfl,by rw [same _ hi (by simpa using g3)];rfl⟩
  .rw [g3,if_neg U] at hi
   have e1:x5 (jo Pc (Y v.I6 i).name (mj (L++R) (Y v.I6 i))) 0=W:=by simpa using g3
   have e2:Dk Pc (Y v.I6 i).name (mj (L++R) (Y v.I6 i))=Pc++[(Y v.I6 i).name]:=by unfold Dk;rw [e1];rfl
   have e3:Dl Pc HZ (Y v.I6 i).name (mj (L++R) (Y v.I6 i))=HZ++[(mj (L++R) (Y v.I6 i)).1]:=by unfold Dl;rw [e1];rfl
   have e4:x5 (mj (L++R) (Y v.I6 i)).2 0=W:=by
    have e5:=br e1;unfold jo at e5;cases c1:(!M3 (Y v.I6 i).name) with
    |true=>rw [c1] at e5;simp at e5
    |false =>
     rw [c1] at e5;cases c2:Pc.any λy=>O4 y (Y v.I6 i).name with
     |true=>rw [c2] at e5;simp at e5
     |false =>
      rw [c2] at e5;cases c3:x5 (mj (L++R) (Y v.I6 i)).2 0 with
      |true=>rfl
      |false=>rw [c3] at e5;simp at e5;rw [e5] at c3;simp [o9] at c3
   rw [e2,e3];refine gr ?_;exact kk ⟨_,_,rfl,i+1,Pc++[(Y v.I6 i).name],HZ++[(mj (L++R) (Y v.I6 i)).1],rfl,rfl,V,by rw [H8 V,YL];simp,by rw [H8 V,Si,Ye e4];simp,hi⟩
 .rw [A4 V] at YL Si
  rw [n5 V] at hi;have e1:jS v L R=0:=hi;have e2:Hp ss v L R=ss++[(v.name,(de v).map DY.name,bf v (L++R))]:=by unfold Hp;rw [e1];simp [o9]
  have e3:Pc=(de v).map DY.name:=by rw [YL,hnm];simp [de,Function.comp_def]
  have e4:HZ=bf v (L++R):=by rw [Si,tP];rfl
  rw [e2,e3,e4];refine gr ?_;unfold DJ
  repeat' (first|refine c0 Vp rfl (h2:=?_)|refine gx ?_|fail)
  exact ⟨_,_,rfl,by rw [e1];rfl,rfl⟩
def Ex.nH {A:Go.A5.Prog}{l:J2}{b:Nat}{c:p7}{T:List c7}{H:j9}{Q:J6->St->Prop}(H2:j9)(hH:H=H2)(h:Ex A l b c ⟨T,H2⟩ Q):Ex A l b c ⟨T,H⟩ Q:=hH ▸ h
def Rn.z {A:Go.A5.Prog}{l:J2}{b:Nat}{ops:List o3}{Q:List c7->j9->List c7->Prop}{T:List c7}{H:j9}(s na:Nat)(H' :j9)(DB:Y7 ops=[.dead])(xR:slotsOf ops=[.slot s])(hu:∀i,i∈ops->∀e,e∈i.cR->e<O ops)(hH:H++[.dead]=H')(hna:O H=na)(h:Rz A l b ops ops T H' 0 [] [.slot s] na Q):Rn A l b ops W T H Q:=by
 subst hH hna;exact Rn.bo5 DB xR hu h
def lpA {A:Go.A5.Prog}{l:J2}{b:Nat}{dr:Bool}{j8 ops:List o3}{T:List c7}{H:j9}{n:Nat}{rl:List c7}{l6:List A5.Touch}{Q:List c7->j9->List c7->Prop}{x:y4}{u:List Nat}{id o:Nat}{w v:c7}(hv:w.K9=v)(h2:Ry A l b dr j8 ops T H (n+1) (v::rl) l6 Q)(hx:rq T n rl x= .ptr id o:=by rfl)(hr:rd H id o 1=J [w]:=by rfl) :
  Ry A l b dr j8 (⟨.load K x,K,K,u⟩::ops) T H n rl l6 Q:=Ry.pure (rs:=[id]) rfl (by simp only [k8,hx,hr,hv]) h2
def bI (ss:List gD)(s:K0):gD:=Y ss (J5 s (ss.map (·.1)) 0).toNat
def Ij (ss:List gD)(v:Vw):gD:=if O4 v.right [] then ([],[],[]) else bI ss v.right
def fD (ss:List gD)(ds:List K0)(v:Vw):Int :=
 if !x5 (R3 ds v.name) 0 then R3 ds v.name
 else if !x5 v.kind 0&& !x5 v.kind 1&& !x5 v.kind 2 then 1
 else if F0 (J5 v.left (ss.map (·.1)) 0) 0||(!O4 v.right []&&F0 (J5 v.right (ss.map (·.1)) 0) 0) then 7
 else if !lQ v then 1
 else if x5 v.kind 2 then (if !gu x5 (bI ss v.left).2.2 (Ij ss v).2.2 then 5 else 0)
 else jS v (bI ss v.left).2.2 (Ij ss v).2.2
def rZ (ss:List gD)(ds:List K0)(v:Vw):List gD :=
 if x5 (fD ss ds v) 0 then (if x5 v.kind 2 then ss++[(v.name,(bI ss v.left).2.1,(bI ss v.left).2.2)] else ss++[(v.name,(de v).map DY.name,bf v ((bI ss v.left).2.2++(Ij ss v).2.2))]) else ss
set_option maxHeartbeats 32000000 in
def bt2 [Inhabited XO] (c:p9)(ds:List K0)(ss:List gD)(i:Nat)(hi:i<O c.views)(h0:O (Y c.views i).on<=1000)(h1:O (Y c.views i).wh<=1000)(h2:O (Y c.views i).items<=1000)(h3:O (Y c.views i).I6<=1000)(h4:∀j,j<O (Y c.views i).items->O (Y (Y c.views i).items j).expr<=1000)(h5:∀j,j<O (Y c.views i).I6->O (Y (Y c.views i).I6 j).expr<=1000)
  (hss:O ss<=1000) (ht:∀k,k<O ss->0<O (Y ss k).2.1/\O (Y ss k).2.1<=5000/\0<O (Y ss k).2.2/\O (Y ss k).2.2<=5000) (hsub:∀s,(ds.any λy=>O4 y s)=F->((ss.map (·.1)).any λy=>O4 y s)=F) :
  Pm A 150 [.ptr 5 0,.d (Z i)] (HH c ds ss) lW (.d (Z (fD ss ds (Y c.views i)))) (HH c (P8 ds (Y c.views i).name) (rZ ss ds (Y c.views i))):=by
 generalize hx:Y c.views i=v at *
 have tD:=yj c ds ss v.name;have pL:=Nw c (P8 ds v.name) ss v.left;have pR:=Nw c (P8 ds v.name) ss v.right;have bL:=Bn ss v.left;have bR:=Bn ss v.right;have bo8:=aI8 v h2 h3;have hno:R3 ds v.name=0->((ss.map (·.1)).any λy=>O4 y v.name)=F:=λh=>by
  refine hsub _ ?_;unfold R3 at h;cases c1:(!M3 v.name) with
  |true=>rw [c1] at h;simp at h
  |false =>
   rw [c1] at h;cases c2:ds.any λy=>O4 y v.name with
   |false=>rfl
   |true=>rw [c2] at h;simp at h
 suffices h:Pq A 150 [.ptr 5 0,.d (Z i)] (HH c ds ss) lW λw H1=>w= .d (Z (fD ss ds v))/\H1=HH c (P8 ds v.name) (rZ ss ds v) by
  obtain ⟨w,H1,⟨rfl,rfl⟩,h⟩:=h;exact h
 have same:∀e,fD ss ds v=e->x5 e 0=F->rZ ss ds v=ss:=λe g1 g2=>by unfold rZ;rw [g1,g2];rfl
 have aq4:∀L R:List Int,O L<=5000->O R<=5000->R3 ds v.name=0->Pm A 221 [.ptr 5 0,vw v,.d (ints L),.d (ints R)] (HH c (P8 ds v.name) ss) lW (.d (Z (jS v L R))) (HH c (P8 ds v.name) (Hp ss v L R)):=λL R hL hR hd=>aM3 c (P8 ds v.name) ss v L R hL hR h0 h1 h2 h3 h4 h5 (hno hd) hss
 have Vp:∀nm ty,R3 ds v.name=0->Pm A 212 [.ptr 5 0,.d (.str v.name),Ow nm ty] (HH c (P8 ds v.name) ss) lW (.tuple []) (HH c (P8 ds v.name) (ss++[(v.name,nm,ty)])):=λnm ty hd=>VD c (P8 ds v.name) ss v.name nm ty (hno hd) hss
 unfold HH at *
 refine Pq.go 5 ?_;refine gr ?_;rw [hx]
 repeat' (first|refine c0 tD rfl (h2:=?_)|refine gx ?_|fail)
 refine tb (!x5 (R3 ds v.name) 0) (λg1=>?_) (λg1=>?_)
 .have e1:fD ss ds v=R3 ds v.name:=by unfold fD;rw [g1];rfl
  refine gr ?_;exact ⟨_,_,rfl,by rw [e1];rfl,by rw [same _ e1 (by simpa using g1)];rfl⟩
 have hd0:R3 ds v.name=0:=br (by simpa using g1);refine gr ?_;refine tb (!x5 v.kind 0&& !x5 v.kind 1&& !x5 v.kind 2) (λg2=>?_) (λg2=>?_)
 .have e1:fD ss ds v=1:=by unfold fD;rw [g1,g2];rfl
  refine gr ?_;exact ⟨_,_,rfl,by rw [e1];rfl,by rw [same 1 e1 (by simp [o9])];rfl⟩
 refine gr ?_;refine tB (F0 (J5 v.left (ss.map (·.1)) 0) 0||(!O4 v.right []&&F0 (J5 v.right (ss.map (·.1)) 0) 0)) ?_ (λg3=>?_) (λg3=>?_)
 .repeat' (first|refine c1 pL rfl ?_|refine c1 pR rfl ?_|refine gx ?_|refine fq (λhw=>?_) λhw=>?_|refine ⟨rfl,rfl,_,rfl,?_⟩|refine ⟨rfl,rfl⟩|fail)
  all_goals exact cc
 .have e1:fD ss ds v=7:=by unfold fD;rw [g1,g2,g3];rfl
  refine gr ?_;exact ⟨_,_,rfl,by rw [e1];rfl,by rw [same 7 e1 (by simp [o9])];rfl⟩
 have g3' :=g3;simp only [D5] at g3';have f1:=D4 g3'.1;have f2:O4 v.right []=F->0<=J5 v.right (ss.map (·.1)) 0:=λh=>by
  have:=g3'.2;simp only [h,Bool.not_false,Bool.true_and] at this;exact D4 this
 have htL:=ht (J5 v.left (ss.map (·.1)) 0).toNat V;have hsL:Y ss (J5 v.left (ss.map (·.1)) 0).toNat=bI ss v.left:=rfl;rw [hsL] at htL;refine gr ?_;refine tc (!lQ v) bo8 (λg4=>?_) (λg4=>?_)
 .have e1:fD ss ds v=1:=by unfold fD;rw [g1,g2,g3,g4];rfl
  refine gr ?_;exact ⟨_,_,rfl,by rw [e1];rfl,by rw [same 1 e1 (by simp [o9])];rfl⟩
 refine gr ?_;refine Ex.nH [xa,xo,.cells (c.enc.map .d),.map (dmap (P8 ds v.name)),.map (gn (ss.map (·.1)) 0),.cells (c.enc.map .d++[.map 3,.map 4,B9 2 aG ss]),.cells (v.enc.map .d)] rfl ?_;refine Ex.region (Rn.z 5 7 [xa,xo,.cells (c.enc.map .d),.map (dmap (P8 ds v.name)),.map (gn (ss.map (·.1)) 0),.cells (c.enc.map .d++[.map 3,.map 4,B9 2 aG ss]),.cells (v.enc.map .d),.dead] rfl rfl (by decide) rfl rfl ?_);refine zm ?_;refine zp (rs:=[]) (.ptr 5 0) rfl ?_;refine zp (rs:=[]) (.ptr 5 10) rfl ?_;refine zp (rs:=[5]) (.d (y6 aG ss)) rfl ?_;refine zm ?_;refine zp (rs:=[]) (.ptr 6 2) rfl ?_;refine zp (rs:=[6]) (.d (.str v.left)) rfl ?_;refine zc pL rfl ?_ (hmn:=j6 rfl);refine zix (xs:=ss) (enc:=aG) (e:=J5 v.left (ss.map (·.1)) 0) V ?_;refine zle ?_;rw [hsL];refine za (h2:=?_);refine zs (h2:=?_);refine zn ?_;refine gr ?_;refine Ex.ag4 (λs=>∃(w0 w1 w2 w4 wa wb:c7),s=⟨[.ptr 5 0,w1,w2,.ptr 6 0,w4,.ptr 7 0,.ptr 8 0],[xa,xo,.cells (c.enc.map .d),.map (dmap (P8 ds v.name)),.map (gn (ss.map (·.1)) 0),.cells (c.enc.map .d++[.map 3,.map 4,B9 2 aG ss]),.cells (v.enc.map .d),.cells ((aG (bI ss v.left)).map .d),.cells [wa,wb]]⟩/\wa.K9= .d (y6 encS (Ij ss v).2.1)/\wb.K9= .d (ints (Ij ss v).2.2)/\O (Ij ss v).2.2<=5000) ?_ ?_
 .skip
  refine tb (!O4 v.right []) (λg6=>?_) (λg6=>?_)
  .simp only [o5] at g6
   have f3:=f2 g6;have htR:=ht (J5 v.right (ss.map (·.1)) 0).toNat V;have hsR:Y ss (J5 v.right (ss.map (·.1)) 0).toNat=Ij ss v:=by unfold Ij;rw [g6];rfl
   rw [hsR] at htR
   repeat' (first|refine c1 pR rfl ?_|refine soD (h2:=?_)|refine gx ?_|fail)
   rw [hsR];exact ⟨.any,_,_,_,_,_,rfl,rfl,rfl,V⟩
  .simp only [C5] at g6
   have hsR:Ij ss v=([],[],[]):=by unfold Ij;rw [g6];rfl
   refine gr ?_;exact ⟨.any,_,_,_,_,_,rfl,by rw [hsR];rfl,by rw [hsR];rfl,by rw [hsR];simp⟩
 rintro _ ⟨w0,w1,w2,w4,wa,wb,rfl,ha,hb,hrl⟩;have bv1:=aI9 (bI ss v.left).2.2 (Ij ss v).2.2 V;have VO:=aJ0 (bI ss v.left).2.1 V V;have bv2:=aJ1 (bI ss v.left).2.2 V V;have as2:=Vp (bI ss v.left).2.1 (bI ss v.left).2.2 hd0;have bv3:=aq4 (bI ss v.left).2.2 (Ij ss v).2.2 V hrl hd0;refine gr ?_;refine tb (x5 v.kind 2) (λg7=>?_) (λg7=>?_)
 .refine gr ?_
  refine tB (!gu x5 (bI ss v.left).2.2 (Ij ss v).2.2) ?_ (λg8=>?_) (λg8=>?_)
  .repeat' (first|refine lpA hb ?_|refine cl (bv1) ?_|refine gx ?_|refine fq (λhw=>?_) λhw=>?_|refine ⟨rfl,rfl,_,rfl,?_⟩|refine ⟨rfl,rfl⟩|fail)
   all_goals exact cc
  .have e1:fD ss ds v=5:=by unfold fD;rw [g1,g2,g3,g4,g7,g8];rfl
   refine gr ?_;exact ⟨_,_,rfl,by rw [e1];rfl,by rw [same 5 e1 (by simp [o9])];rfl⟩
  have e1:fD ss ds v=0:=by unfold fD;rw [g1,g2,g3,g4,g7,g8];rfl
  have e2:rZ ss ds v=ss++[(v.name,(bI ss v.left).2.1,(bI ss v.left).2.2)]:=by unfold rZ;rw [e1,g7];simp [o9]
  rw [e2]
  repeat' (first|refine cl (VO) ?_|refine cl (bv2) ?_|refine c0 as2 rfl (h2:=?_)|refine gx ?_|fail)
  exact ⟨_,_,rfl,by rw [e1];rfl,rfl⟩
 .have e1:fD ss ds v=jS v (bI ss v.left).2.2 (Ij ss v).2.2:=by unfold fD;rw [g1,g2,g3,g4,g7];rfl
  have e2:rZ ss ds v=Hp ss v (bI ss v.left).2.2 (Ij ss v).2.2:=by unfold rZ Hp;rw [e1,g7];rfl
  rw [e2]
  repeat' (first|refine lpA hb ?_|refine c0 bv3 rfl (h2:=?_)|refine gx ?_|fail)
  exact ⟨_,_,rfl,by rw [e1];rfl,rfl⟩
def cnt (c:p9):Nat->Nat
 |0=>O c.j7
 |1=>O c.views
 |2=>O c.idxs
 |3=>O c.J7
 |4=>O c.L0
 |5=>O c.M7
 |6=>O c.O0
 |_=>O c.Q3
def Mr:Nat->Nat
 |0=>8
 |1=>12
 |_=>16
def fid (q:Nat):FuncId:=149+q
def aV (c:p9):Nat->Nat
 |0=>0
 |q+1=>aV c q+cnt c q
def cM (c:p9)(q:Nat):List c7:=[.d (Z (cnt c q)),.d (Z (Mr q)),.func (fid q) [.ptr 5 0] []]
def iR (c:p9):List c7:=cM c 0++cM c 1++cM c 2++cM c 3++cM c 4++cM c 5++cM c 6++cM c 7
def JF (c:p9)(q:Nat)(h:q<8)(H:j9)(hH:H[6]? =J (.cells (iR c))):rd H 6 (0+q * 3) 3=J (cM c q):=by
 simp only [rd,hH]
 match q,h with
 |0,_=>rfl
 |1,_=>rfl
 |2,_=>rfl
 |3,_=>rfl
 |4,_=>rfl
 |5,_=>rfl
 |6,_=>rfl
 |7,_=>rfl
def we (l:List c7):(x4.cells l).J4=A8 l:=rfl
def GL (es:List (Key×c7)):(x4.map es).J4=A8 (es.map (·.2)):=rfl
def Tz [Inhabited XO] (c:p9)(ds:List K0)(ss:List gD):F3 (HH c ds ss)<=6:=by
 have h1:=uh ds;have h2:=uH (ss.map (·.1)) 0;have ha:=(default:XO).ha;have hb:=(default:XO).hb;have e1:A8 (c.enc.map c7.d)=0:=rfl;have e2:A8 (c.enc.map c7.d++[.map 3,.map 4,B9 2 aG ss])=5:=rfl;simp only [HH,F3,xa,xo,ha,hb,we,GL,h1,h2,e1,e2]
 decide
def Oc [Inhabited XO] (c:p9)(ds:List K0)(ss:List gD):ah (HH c ds ss) 0=W:=by
 have h1:=uh ds;have h2:=uH (ss.map (·.1)) 0;have ha:=(default:XO).ha;have hb:=(default:XO).hb;have e1:A8 (c.enc.map c7.d)=0:=rfl;have e2:A8 (c.enc.map c7.d++[.map 3,.map 4,B9 2 aG ss])=5:=rfl;simp only [HH,ah,xa,xo,ha,hb,we,GL,h1,h2,e1,e2]
 decide
def Pu {H:j9}(h:ah ((H.take 6).drop 0) 0=W):B5 H 0 6=6:=by
 unfold B5;rw [if_neg (by decide),if_pos h]
def Ul {q:Nat}(h:q<8):A.prom (fid q)=F/\A.mode (fid q)=0:=by
 match q,h with
 |0,_=>exact ⟨rfl,rfl⟩
 |1,_=>exact ⟨rfl,rfl⟩
 |2,_=>exact ⟨rfl,rfl⟩
 |3,_=>exact ⟨rfl,rfl⟩
 |4,_=>exact ⟨rfl,rfl⟩
 |5,_=>exact ⟨rfl,rfl⟩
 |6,_=>exact ⟨rfl,rfl⟩
 |7,_=>exact ⟨rfl,rfl⟩
def JR (c:p9):aV c 8=O c.names:=by simp [aV,cnt,p9.names];omega
def Zs (c:p9){q:Nat}(h:q<8):aV c q+cnt c q<=O c.names:=by
 rw [<- JR]
 match q,h with
 |0,_=>simp only [aV];omega
 |1,_=>simp only [aV];omega
 |2,_=>simp only [aV];omega
 |3,_=>simp only [aV];omega
 |4,_=>simp only [aV];omega
 |5,_=>simp only [aV];omega
 |6,_=>simp only [aV];omega
 |7,_=>simp only [aV];omega
def Ze {c:p9}{q:Nat}(h:q<8)(h2:F0 (Mr q) (cnt c q)=W):tooMany c=W:=by
 unfold tooMany EN
 match q,h with
 |0,_=>simp only [Mr,cnt] at h2;simp [show F0 8 (O c.j7)=W from h2]
 |1,_=>simp only [Mr,cnt] at h2;simp [show F0 12 (O c.views)=W from h2]
 |2,_=>simp only [Mr,cnt] at h2;simp [show F0 16 (O c.idxs)=W from h2]
 |3,_=>simp only [Mr,cnt] at h2;simp [show F0 16 (O c.J7)=W from h2]
 |4,_=>simp only [Mr,cnt] at h2;simp [show F0 16 (O c.L0)=W from h2]
 |5,_=>simp only [Mr,cnt] at h2;simp [show F0 16 (O c.M7)=W from h2]
 |6,_=>simp only [Mr,cnt] at h2;simp [show F0 16 (O c.O0)=W from h2]
 |7,_=>simp only [Mr,cnt] at h2;simp [show F0 16 (O c.Q3)=W from h2]
def ak8 {c:p9}(h:∀p,p<8->cnt c p<=Mr p):tooMany c=F:=by
 have h0:=h 0 V;have h1:=h 1 V;have h2:=h 2 V;have h3:=h 3 V;have h4:=h 4 V;have h5:=h 5 V;have h6:=h 6 V;have h7:=h 7 V;simp only [cnt,Mr] at h0 h1 h2 h3 h4 h5 h6 h7;simp only [tooMany,EN,A1,D5,decide_eq_false_iff_not];omega
def Od [Inhabited XO] (c:p9)(ds:List K0)(ss:List gD):F3 (HH c ds ss++[.cells (iR c)])<=7:=by
 have h1:=uh ds;have h2:=uH (ss.map (·.1)) 0;have ha:=(default:XO).ha;have hb:=(default:XO).hb;have e1:A8 (c.enc.map c7.d)=0:=rfl;have e2:A8 (c.enc.map c7.d++[.map 3,.map 4,B9 2 aG ss])=5:=rfl;have e3:A8 (iR c)=6:=rfl;simp only [HH,x6,y5,F3,xa,xo,ha,hb,we,GL,h1,h2,e1,e2,e3]
 decide
def JE (c:p9)(q:Nat):A8 (cM c q)<=7+1:=by
 exact j6 rfl
def Ab [Inhabited XO] (c:p9)(fds:List K0)(fss:List gD)(v:c7)(H1:j9):Prop :=
 (∃R,H1=xa::xo::R)/\(x5 (W5 c).2 0=F->v= .tuple [.d .iT,.d (Z (W5 c).1),.d (Z (W5 c).2)]) /\
  (x5 (W5 c).2 0=W->v= .tuple [.ptr 5 0,.d (Z 0),.d (Z 0)]/\H1=HH c fds fss++[.cells (iR c)])
def ML [Inhabited XO] {c:p9}{fds:List K0}{fss:List gD}{v:c7}{H1:j9}(h:Ab c fds fss v H1):2<=O H1:=by
 obtain ⟨⟨R,rfl⟩,_⟩:=h;simp
set_option maxHeartbeats 32000000 in
def bu3 [Inhabited XO] (c:p9)(hf:c.iC)(ST:Nat->List K0->List gD->Prop)(bh3:ST 0 [] [])(hST:∀g ds ss ds' ss',ST g ds ss->ST g ds' ss' ->ds=ds' /\ss=ss')(fds:List K0)(fss:List gD)(bh4:∀ds ss,ST (O c.names) ds ss->ds=fds/\ss=fss)
  (hstep:∀q i ds ss,q<8->i<cnt c q->tooMany c=F->lP c (aV c q+i)->ST (aV c q+i) ds ss->∃dz sz,(Q6 c (aV c q+i)=0->ST (aV c q+i+1) dz sz)/\Pm A (fid q) [.ptr 5 0,.d (Z i)] (HH c ds ss) lW (.d (Z (Q6 c (aV c q+i)))) (HH c dz sz)) :
  Pq A 101 [cat c] [xa,xo] R5 (Ab c fds fss):=by
 obtain ⟨f0,f1,f2,f3,f4,f5,f6,f7⟩:=id hf;have hcn:∀q,cnt c q<=1000:=λq=>by unfold cnt;split<;>assumption
 have YK:∀q,Mr q<=16:=λq=>by unfold Mr;split<;>omega
 refine Pq.go 19 ?_
 repeat' (first|refine mk (h2:=?_)|refine Ea (cs:=c.enc.map .d++[.map 3,.map 4,B9 2 aG []]) ?_|refine Ea (cs:=cM c 0) ?_|refine Ea (cs:=cM c 1) ?_|refine Ea (cs:=cM c 2) ?_|refine Ea (cs:=cM c 3) ?_|refine Ea (cs:=cM c 4) ?_|refine Ea (cs:=cM c 5) ?_|refine Ea (cs:=cM c 6) ?_|refine Ea (cs:=cM c 7) ?_|refine gx ?_|fail)
 refine bso (iR c) rfl ⟨by decide,rfl⟩ (h2:=?_)
 repeat' (first|refine lrT (h2:=?_)|refine gx ?_|fail)
 refine Ex.S4 (λk T H=>∃(q:Nat),T=[.any,.any,.any,.any,.any,.ptr 5 0,.s6 6 3 0 8,.any,.any,.any,.any,.any,.s6 6 3 0 8,.d (Z (8:Nat)),.d (Z q),.any,.any,.any,.any,.any]/\H=[xa,xo,.cells (c.enc.map .d),.map [],.map [],.cells (c.enc.map .d++[.map 3,.map 4,B9 2 aG []]),.cells (iR c)]/\q+k=8/\∀p,p<q->cnt c p<=Mr p) ?_ (k:=8) ⟨0,rfl,rfl,U,λp h=>absurd h V⟩;rintro k _ _ ⟨q,rfl,rfl,hk,hq⟩;have b1:=hcn q;have b2:=YK q;have hbk:=JE c q;refine Ex.seq ?_;refine tb (F0 q (8:Nat)) (λg1=>?_) (λg1=>?_)
 .have g2:=C8 g1
  have Tp:q<8:=V
  have hka:=JF c q Tp ([xa,xo,.cells (c.enc.map .d),.map [],.map [],.cells (c.enc.map .d++[.map 3,.map 4,B9 2 aG []]),.cells (iR c)]) rfl
  repeat' (first|refine ixs (i:=q) (len:=8) Tp ?_|refine Pa hka rfl ?_|refine soB (cs:=cM c q) (id:=7) hbk (h2:=?_)|refine gx ?_|fail)
  refine tb (F0 (Mr q) (cnt c q)) (λg3=>?_) (λg3=>?_)
  .have ht:=Ze Tp g3
   have e1:W5 c=(0,8):=by unfold W5;rw [ht];rfl
   refine gr ?_;exact ⟨_,_,rfl,⟨_,rfl⟩,λ_=>by rw [e1];rfl,λh=>by rw [e1] at h;simp [o9] at h⟩
  .have g4:=D4 g3
   refine gr ?_;exact kk ⟨_,_,G5 (j6 rfl) (Od c [] []),q+1,rfl,rfl,V,λp hp=>by
    rcases A7 p q with h|h
    .exact hq p h
    .obtain rfl:p=q:=V
     omega⟩
 have g2:=D4 g1;have ON:=ak8 (c:=c) (λp hp=>hq p V);clear g1 g2 hk hq b1 b2 hbk
 repeat' (first|refine lrT (h2:=?_)|refine gx ?_|fail)
 refine Ex.S4 (λk T H=>∃(q g:Nat) (ds:List K0) (ss:List gD),T=[.any,.any,.any,.any,.any,.ptr 5 0,.any,.any,.d (Z g),.any,.any,.any,.any,.any,.any,.s6 6 3 0 8,.d (Z (8:Nat)),.d (Z q),.any,.any]/\H=[xa,xo,.cells (c.enc.map .d),.map (dmap ds),.map (gn (ss.map (·.1)) 0),.cells (c.enc.map .d++[.map 3,.map 4,B9 2 aG ss]),.cells (iR c)]/\q+k=8/\g=aV c q/\ST g ds ss/\lP c g/\W5 c=ic c (O c.names - g) g) ?_ (k:=8) ⟨0,0,[],[],rfl,rfl,U,rfl,bh3,λm h=>absurd h V,by unfold W5;rw [ON];rfl⟩;rintro k _ _ ⟨q,g,ds,ss,rfl,rfl,hk,hg,hst,hok,hch⟩;have b1:=hcn q;have hbk:=JE c q;refine Ex.seq ?_;refine tb (F0 q (8:Nat)) (λg1=>?_) (λg1=>?_)
 .have g2:=C8 g1
  have Tp:q<8:=V
  have hka:=JF c q Tp ([xa,xo,.cells (c.enc.map .d),.map (dmap ds),.map (gn (ss.map (·.1)) 0),.cells (c.enc.map .d++[.map 3,.map 4,B9 2 aG ss]),.cells (iR c)]) rfl
  repeat' (first|refine ixs (i:=q) (len:=8) Tp ?_|refine Pa hka rfl ?_|refine soB (cs:=cM c q) (id:=7) hbk (h2:=?_)|refine gx ?_|fail)
  refine Ex.fh (λk T H=>∃(i g:Nat) (ds:List K0) (ss:List gD) (w0 w1 w2 w3 w4 w6 w7 xb Mt Mu Mv w14:c7),T=[w0,w1,w2,w3,w4,.ptr 5 0,w6,w7,.d (Z g),.ptr 7 0,xb,Mt,Mu,Mv,w14,.s6 6 3 0 8,.d (Z (8:Nat)),.d (Z q),.d (Z (cnt c q)),.d (Z i)]/\H=[xa,xo,.cells (c.enc.map .d),.map (dmap ds),.map (gn (ss.map (·.1)) 0),.cells (c.enc.map .d++[.map 3,.map 4,B9 2 aG ss]),.cells (iR c),.cells (cM c q)]/\i+k=cnt c q/\g=aV c q+i/\ST g ds ss/\lP c g/\W5 c=ic c (O c.names - g) g) ?_ (k:=cnt c q) ⟨0,g,ds,ss,_,_,_,_,_,_,_,_,_,_,_,_,rfl,rfl,U,V,hst,hok,hch⟩;clear hst hok hch hka;rintro k2 _ _ ⟨i,g,ds,ss,w0,w1,w2,w3,w4,w6,w7,xb,Mt,Mu,Mv,w14,rfl,rfl,hk2,hg2,hst,hok,hch⟩;have hol:=Zs c Tp;have hnl:O c.names<=8000:=by simp [p9.names];omega
  refine Ex.nT ?_;refine Ex.seq ?_;refine tl i (cnt c q) (λg4=>?_) (λg4=>?_)
  .have hb5:=Tz c ds ss
   have hd5:=Oc c ds ss;subst hg2;obtain ⟨dz,sz,hz,XT⟩:=hstep q i ds ss Tp V ON hok hst;unfold HH at XT hb5 hd5;obtain ⟨N,hN⟩:∃N,O c.names - (aV c q+i)=N+1:=⟨O c.names - (aV c q+i) - 1,V⟩;rw [hN,ic] at hch;have hfp:=Ul Tp;refine gr ?_;have hs5:B5 ([xa,xo,.cells (c.enc.map .d),.map (dmap ds),.map (gn (ss.map (·.1)) 0),.cells (c.enc.map c7.d++[.map 3,.map 4,B9 2 aG ss]),.cells (iR c),.cells (cM c q)]) 0 6=6:=Pu (H:=[xa,xo,.cells (c.enc.map .d),.map (dmap ds),.map (gn (ss.map (·.1)) 0),.cells (c.enc.map c7.d++[.map 3,.map 4,B9 2 aG ss]),.cells (iR c),.cells (cM c q)]) hd5;refine cv0 (iD:=hfp.1) (hm:=hfp.2) XT rfl hb5 (K6 hb5) rfl (ov:=by show J2.mk 0 0 6 (B5 _ 0 6)=lW;rw [hs5];rfl) (h2:=?_);refine gr ?_;refine tb (!x5 (Q6 c (aV c q+i)) 0) (λg5=>?_) (λg5=>?_)
   .have e1:W5 c=(((aV c q+i:Nat):Int),Q6 c (aV c q+i)):=by rw [hch,g5];rfl
    have e2:x5 (Q6 c (aV c q+i)) 0=F:=by simpa using g5
    refine gr ?_;exact ⟨_,_,rfl,⟨_,rfl⟩,λ_=>by rw [e1];rfl,λh=>by rw [e1] at h;simp only [e2] at h;cases h⟩
   .have e2:Q6 c (aV c q+i)=0:=br (by simpa using g5)
    rw [g5,if_neg U] at hch;have bl4 :=hz e2;refine gr ?_;refine ⟨k2 - 1,V,i+1,aV c q+i+1,dz,sz,_,_,_,_,_,_,_,_,_,_,_,_,rfl,rfl,V,V,bl4,λm hm=>?_,?_⟩
    .rcases A7 m (aV c q+i) with h|h
     .exact hok m h
     .obtain rfl:m=aV c q+i:=V
      exact e2
    .have:O c.names - (aV c q+i+1)=N:=V
     rw [this];exact hch
  .refine gr ?_
   refine kk ⟨_,_,G5 ?_ ?_,q+1,g,ds,ss,rfl,rfl,V,?_,hst,hok,hch⟩
   .exact j6 rfl
   .exact Od c ds ss
   .simp only [aV];omega
 have g2:=D4 g1;obtain rfl:q=8:=V
 rw [JR] at hg;subst hg;rw [Nat.sub_self] at hch;obtain ⟨rfl,rfl⟩:=bh4 ds ss hst;refine gr ?_;have e1:W5 c=(0,0):=hch;exact ⟨_,_,rfl,⟨_,rfl⟩,λh=>by rw [e1] at h;simp [o9] at h,λ_=>⟨rfl,rfl⟩⟩
end Go.Proofs.YtibjocmpkoepoaaGreat


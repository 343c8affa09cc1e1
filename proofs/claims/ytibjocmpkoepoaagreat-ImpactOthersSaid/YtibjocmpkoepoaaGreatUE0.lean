import Derived.Test.YtibjocmpkoepoaaGreatUD7
import Derived.Test.YtibjocmpkoepoaaGreatUD5
set_option linter.all false
open Bool renaming eq_false_or_eq_true→B3,false_eq_true→j6,not_eq_false'→B5,not_eq_true'→o3,or_eq_false_iff→C7,true→W,false→F
open List renaming cons_append→x7,drop_of_length_le→n5,length_append→k8,nil_append→y6,take_of_length_le→s4,length→O
open Nat renaming le_of_ble_eq_true→j4,lt_or_ge→y7
open Option renaming some→J,none→K
namespace Go.Proofs.YtibjocmpkoepoaaGreat
open Go.y9 Go.y9.S
attribute [local irreducible] Rx Ry Rn Ex Pf
def Yy (v:Vw):c7:= .agg (v.enc.map .d)
def gT (v:Vw):Bool :=
 if x4 v.kind 2 then !K3 v.right []&&x4 (O v.on) 0&&x4 (O v.wh) 0&&x4 (O v.items) 0&&x4 (O v.F6) 0&& !v.distinct
 else if (D5 0 (O v.on)&&K3 v.right [])||D5 8 (O v.on) then F
 else if x4 v.kind 0&&(x4 (O v.items) 0||D5 0 (O v.F6)) then F
 else if x4 v.kind 1&&(x4 (O v.F6) 0||v.distinct) then F
 else T5 (O v.items+O v.F6) 8
set_option maxHeartbeats 8000000 in
def Wu (v:Vw)(h0:O v.items<=1000)(h1:O v.F6<=1000):Pf A 217 [Yy v] (.d (.bool (gT v))):=by
 refine Pf.gr 2 ?_;refine tb (x4 v.kind 2) (λg1=>?_) (λg1=>?_)
 .repeat' (first|refine gy ?_|refine fq (λhw=>?_) λhw=>?_|refine ⟨_,rfl,?_⟩|fail)
  all_goals unfold gT
  all_goals rw [g1]
  all_goals simp [*,j5]
 refine gr ?_;refine tb ((D5 0 (O v.on)&&K3 v.right [])||D5 8 (O v.on)) (λg2=>?_) (λg2=>?_)
 .refine gr ?_
  exact ⟨_,rfl,by unfold gT;rw [g1,g2];rfl⟩
 refine gr ?_;refine tb (x4 v.kind 0&&(x4 (O v.items) 0||D5 0 (O v.F6))) (λg3=>?_) (λg3=>?_)
 .refine gr ?_
  exact ⟨_,rfl,by unfold gT;rw [g1,g2,g3];rfl⟩
 refine gr ?_;refine tb (x4 v.kind 1&&(x4 (O v.F6) 0||v.distinct)) (λg4=>?_) (λg4=>?_)
 .refine gr ?_
  exact ⟨_,rfl,by unfold gT;rw [g1,g2,g3,g4];rfl⟩
 refine gr ?_;exact ⟨_,rfl,by unfold gT;rw [g1,g2,g3,g4];rfl⟩
def nS {A:Go.y9.Prog}{l:F9}{b:Nat}{dr:Bool}{j8 ops:List x9}{T:List c7}{H:k9}{n:Nat}{rl:List c7}{l6:List y9.Touch}{Q:List c7->k9->List c7->Prop}{α:Type}{enc:α->List y9.Data}{xs:List α}{neg:Bool}{x:A3}{u:List Nat}
  (h0:0<O xs) (h2:Ry A l b dr j8 ops T H (n+1) (.d (.bool neg)::rl) l6 Q) (hx:rq T n rl x= .d (s7 enc xs):=by rfl):Ry A l b dr j8 (⟨.xJ neg x,K,K,u⟩::ops) T H n rl l6 Q :=
 Ry.pure (rs:=[]) rfl (by simp [l5,hx,s7,h0]) h2
def Ww (xs:List G4)(h0:0<O xs)(h1:O xs<=100000):Pf A 219 [.d (s7 (λs=>[.str s]) xs)] (A8 1 (λs=>[.str s]) xs):=by
 refine Pf.gr 1 ?_;refine tB (F) ?_ (λh2=>?_) (λh2=>?_)
 .repeat' (first|refine nS h0 ?_|refine gx ?_|refine fq (λhw=>?_) λhw=>?_|refine ⟨rfl,rfl,_,rfl,?_⟩|refine ⟨rfl,rfl⟩|fail)
  all_goals exact cc
 .cases h2
 refine gr ?_;exact ⟨_,rfl,rfl⟩
def Wx (xs:List Int)(h0:0<O xs)(h1:O xs<=100000):Pf A 220 [.d (ints xs)] (A8 1 (λn=>[Z n]) xs):=by
 refine Pf.gr 1 ?_;refine tB (F) ?_ (λh2=>?_) (λh2=>?_)
 .repeat' (first|refine nS h0 ?_|refine gx ?_|refine fq (λhw=>?_) λhw=>?_|refine ⟨rfl,rfl,_,rfl,?_⟩|refine ⟨rfl,rfl⟩|fail)
  all_goals exact cc
 .cases h2
 refine gr ?_;exact ⟨_,rfl,rfl⟩
def Xp (n:Nat)(h:n<=1000000)(l:F9):Pm A 279 [.N9,.d (Z n)] [] l (.own 1 0 []) []:=by
 refine ⟨1,λk hk=>?_⟩;obtain ⟨k,rfl⟩:∃j,k=j+1:=⟨k - 1,V⟩;have h1:A.aB 279=J zf:=rfl;simp only [call,h1,zf,Z];rw [if_pos V]
def Gu (l:List Int):List y9.Data:=[ints l]
set_option maxHeartbeats 4000000 in
def WG (xss:List (List Int))(h0:O xss<=100)(h1:∀i,i<O xss->O (Y xss i)<=10000):Pf A 254 [.d (s7 Gu xss)] (.d (ints xss.flatten)):=by
 refine Pf.gr 11 ?_;refine Ex.J4 (λk T H=>∃(i m:Nat),T=[.d (s7 Gu xss),.any,.d (Z m),.any,.any,.any,.d (s7 Gu xss),.d (Z (O xss)),.d (Z i),.any,.any,.any]/\H=[]/\i+k=O xss/\m<=i * 10000) ?_ (k:=O xss) ⟨0,0,rfl,rfl,U,U⟩;rintro k _ _ ⟨i,m,rfl,rfl,hk,hm⟩;refine Ex.seq ?_;refine tb (D5 i (O xss)) (λh2=>?_) (λh2=>?_)
 .have h3:=A7 h2
  have h4:=h1 i V;have h5:m<=1000000:=V
  refine gr ?_;refine tb (F) (λh6=>?_) (λh6=>?_)
  .cases h6
  refine gr ?_;exact kk ⟨i+1,m+O (Y xss i),rfl,rfl,V,V⟩
 have h3:=B8 h2;have h5:m<=1000000:=V
 have p1:=Xp m h5;clear h2 hm
 repeat' (first|refine c1 (p1 _) rfl ?_|refine gx ?_|fail)
 refine Ex.J4 (λk T H=>∃(i:Nat) (acc:List Int),T=[.any,.any,.any,.any,A8 1 (λn=>[Z n]) acc,.any,.any,.any,.any,.d (s7 Gu xss),.d (Z (O xss)),.d (Z i)]/\H=[]/\i+k=O xss/\O acc<=i * 10000/\xss.flatten=acc++(xss.drop i).flatten) ?_ (k:=O xss) ⟨0,[],rfl,rfl,U,U,U⟩;rintro k _ _ ⟨i,acc,rfl,rfl,hk,hl,hacc⟩;refine Ex.seq ?_;refine tl i (O xss) (λh6=>?_) (λh6=>?_)
 .have h7:=h1 i V
  rw [C4 V] at hacc;have h8:O acc<=1000000:=V
  refine gr ?_;exact kk ⟨i+1,acc++Y xss i,rfl,rfl,V,D,by rw [hacc];simp⟩
 .rw [n5 V] at hacc
  refine gr ?_;exact ⟨_,rfl,by rw [hacc];simp [j5,ints,s7]⟩
def agr (a:sZ):c7:= .agg (a.enc.map .d)
def ia (ty:List Int)(a:sZ):Int×Int :=
 if x4 a.func 0 then (if D5 0 (O a.expr) then (0,1) else (1,0))
 else if x4 a.func 1||x4 a.func 2||x4 a.func 3||x4 a.func 4 then (if !x4 (J7 a.expr ty).2 0 then (0,(J7 a.expr ty).2) else if x4 a.func 1&& !x4 (J7 a.expr ty).1 1 then (0,5) else ((J7 a.expr ty).1,0))
 else (0,1)
set_option maxHeartbeats 8000000 in
def WH (ty:List Int)(a:sZ)(h0:O a.expr<=1000)(h1:O ty<=100000):Pf A 259 [agr a,.d (ints ty)] (pair (ia ty a)):=by
 have p1:=LW a.expr ty h0 h1;unfold pair at p1;refine Pf.go 7 ?_
 repeat' (first|refine cl (p1) ?_|refine gy ?_|refine fq (λhw=>?_) λhw=>?_|refine ⟨_,rfl,?_⟩|fail)
 all_goals unfold ia pair
 all_goals first|(simp [*,j5,c7.I7,Z];done)|(simp_all [j5,c7.I7,Z];done)
def l9:F9:=⟨0,0,10,10⟩
def VX:F9:=⟨0,10,10,10⟩
def xM (nm:List G4)(ty:List Int):List c7:=[A8 1 encS nm,A8 1 (λn=>[Z n]) ty]
def Xj (a0 ax a1 a2 a3 a4 a5 a7:s6)(ty:List Int)(x:tM)(h0:O x.expr<=1000)(h1:O ty<=100000) :
  Pm A 257 [.ptr 9 0,.ptr 7 0] [a0,ax,a1,a2,a3,a4,a5,.cells [.d (ints ty)],a7,.cells (x.enc.map .d)] VX (pair (J7 x.expr ty)) [a0,ax,a1,a2,a3,a4,a5,.cells [.d (ints ty)],a7,.cells (x.enc.map .d)]:=by
 have p1:=LW x.expr ty h0 h1;unfold pair at *
 suffices h:Pq A 257 [.ptr 9 0,.ptr 7 0] [a0,ax,a1,a2,a3,a4,a5,.cells [.d (ints ty)],a7,.cells (x.enc.map .d)] VX λv H1=>v= .tuple [.d (Z (J7 x.expr ty).1),.d (Z (J7 x.expr ty).2)]/\H1=[a0,ax,a1,a2,a3,a4,a5,.cells [.d (ints ty)],a7,.cells (x.enc.map .d)] by
  obtain ⟨v,H1,⟨rfl,rfl⟩,h⟩:=h;exact h
 refine Pq.go 2 ?_;refine gc p1 ?_;exact ⟨_,_,rfl,rfl,rfl⟩
def Xk (a0 ax a1 a2 a3 a4 a5 a7:s6)(ty:List Int)(x:sZ)(h0:O x.expr<=1000)(h1:O ty<=100000) :
  Pm A 258 [.ptr 9 0,.ptr 7 0] [a0,ax,a1,a2,a3,a4,a5,.cells [.d (ints ty)],a7,.cells (x.enc.map .d)] VX (pair (ia ty x)) [a0,ax,a1,a2,a3,a4,a5,.cells [.d (ints ty)],a7,.cells (x.enc.map .d)]:=by
 have p1:=WH ty x h0 h1;unfold pair at *
 suffices h:Pq A 258 [.ptr 9 0,.ptr 7 0] [a0,ax,a1,a2,a3,a4,a5,.cells [.d (ints ty)],a7,.cells (x.enc.map .d)] VX λv H1=>v= .tuple [.d (Z (ia ty x).1),.d (Z (ia ty x).2)]/\H1=[a0,ax,a1,a2,a3,a4,a5,.cells [.d (ints ty)],a7,.cells (x.enc.map .d)] by
  obtain ⟨v,H1,⟨rfl,rfl⟩,h⟩:=h;exact h
 refine Pq.go 2 ?_;refine gc p1 ?_;exact ⟨_,_,rfl,rfl,rfl⟩
def eU (nm:List G4)(s:G4)(r:Int×Int):Int:=if !J3 s then 3 else if nm.any λy=>K3 y s then 4 else if !x4 r.2 0 then r.2 else 0
def xg (nm:List G4)(s:G4)(r:Int×Int):List G4:=if x4 (eU nm s r) 0 then nm++[s] else nm
def xh (nm:List G4)(ty:List Int)(s:G4)(r:Int×Int):List Int:=if x4 (eU nm s r) 0 then ty++[r.1] else ty
set_option maxHeartbeats 8000000 in
def QU (f:FuncId)(Se:A.prom f=F)(hf2:A.mode f=1)(a0 ax a1 a2 a3 a4 a5:s6)(ty:List Int)(nm:List G4)(tys:List Int)(cs:List y9.Data)(s:G4)(r:Int×Int)(hn:O nm<=10000)(ht:O tys<=10000)
  (hc:∀a7,Pm A f [.ptr 9 0,.ptr 7 0] [a0,ax,a1,a2,a3,a4,a5,.cells [.d (ints ty)],a7,.cells (cs.map .d)] VX (pair r) [a0,ax,a1,a2,a3,a4,a5,.cells [.d (ints ty)],a7,.cells (cs.map .d)]) :
  Pm A 256 [.ptr 8 0,.d (.str s),.func f [] [.ptr 9 0,.ptr 7 0]] [a0,ax,a1,a2,a3,a4,a5,.cells [.d (ints ty)],.cells (xM nm tys),.cells (cs.map .d)] l9 (.d (Z (eU nm s r)))
   [a0,ax,a1,a2,a3,a4,a5,.cells [.d (ints ty)],.cells (xM (xg nm s r) (xh nm tys s r)),.cells (cs.map .d)]:=by
 have p1:=hc (.cells (xM nm tys));have p2:=QJ nm s V;unfold pair at p1
 suffices h:Pq A 256 [.ptr 8 0,.d (.str s),.func f [] [.ptr 9 0,.ptr 7 0]] [a0,ax,a1,a2,a3,a4,a5,.cells [.d (ints ty)],.cells (xM nm tys),.cells (cs.map .d)] l9 λv H1=>v= .d (Z (eU nm s r))/\H1=[a0,ax,a1,a2,a3,a4,a5,.cells [.d (ints ty)],.cells (xM (xg nm s r) (xh nm tys s r)),.cells (cs.map .d)] by
  obtain ⟨v,H1,⟨rfl,rfl⟩,h⟩:=h;exact h
 have same:∀e,eU nm s r=e->x4 e 0=F->xg nm s r=nm/\xh nm tys s r=tys:=λe h1 h2=>by unfold xg xh;rw [h1,h2];exact ⟨rfl,rfl⟩
 have VB:roomFor (O nm+1) 16=W:=by simp only [roomFor,decide_eq_true_eq];omega
 have Fb:roomFor (O tys+1) 8=W:=by simp only [roomFor,decide_eq_true_eq];omega
 refine Pq.go 3 ?_;refine gr ?_;refine tc (!J3 s) LV (λh1=>?_) (λh1=>?_)
 .have e1:eU nm s r=3:=by unfold eU;rw [h1];rfl
  have e2:=same 3 e1 (by simp [o6]);refine gr ?_;exact ⟨_,_,rfl,by rw [e1];rfl,by rw [e2.1,e2.2];rfl⟩
 unfold xM;refine gr ?_;refine tc (nm.any λy=>K3 y s) p2 (λh2=>?_) (λh2=>?_)
 .have e1:eU nm s r=4:=by unfold eU;rw [h1,h2];rfl
  have e2:=same 4 e1 (by simp [o6]);refine gr ?_;exact ⟨_,_,rfl,by rw [e1];rfl,by rw [e2.1,e2.2];rfl⟩
 unfold xM at p1
 repeat' (first|refine cv1 (ee:=Se) (hm:=hf2) p1 rfl ?_|refine gx ?_|fail)
 refine tb (!x4 r.2 0) (λh3=>?_) (λh3=>?_)
 .have e1:eU nm s r=r.2:=by unfold eU;rw [h1,h2,h3];rfl
  have e2:=same _ e1 (by simpa using h3);refine gr ?_;exact ⟨_,_,rfl,by rw [e1];rfl,by rw [e2.1,e2.2];rfl⟩
 have e1:eU nm s r=0:=by unfold eU;rw [h1,h2,h3];rfl
 have e2:xg nm s r=nm++[s]:=by unfold xg;rw [e1];simp [o6]
 have e3:xh nm tys s r=tys++[r.1]:=by unfold xh;rw [e1];simp [o6]
 refine gr ?_;refine ac1 (a:=s) (xs:=nm) (enc:=encS) VB rfl (h2:=?_);refine gr ?_;refine ac1 (a:=r.1) (xs:=tys) (enc:=λn=>[Z n]) Fb rfl (h2:=?_)
 repeat' (first|refine Bp (h2:=?_)|refine gx ?_|fail)
 exact ⟨_,_,rfl,by rw [e1];rfl,by rw [e2,e3];rfl⟩
def Ex.Re {A:Go.y9.Prog}{l:F9}{b:Nat}{c:K7}{st:St}{R:G6->St->Prop}{go:St->Prop}(P:St->Prop)(h1:Ex A l b c st (jO R P))(h2:∀s,P s->go s):Ex A l b c st (jO R go):=by
 refine h1.mono λx s h=>?_
 cases x with
 |normal=>exact h2 s h
 |exit i=>exact h
 |ret=>exact h
def fN (v:Vw)(L R:List Int):Int :=
 if !x4 (L6 L R v.on) 0 then L6 L R v.on
 else if D5 0 (O v.wh)&& !x4 (J7 v.wh (L++R)).2 0 then (J7 v.wh (L++R)).2
 else if D5 0 (O v.wh)&& !x4 (J7 v.wh (L++R)).1 1 then 5
 else V1 (L++R) [] (aA v)
def Au (ss:List cU)(v:Vw)(L R:List Int):List cU:=if x4 (fN v L R) 0 then ss++[(v.name,(aA v).map xS.name,W1 v (L++R))] else ss
def uP {ty:List Int}{seen:List G4}{x:tM}{r:List xS}:V1 ty seen (⟨F,x.name, -1,x.expr⟩::r)=if !x4 (eU seen x.name (J7 x.expr ty)) 0 then eU seen x.name (J7 x.expr ty) else V1 ty (seen++[x.name]) r:=by
 have h3:x4 3 0=F:=by simp [o6]
 have h4:x4 4 0=F:=by simp [o6]
 have h0:x4 0 0=W:=by simp [o6]
 simp only [V1,eU,Bool.false_and,j6,if_false]
 rcases B3 (J3 x.name) with c1|c1
 .rcases B3 (seen.any λy=>K3 y x.name) with c2|c2
  .simp only [c1,c2,Bool.not_true,j6,if_false,if_true,h4,Bool.not_false]
  .rcases B3 (x4 (J7 x.expr ty).2 0) with c3|c3
   .simp only [c1,c2,c3,Bool.not_true,j6,if_false,h0]
   .simp only [c1,c2,c3,Bool.not_true,Bool.not_false,j6,if_false,if_true]
 .simp only [c1,Bool.not_false,if_true,h3]
def xA {ty:List Int}{seen:List G4}{x:sZ}{r:List xS}:V1 ty seen (⟨W,x.name,x.func,x.expr⟩::r)=if !x4 (eU seen x.name (ia ty x)) 0 then eU seen x.name (ia ty x) else V1 ty (seen++[x.name]) r:=by
 have h1:x4 1 0=F:=by simp [o6]
 have h3:x4 3 0=F:=by simp [o6]
 have h4:x4 4 0=F:=by simp [o6]
 have h6:x4 5 0=F:=by simp [o6]
 have h0:x4 0 0=W:=by simp [o6]
 simp only [V1,eU,Bool.true_and]
 rcases B3 (J3 x.name) with c1|c1
 .rcases B3 (seen.any λy=>K3 y x.name) with c2|c2
  .simp only [c1,c2,Bool.not_true,j6,if_false,if_true,h4,Bool.not_false]
  .simp only [c1,c2,Bool.not_true,j6,if_false,ia]
   rcases B3 (x4 x.func 0) with f0|f0
   .have hw:p9 x.func 0 4=W:=by have:=W6 f0;simp [p9,x6];omega
    rcases B3 (D5 0 (O x.expr)) with c5|c5
    .simp only [f0,hw,c5,Bool.not_true,Bool.and_self,Bool.or_true,if_true,h1,Bool.not_false]
    .simp only [f0,hw,c5,Bool.not_true,Bool.and_false,Bool.or_self,j6,if_false,if_true,h0]
   .rcases B3 (p9 x.func 0 4) with hw|hw
    .have hf:(x4 x.func 1||x4 x.func 2||x4 x.func 3||x4 x.func 4)=W:=by
      have:=jF f0;simp [p9,x6] at hw;simp [o6];omega
     simp only [f0,hw,hf,Bool.not_true,Bool.false_and,Bool.or_self,j6,if_false,if_true]
     rcases B3 (x4 (J7 x.expr ty).2 0) with c5|c5
     .rcases B3 (x4 x.func 1&& !x4 (J7 x.expr ty).1 1) with c6|c6
      .simp only [c5,c6,Bool.not_true,Bool.not_false,j6,if_false,if_true,h6]
      .simp only [c5,c6,Bool.not_true,j6,if_false,h0]
     .simp only [c5,Bool.not_false,if_true]
    .have hf:(x4 x.func 1||x4 x.func 2||x4 x.func 3||x4 x.func 4)=F:=by
      simp [p9,x6] at hw;simp [o6];omega
     simp only [f0,hw,hf,Bool.not_false,Bool.true_or,j6,if_false,if_true,h1]
 .simp only [c1,Bool.not_false,if_true,h3]
def Nu {ty:List Int}{x:sZ}(h:x4 (ia ty x).2 0=W):(ia ty x).1=rL ty x:=by
 have h1:x4 1 0=F:=by simp [o6]
 have h6:x4 5 0=F:=by simp [o6]
 unfold ia at h ⊢;unfold rL;cases f0:x4 x.func 0 with
 |true =>
  rw [f0] at h;cases h5:D5 0 (O x.expr) with
  |true=>rw [h5] at h;simp [h1] at h
  |false=>simp
 |false =>
  rw [f0] at h;simp only [j6,if_false,Bool.false_or] at h ⊢;cases h2:(x4 x.func 1||x4 x.func 2||x4 x.func 3||x4 x.func 4) with
  |false=>rw [h2] at h;simp [h1] at h
  |true =>
   rw [h2] at h;simp only [if_true] at h ⊢;cases h3:x4 (J7 x.expr ty).2 0 with
   |false=>rw [h3] at h;simp [h3] at h
   |true =>
    rw [h3] at h;simp only [Bool.not_true,j6,if_false] at h ⊢;cases f1:x4 x.func 1 with
    |false=>simp
    |true =>
     rw [f1] at h;cases h4:x4 (J7 x.expr ty).1 1 with
     |false=>rw [h4] at h;simp [h6] at h
     |true=>simpa using W6 h4
set_option maxHeartbeats 32000000 in
def Xg [Inhabited XO] (c:o9)(ds:List G4)(ss:List cU)(v:Vw)(L R:List Int)(hL:O L<=5000)(hR:O R<=5000)(h0:O v.on<=1000)(h1:O v.wh<=1000)(h2:O v.items<=1000)(h3:O v.F6<=1000)(h4:∀i,i<O v.items->O (Y v.items i).expr<=1000)(h5:∀i,i<O v.F6->O (Y v.F6 i).expr<=1000)
  (hs:((ss.map (·.1)).any λy=>K3 y v.name)=F) (hss:O ss<=1000):Pm A 221 [.ptr 5 0,vw v,.d (ints L),.d (ints R)] (HH c ds ss) lW (.d (Z (fN v L R))) (HH c ds (Au ss v L R)):=by
 suffices h:Pq A 221 [.ptr 5 0,vw v,.d (ints L),.d (ints R)] (HH c ds ss) lW λw H1=>w= .d (Z (fN v L R))/\H1=HH c ds (Au ss v L R) by
  obtain ⟨w,H1,⟨rfl,rfl⟩,h⟩:=h;exact h
 have same:∀e,fN v L R=e->x4 e 0=F->Au ss v L R=ss:=λe g1 g2=>by unfold Au;rw [g1,g2];rfl
 have LO:=Me c ds ss v.name ((aA v).map xS.name) (W1 v (L++R)) hs hss;have We:=WG [L,R] U (by
  intro i hi
  match i,hi with
  |0,_=>rw [O2];omega
  |1,_=>rw [aS,O2];omega)
 have pW:=LW v.wh (L++R) h1 D;unfold pair at pW;have hfl:[L,R].flatten=L++R:=U
 rw [hfl] at We;have hTl:O (L++R)<=100000:=D
 unfold HH at *
 refine Pq.go 20 ?_;refine gr ?_;refine Ex.L9 (λk T H=>∃(i:Nat),T=[.ptr 5 0,.any,.d (ints L),.d (ints R),.ptr 6 0,.any,.any,.any,.any,.any,.any,.any,.any,.any,.any,.d (s7 (λp=>[Z p.1,Z p.2]) v.on),.d (Z (O v.on)),.d (Z i),.any,.any,.any,.any,.any,.any]/\H=[xa,xo,.cells (c.enc.map .d),.map (dmap ds),.map (cH (ss.map (·.1)) 0),.cells (c.enc.map .d++[.map 3,.map 4,A8 2 U4 ss]),.cells (v.enc.map .d)]/\i+k=O v.on/\L6 L R v.on=L6 L R (v.on.drop i)) ?_ (k:=O v.on) ⟨0,rfl,rfl,U,U⟩;rintro k _ _ ⟨i,rfl,rfl,hk,hi⟩;refine Ex.seq ?_;refine tb (D5 i (O v.on)) (λg1=>?_) (λg1=>?_)
 .have g2:=A7 g1
  rw [C4 V] at hi;refine gr ?_;refine tc (!p9 (Y v.on i).1 0 (O L - 1)|| !p9 (Y v.on i).2 0 (O R - 1)) kM (λg3=>?_) (λg3=>?_)
  .have e1:L6 L R v.on=3:=by rw [hi,L6,g3];rfl
   have e2:fN v L R=3:=by unfold fN;rw [e1];simp [o6]
   refine gr ?_;exact ⟨_,_,rfl,by rw [e2];rfl,by rw [same 3 e2 (by simp [o6])];rfl⟩
  have g4:=g3;simp [p9,x6] at g4;refine gr ?_;refine tb (!x4 (Y L (Y v.on i).1.toNat) (Y R (Y v.on i).2.toNat)) (λg5=>?_) (λg5=>?_)
  .have e1:L6 L R v.on=5:=by rw [hi,L6,g3,g5];rfl
   have e2:fN v L R=5:=by unfold fN;rw [e1];simp [o6]
   refine gr ?_;exact ⟨_,_,rfl,by rw [e2];rfl,by rw [same 5 e2 (by simp [o6])];rfl⟩
  .refine gr ?_
   exact kk ⟨_,_,rfl,i+1,rfl,rfl,V,by rw [hi,L6,g3,g5];rfl⟩
 have g2:=B8 g1;rw [n5 V] at hi;have e0:(!x4 (L6 L R v.on) 0)=F:=by rw [hi];simp [L6,o6]
 clear g1 g2 hk hi;refine gc We ?_;refine Ex.Re (λs=>∃(w1 w2 w3 w5 w6 w8 w9 rG El Em En XM w15 w16 w17 w18 w19 Up Uq Ur Us:c7),s=⟨[.ptr 5 0,w1,w2,w3,.ptr 6 0,w5,w6,.ptr 7 0,w8,w9,rG,El,Em,En,XM,w15,w16,w17,w18,w19,Up,Uq,Ur,Us],[xa,xo,.cells (c.enc.map .d),.map (dmap ds),.map (cH (ss.map (·.1)) 0),.cells (c.enc.map .d++[.map 3,.map 4,A8 2 U4 ss]),.cells (v.enc.map .d),.cells [.d (ints (L++R))]]⟩/\fN v L R=V1 (L++R) [] (aA v)) ?_ ?_
 .skip
  refine tb (D5 0 (O v.wh)) (λg6=>?_) (λg6=>?_)
  .refine gc pW ?_
   refine tb (!x4 (J7 v.wh (L++R)).2 0) (λg7=>?_) (λg7=>?_)
   .have e1:fN v L R=(J7 v.wh (L++R)).2:=by unfold fN;rw [e0,g6,g7];rfl
    refine gr ?_;exact ⟨_,_,rfl,by rw [e1];rfl,by rw [same _ e1 (by simpa using g7)];rfl⟩
   refine gr ?_;refine tb (!x4 (J7 v.wh (L++R)).1 1) (λg8=>?_) (λg8=>?_)
   .have e1:fN v L R=5:=by unfold fN;rw [e0,g6,g7,g8];rfl
    refine gr ?_;exact ⟨_,_,rfl,by rw [e1];rfl,by rw [same 5 e1 (by simp [o6])];rfl⟩
   .have e1:fN v L R=V1 (L++R) [] (aA v):=by unfold fN;rw [e0,g6,g7,g8];rfl
    refine gr ?_;exact ⟨_,_,_,_,_,_,_,_,_,_,_,_,_,_,_,_,_,_,_,_,_,rfl,e1⟩
  .have e1:fN v L R=V1 (L++R) [] (aA v):=by unfold fN;rw [e0,g6];rfl
   refine gr ?_;exact ⟨_,_,_,_,_,_,_,_,_,_,_,_,_,_,_,_,_,_,_,_,_,rfl,e1⟩
 rintro _ ⟨w1,w2,w3,w5,w6,w8,w9,rG,El,Em,En,XM,w15,w16,w17,w18,w19,Up,Uq,Ur,Us,rfl,hin⟩;refine gr ?_;refine Ex.L9 (λk T H=>∃(i:Nat) (nm:List G4) (tys:List Int),T=[.ptr 5 0,.any,.any,.any,.ptr 6 0,.any,.any,.ptr 7 0,.any,.any,.ptr 8 0,.any,.any,.any,.any,.any,.any,.any,.d (s7 tM.enc v.items),.d (Z (O v.items)),.d (Z i),.any,.any,.any]/\H=[xa,xo,.cells (c.enc.map .d),.map (dmap ds),.map (cH (ss.map (·.1)) 0),.cells (c.enc.map .d++[.map 3,.map 4,A8 2 U4 ss]),.cells (v.enc.map .d),.cells [.d (ints (L++R))],.cells (xM nm tys)]/\i+k=O v.items/\nm=(v.items.take i).map tM.name/\tys=(v.items.take i).map (λx=>(J7 x.expr (L++R)).1)/\fN v L R=V1 (L++R) nm ((aA v).drop i)) ?_ (k:=O v.items) ⟨0,[],[],rfl,rfl,U,U,U,by simpa using hin⟩;rintro k _ _ ⟨i,nm,tys,rfl,rfl,hk,hnm,nU,hi⟩;have JC:O nm=i:=by rw [hnm];simp;omega
 have jH:O tys=i:=by rw [nU];simp;omega
 refine Ex.seq ?_;refine tb (D5 i (O v.items)) (λg1=>?_) (λg1=>?_)
 .have g2:=A7 g1
  have hel:=iA v;rw [C4 V,qB v V,uP] at hi;have To:=QU 257 rfl rfl xa xo (.cells (c.enc.map .d)) (.map (dmap ds)) (.map (cH (ss.map (·.1)) 0)) (.cells (c.enc.map .d++[.map 3,.map 4,A8 2 U4 ss])) (.cells (v.enc.map .d)) (L++R) nm tys (Y v.items i).enc (Y v.items i).name (J7 (Y v.items i).expr (L++R)) V V (λa7=>Xj xa xo (.cells (c.enc.map .d)) (.map (dmap ds)) (.map (cH (ss.map (·.1)) 0)) (.cells (c.enc.map .d++[.map 3,.map 4,A8 2 U4 ss])) (.cells (v.enc.map .d)) a7 (L++R) (Y v.items i) (h4 i V) hTl)
  repeat' (first|refine c0 To rfl (h2:=?_)|refine gx ?_|fail)
  refine tb (!x4 (eU nm (Y v.items i).name (J7 (Y v.items i).expr (L++R))) 0) (λg3=>?_) (λg3=>?_)
  .rw [g3,if_pos rfl] at hi
   refine gr ?_;exact ⟨_,_,rfl,by rw [hi];rfl,by rw [same _ hi (by simpa using g3)];rfl⟩
  .rw [g3,if_neg U] at hi
   have e1:x4 (eU nm (Y v.items i).name (J7 (Y v.items i).expr (L++R))) 0=W:=by simpa using g3
   have e2:xg nm (Y v.items i).name (J7 (Y v.items i).expr (L++R))=nm++[(Y v.items i).name]:=by unfold xg;rw [e1];rfl
   have e3:xh nm tys (Y v.items i).name (J7 (Y v.items i).expr (L++R))=tys++[(J7 (Y v.items i).expr (L++R)).1]:=by unfold xh;rw [e1];rfl
   rw [e2,e3];refine gr ?_;exact kk ⟨_,_,rfl,i+1,nm++[(Y v.items i).name],tys++[(J7 (Y v.items i).expr (L++R)).1],rfl,rfl,V,by rw [E4 V,hnm];simp,by rw [E4 V,nU];simp,hi⟩
 have g2:=B8 g1;rw [s4 V] at hnm nU;have hie:i=O v.items:=V
 subst hie;clear g1 g2 hk;refine gr ?_;refine Ex.L9 (λk T H=>∃(i:Nat) (He:List G4) (Bg:List Int),T=[.ptr 5 0,.any,.any,.any,.ptr 6 0,.any,.any,.ptr 7 0,.any,.any,.ptr 8 0,.any,.any,.any,.any,.any,.any,.any,.any,.any,.any,.d (s7 sZ.enc v.F6),.d (Z (O v.F6)),.d (Z i)]/\H=[xa,xo,.cells (c.enc.map .d),.map (dmap ds),.map (cH (ss.map (·.1)) 0),.cells (c.enc.map .d++[.map 3,.map 4,A8 2 U4 ss]),.cells (v.enc.map .d),.cells [.d (ints (L++R))],.cells (xM He Bg)]/\i+k=O v.F6/\He=nm++(v.F6.take i).map sZ.name/\Bg=tys++(v.F6.take i).map (rL (L++R))/\fN v L R=V1 (L++R) He ((aA v).drop (O v.items+i))) ?_ (k:=O v.F6) ⟨0,nm,tys,rfl,rfl,U,U,U,hi⟩;clear hi;rintro k _ _ ⟨i,He,Bg,rfl,rfl,hk,Oc,Iv,hi⟩;have hl3:O He=O v.items+i:=by rw [Oc,k8,JC];simp;omega
 have hl4:O Bg=O v.items+i:=by rw [Iv,k8,jH];simp;omega
 refine Ex.seq ?_;have hel:=iA v;refine tl i (O v.F6) (λg2=>?_) (λg2=>?_)
 .rw [C4 V,uO v V V,Nat.add_sub_cancel_left,xA] at hi
  have To:=QU 258 rfl rfl xa xo (.cells (c.enc.map .d)) (.map (dmap ds)) (.map (cH (ss.map (·.1)) 0)) (.cells (c.enc.map .d++[.map 3,.map 4,A8 2 U4 ss])) (.cells (v.enc.map .d)) (L++R) He Bg (Y v.F6 i).enc (Y v.F6 i).name (ia (L++R) (Y v.F6 i)) V V (λa7=>Xk xa xo (.cells (c.enc.map .d)) (.map (dmap ds)) (.map (cH (ss.map (·.1)) 0)) (.cells (c.enc.map .d++[.map 3,.map 4,A8 2 U4 ss])) (.cells (v.enc.map .d)) a7 (L++R) (Y v.F6 i) (h5 i V) hTl)
  repeat' (first|refine c0 To rfl (h2:=?_)|refine gx ?_|fail)
  refine tb (!x4 (eU He (Y v.F6 i).name (ia (L++R) (Y v.F6 i))) 0) (λg3=>?_) (λg3=>?_)
  .rw [g3,if_pos rfl] at hi
   refine gr ?_;exact ⟨_,_,rfl,by rw [hi];rfl,by rw [same _ hi (by simpa using g3)];rfl⟩
  .rw [g3,if_neg U] at hi
   have e1:x4 (eU He (Y v.F6 i).name (ia (L++R) (Y v.F6 i))) 0=W:=by simpa using g3
   have e2:xg He (Y v.F6 i).name (ia (L++R) (Y v.F6 i))=He++[(Y v.F6 i).name]:=by unfold xg;rw [e1];rfl
   have e3:xh He Bg (Y v.F6 i).name (ia (L++R) (Y v.F6 i))=Bg++[(ia (L++R) (Y v.F6 i)).1]:=by unfold xh;rw [e1];rfl
   have e4:x4 (ia (L++R) (Y v.F6 i)).2 0=W:=by
    have e5:=W6 e1;unfold eU at e5;cases c1:(!J3 (Y v.F6 i).name) with
    |true=>rw [c1] at e5;simp at e5
    |false =>
     rw [c1] at e5;cases c2:He.any λy=>K3 y (Y v.F6 i).name with
     |true=>rw [c2] at e5;simp at e5
     |false =>
      rw [c2] at e5;cases c3:x4 (ia (L++R) (Y v.F6 i)).2 0 with
      |true=>rfl
      |false=>rw [c3] at e5;simp at e5;rw [e5] at c3;simp [o6] at c3
   rw [e2,e3];refine gr ?_;exact kk ⟨_,_,rfl,i+1,He++[(Y v.F6 i).name],Bg++[(ia (L++R) (Y v.F6 i)).1],rfl,rfl,V,by rw [E4 V,Oc];simp,by rw [E4 V,Iv,Nu e4];simp,hi⟩
 .rw [s4 V] at Oc Iv
  rw [n5 V] at hi;have e1:fN v L R=0:=hi;have e2:Au ss v L R=ss++[(v.name,(aA v).map xS.name,W1 v (L++R))]:=by unfold Au;rw [e1];simp [o6]
  have e3:He=(aA v).map xS.name:=by rw [Oc,hnm];simp [aA,Function.comp_def]
  have e4:Bg=W1 v (L++R):=by rw [Iv,nU];rfl
  rw [e2,e3,e4];refine gr ?_;unfold xM
  repeat' (first|refine c0 LO rfl (h2:=?_)|refine gx ?_|fail)
  exact ⟨_,_,rfl,by rw [e1];rfl,rfl⟩
def Ex.nH {A:Go.y9.Prog}{l:F9}{b:Nat}{c:K7}{T:List c7}{H:k9}{Q:G6->St->Prop}(H2:k9)(hH:H=H2)(h:Ex A l b c ⟨T,H2⟩ Q):Ex A l b c ⟨T,H⟩ Q:=hH ▸ h
def Rn.z {A:Go.y9.Prog}{l:F9}{b:Nat}{ops:List x9}{Q:List c7->k9->List c7->Prop}{T:List c7}{H:k9}(s na:Nat)(H' :k9)(qG:S8 ops=[.dead])(qo:slotsOf ops=[.slot s])(hu:∀i,i∈ops->∀e,e∈i.Y2->e<O ops)(hH:H++[.dead]=H')(hna:O H=na)(h:Rz A l b ops ops T H' 0 [] [.slot s] na Q):Rn A l b ops W T H Q:=by
 subst hH hna;exact Rn.am9 qG qo hu h
def lpA {A:Go.y9.Prog}{l:F9}{b:Nat}{dr:Bool}{j8 ops:List x9}{T:List c7}{H:k9}{n:Nat}{rl:List c7}{l6:List y9.Touch}{Q:List c7->k9->List c7->Prop}{x:A3}{u:List Nat}{id o:Nat}{w v:c7}(hv:w.I7=v)(h2:Ry A l b dr j8 ops T H (n+1) (v::rl) l6 Q)(hx:rq T n rl x= .ptr id o:=by rfl)(hr:rd H id o 1=J [w]:=by rfl) :
  Ry A l b dr j8 (⟨.load K x,K,K,u⟩::ops) T H n rl l6 Q:=Ry.pure (rs:=[id]) rfl (by simp only [l5,hx,hr,hv]) h2
def Y1 (ss:List cU)(s:G4):cU:=Y ss (F7 s (ss.map (·.1)) 0).toNat
def Bn (ss:List cU)(v:Vw):cU:=if K3 v.right [] then ([],[],[]) else Y1 ss v.right
def cq (ss:List cU)(ds:List G4)(v:Vw):Int :=
 if !x4 (N4 ds v.name) 0 then N4 ds v.name
 else if !x4 v.kind 0&& !x4 v.kind 1&& !x4 v.kind 2 then 1
 else if D5 (F7 v.left (ss.map (·.1)) 0) 0||(!K3 v.right []&&D5 (F7 v.right (ss.map (·.1)) 0) 0) then 7
 else if !gT v then 1
 else if x4 v.kind 2 then (if !cK x4 (Y1 ss v.left).2.2 (Bn ss v).2.2 then 5 else 0)
 else fN v (Y1 ss v.left).2.2 (Bn ss v).2.2
def mP (ss:List cU)(ds:List G4)(v:Vw):List cU :=
 if x4 (cq ss ds v) 0 then (if x4 v.kind 2 then ss++[(v.name,(Y1 ss v.left).2.1,(Y1 ss v.left).2.2)] else ss++[(v.name,(aA v).map xS.name,W1 v ((Y1 ss v.left).2.2++(Bn ss v).2.2))]) else ss
set_option maxHeartbeats 32000000 in
def ar7 [Inhabited XO] (c:o9)(ds:List G4)(ss:List cU)(i:Nat)(hi:i<O c.views)(h0:O (Y c.views i).on<=1000)(h1:O (Y c.views i).wh<=1000)(h2:O (Y c.views i).items<=1000)(h3:O (Y c.views i).F6<=1000)(h4:∀j,j<O (Y c.views i).items->O (Y (Y c.views i).items j).expr<=1000)(h5:∀j,j<O (Y c.views i).F6->O (Y (Y c.views i).F6 j).expr<=1000)
  (hss:O ss<=1000) (ht:∀k,k<O ss->0<O (Y ss k).2.1/\O (Y ss k).2.1<=5000/\0<O (Y ss k).2.2/\O (Y ss k).2.2<=5000) (hsub:∀s,(ds.any λy=>K3 y s)=F->((ss.map (·.1)).any λy=>K3 y s)=F) :
  Pm A 150 [.ptr 5 0,.d (Z i)] (HH c ds ss) lW (.d (Z (cq ss ds (Y c.views i)))) (HH c (L8 ds (Y c.views i).name) (mP ss ds (Y c.views i))):=by
 generalize hx:Y c.views i=v at *
 have nJ:=sK c ds ss v.name;have pL:=Fw c (L8 ds v.name) ss v.left;have pR:=Fw c (L8 ds v.name) ss v.right;have bL:=vq ss v.left;have bR:=vq ss v.right;have an1:=Wu v h2 h3;have hno:N4 ds v.name=0->((ss.map (·.1)).any λy=>K3 y v.name)=F:=λh=>by
  refine hsub _ ?_;unfold N4 at h;cases c1:(!J3 v.name) with
  |true=>rw [c1] at h;simp at h
  |false =>
   rw [c1] at h;cases c2:ds.any λy=>K3 y v.name with
   |false=>rfl
   |true=>rw [c2] at h;simp at h
 suffices h:Pq A 150 [.ptr 5 0,.d (Z i)] (HH c ds ss) lW λw H1=>w= .d (Z (cq ss ds v))/\H1=HH c (L8 ds v.name) (mP ss ds v) by
  obtain ⟨w,H1,⟨rfl,rfl⟩,h⟩:=h;exact h
 have same:∀e,cq ss ds v=e->x4 e 0=F->mP ss ds v=ss:=λe g1 g2=>by unfold mP;rw [g1,g2];rfl
 have SQ:∀L R:List Int,O L<=5000->O R<=5000->N4 ds v.name=0->Pm A 221 [.ptr 5 0,vw v,.d (ints L),.d (ints R)] (HH c (L8 ds v.name) ss) lW (.d (Z (fN v L R))) (HH c (L8 ds v.name) (Au ss v L R)):=λL R hL hR hd=>Xg c (L8 ds v.name) ss v L R hL hR h0 h1 h2 h3 h4 h5 (hno hd) hss
 have LO:∀nm ty,N4 ds v.name=0->Pm A 212 [.ptr 5 0,.d (.str v.name),Gm nm ty] (HH c (L8 ds v.name) ss) lW (.tuple []) (HH c (L8 ds v.name) (ss++[(v.name,nm,ty)])):=λnm ty hd=>Me c (L8 ds v.name) ss v.name nm ty (hno hd) hss
 unfold HH at *
 refine Pq.go 5 ?_;refine gr ?_;rw [hx]
 repeat' (first|refine c0 nJ rfl (h2:=?_)|refine gx ?_|fail)
 refine tb (!x4 (N4 ds v.name) 0) (λg1=>?_) (λg1=>?_)
 .have e1:cq ss ds v=N4 ds v.name:=by unfold cq;rw [g1];rfl
  refine gr ?_;exact ⟨_,_,rfl,by rw [e1];rfl,by rw [same _ e1 (by simpa using g1)];rfl⟩
 have hd0:N4 ds v.name=0:=W6 (by simpa using g1);refine gr ?_;refine tb (!x4 v.kind 0&& !x4 v.kind 1&& !x4 v.kind 2) (λg2=>?_) (λg2=>?_)
 .have e1:cq ss ds v=1:=by unfold cq;rw [g1,g2];rfl
  refine gr ?_;exact ⟨_,_,rfl,by rw [e1];rfl,by rw [same 1 e1 (by simp [o6])];rfl⟩
 refine gr ?_;refine tB (D5 (F7 v.left (ss.map (·.1)) 0) 0||(!K3 v.right []&&D5 (F7 v.right (ss.map (·.1)) 0) 0)) ?_ (λg3=>?_) (λg3=>?_)
 .repeat' (first|refine c1 pL rfl ?_|refine c1 pR rfl ?_|refine gx ?_|refine fq (λhw=>?_) λhw=>?_|refine ⟨rfl,rfl,_,rfl,?_⟩|refine ⟨rfl,rfl⟩|fail)
  all_goals exact cc
 .have e1:cq ss ds v=7:=by unfold cq;rw [g1,g2,g3];rfl
  refine gr ?_;exact ⟨_,_,rfl,by rw [e1];rfl,by rw [same 7 e1 (by simp [o6])];rfl⟩
 have g3' :=g3;simp only [C7] at g3';have f1:=B8 g3'.1;have f2:K3 v.right []=F->0<=F7 v.right (ss.map (·.1)) 0:=λh=>by
  have:=g3'.2;simp only [h,Bool.not_false,Bool.true_and] at this;exact B8 this
 have htL:=ht (F7 v.left (ss.map (·.1)) 0).toNat V;have Qt:Y ss (F7 v.left (ss.map (·.1)) 0).toNat=Y1 ss v.left:=rfl;rw [Qt] at htL;refine gr ?_;refine tc (!gT v) an1 (λg4=>?_) (λg4=>?_)
 .have e1:cq ss ds v=1:=by unfold cq;rw [g1,g2,g3,g4];rfl
  refine gr ?_;exact ⟨_,_,rfl,by rw [e1];rfl,by rw [same 1 e1 (by simp [o6])];rfl⟩
 refine gr ?_;refine Ex.nH [xa,xo,.cells (c.enc.map .d),.map (dmap (L8 ds v.name)),.map (cH (ss.map (·.1)) 0),.cells (c.enc.map .d++[.map 3,.map 4,A8 2 U4 ss]),.cells (v.enc.map .d)] rfl ?_;refine Ex.region (Rn.z 5 7 [xa,xo,.cells (c.enc.map .d),.map (dmap (L8 ds v.name)),.map (cH (ss.map (·.1)) 0),.cells (c.enc.map .d++[.map 3,.map 4,A8 2 U4 ss]),.cells (v.enc.map .d),.dead] rfl rfl (by decide) rfl rfl ?_);refine zm ?_;refine zp (rs:=[]) (.ptr 5 0) rfl ?_;refine zp (rs:=[]) (.ptr 5 10) rfl ?_;refine zp (rs:=[5]) (.d (s7 U4 ss)) rfl ?_;refine zm ?_;refine zp (rs:=[]) (.ptr 6 2) rfl ?_;refine zp (rs:=[6]) (.d (.str v.left)) rfl ?_;refine zc pL rfl ?_ (hmn:=j4 rfl);refine zix (xs:=ss) (enc:=U4) (e:=F7 v.left (ss.map (·.1)) 0) V ?_;refine zle ?_;rw [Qt];refine za (h2:=?_);refine zs (h2:=?_);refine zn ?_;refine gr ?_;refine Ex.Re (λs=>∃(w0 w1 w2 w4 wa wb:c7),s=⟨[.ptr 5 0,w1,w2,.ptr 6 0,w4,.ptr 7 0,.ptr 8 0],[xa,xo,.cells (c.enc.map .d),.map (dmap (L8 ds v.name)),.map (cH (ss.map (·.1)) 0),.cells (c.enc.map .d++[.map 3,.map 4,A8 2 U4 ss]),.cells (v.enc.map .d),.cells ((U4 (Y1 ss v.left)).map .d),.cells [wa,wb]]⟩/\wa.I7= .d (s7 encS (Bn ss v).2.1)/\wb.I7= .d (ints (Bn ss v).2.2)/\O (Bn ss v).2.2<=5000) ?_ ?_
 .skip
  refine tb (!K3 v.right []) (λg6=>?_) (λg6=>?_)
  .simp only [o3] at g6
   have f3:=f2 g6;have htR:=ht (F7 v.right (ss.map (·.1)) 0).toNat V;have Ud:Y ss (F7 v.right (ss.map (·.1)) 0).toNat=Bn ss v:=by unfold Bn;rw [g6];rfl
   rw [Ud] at htR
   repeat' (first|refine c1 pR rfl ?_|refine soD (h2:=?_)|refine gx ?_|fail)
   rw [Ud];exact ⟨.any,_,_,_,_,_,rfl,rfl,rfl,V⟩
  .simp only [B5] at g6
   have Ud:Bn ss v=([],[],[]):=by unfold Bn;rw [g6];rfl
   refine gr ?_;exact ⟨.any,_,_,_,_,_,rfl,by rw [Ud];rfl,by rw [Ud];rfl,by rw [Ud];simp⟩
 rintro _ ⟨w0,w1,w2,w4,wa,wb,rfl,ha,hb,hrl⟩;have at9:=Wv (Y1 ss v.left).2.2 (Bn ss v).2.2 V;have Mp:=Ww (Y1 ss v.left).2.1 V V;have au0:=Wx (Y1 ss v.left).2.2 V V;have Tn:=LO (Y1 ss v.left).2.1 (Y1 ss v.left).2.2 hd0;have au1:=SQ (Y1 ss v.left).2.2 (Bn ss v).2.2 V hrl hd0;refine gr ?_;refine tb (x4 v.kind 2) (λg7=>?_) (λg7=>?_)
 .refine gr ?_
  refine tB (!cK x4 (Y1 ss v.left).2.2 (Bn ss v).2.2) ?_ (λg8=>?_) (λg8=>?_)
  .repeat' (first|refine lpA hb ?_|refine cl (at9) ?_|refine gx ?_|refine fq (λhw=>?_) λhw=>?_|refine ⟨rfl,rfl,_,rfl,?_⟩|refine ⟨rfl,rfl⟩|fail)
   all_goals exact cc
  .have e1:cq ss ds v=5:=by unfold cq;rw [g1,g2,g3,g4,g7,g8];rfl
   refine gr ?_;exact ⟨_,_,rfl,by rw [e1];rfl,by rw [same 5 e1 (by simp [o6])];rfl⟩
  have e1:cq ss ds v=0:=by unfold cq;rw [g1,g2,g3,g4,g7,g8];rfl
  have e2:mP ss ds v=ss++[(v.name,(Y1 ss v.left).2.1,(Y1 ss v.left).2.2)]:=by unfold mP;rw [e1,g7];simp [o6]
  rw [e2]
  repeat' (first|refine cl (Mp) ?_|refine cl (au0) ?_|refine c0 Tn rfl (h2:=?_)|refine gx ?_|fail)
  exact ⟨_,_,rfl,by rw [e1];rfl,rfl⟩
 .have e1:cq ss ds v=fN v (Y1 ss v.left).2.2 (Bn ss v).2.2:=by unfold cq;rw [g1,g2,g3,g4,g7];rfl
  have e2:mP ss ds v=Au ss v (Y1 ss v.left).2.2 (Bn ss v).2.2:=by unfold mP Au;rw [e1,g7];rfl
  rw [e2]
  repeat' (first|refine lpA hb ?_|refine c0 au1 rfl (h2:=?_)|refine gx ?_|fail)
  exact ⟨_,_,rfl,by rw [e1];rfl,rfl⟩
def cnt (c:o9):Nat->Nat
 |0=>O c.j7
 |1=>O c.views
 |2=>O c.idxs
 |3=>O c.G7
 |4=>O c.I5
 |5=>O c.J5
 |6=>O c.J6
 |_=>O c.L4
def Ej:Nat->Nat
 |0=>8
 |1=>12
 |_=>16
def fid (q:Nat):FuncId:=149+q
def V5 (c:o9):Nat->Nat
 |0=>0
 |q+1=>V5 c q+cnt c q
def ak (c:o9)(q:Nat):List c7:=[.d (Z (cnt c q)),.d (Z (Ej q)),.func (fid q) [.ptr 5 0] []]
def eF (c:o9):List c7:=ak c 0++ak c 1++ak c 2++ak c 3++ak c 4++ak c 5++ak c 6++ak c 7
def CG (c:o9)(q:Nat)(h:q<8)(H:k9)(hH:H[6]? =J (.cells (eF c))):rd H 6 (0+q * 3) 3=J (ak c q):=by
 simp only [rd,hH]
 match q,h with
 |0,_=>rfl
 |1,_=>rfl
 |2,_=>rfl
 |3,_=>rfl
 |4,_=>rfl
 |5,_=>rfl
 |6,_=>rfl
 |7,_=>rfl
def qu (l:List c7):(s6.cells l).F4=A2 l:=rfl
def zT (es:List (Key×c7)):(s6.map es).F4=A2 (es.map (·.2)):=rfl
def JM [Inhabited XO] (c:o9)(ds:List G4)(ss:List cU):D3 (HH c ds ss)<=6:=by
 have h1:=oA ds;have h2:=oU (ss.map (·.1)) 0;have ha:=(default:XO).ha;have hb:=(default:XO).hb;have e1:A2 (c.enc.map c7.d)=0:=rfl;have e2:A2 (c.enc.map c7.d++[.map 3,.map 4,A8 2 U4 ss])=5:=rfl;simp only [HH,D3,xa,xo,ha,hb,qu,zT,h1,h2,e1,e2]
 decide
def FU [Inhabited XO] (c:o9)(ds:List G4)(ss:List cU):T7 (HH c ds ss) 0=W:=by
 have h1:=oA ds;have h2:=oU (ss.map (·.1)) 0;have ha:=(default:XO).ha;have hb:=(default:XO).hb;have e1:A2 (c.enc.map c7.d)=0:=rfl;have e2:A2 (c.enc.map c7.d++[.map 3,.map 4,A8 2 U4 ss])=5:=rfl;simp only [HH,T7,xa,xo,ha,hb,qu,zT,h1,h2,e1,e2]
 decide
def Hs {H:k9}(h:T7 ((H.take 6).drop 0) 0=W):A6 H 0 6=6:=by
 unfold A6;rw [if_neg (by decide),if_pos h]
def KB {q:Nat}(h:q<8):A.prom (fid q)=F/\A.mode (fid q)=0:=by
 match q,h with
 |0,_=>exact ⟨rfl,rfl⟩
 |1,_=>exact ⟨rfl,rfl⟩
 |2,_=>exact ⟨rfl,rfl⟩
 |3,_=>exact ⟨rfl,rfl⟩
 |4,_=>exact ⟨rfl,rfl⟩
 |5,_=>exact ⟨rfl,rfl⟩
 |6,_=>exact ⟨rfl,rfl⟩
 |7,_=>exact ⟨rfl,rfl⟩
def Dd (c:o9):V5 c 8=O c.names:=by simp [V5,cnt,o9.names];omega
def OO (c:o9){q:Nat}(h:q<8):V5 c q+cnt c q<=O c.names:=by
 rw [<- Dd]
 match q,h with
 |0,_=>simp only [V5];omega
 |1,_=>simp only [V5];omega
 |2,_=>simp only [V5];omega
 |3,_=>simp only [V5];omega
 |4,_=>simp only [V5];omega
 |5,_=>simp only [V5];omega
 |6,_=>simp only [V5];omega
 |7,_=>simp only [V5];omega
def Oz {c:o9}{q:Nat}(h:q<8)(h2:D5 (Ej q) (cnt c q)=W):tooMany c=W:=by
 unfold tooMany yV
 match q,h with
 |0,_=>simp only [Ej,cnt] at h2;simp [show D5 8 (O c.j7)=W from h2]
 |1,_=>simp only [Ej,cnt] at h2;simp [show D5 12 (O c.views)=W from h2]
 |2,_=>simp only [Ej,cnt] at h2;simp [show D5 16 (O c.idxs)=W from h2]
 |3,_=>simp only [Ej,cnt] at h2;simp [show D5 16 (O c.G7)=W from h2]
 |4,_=>simp only [Ej,cnt] at h2;simp [show D5 16 (O c.I5)=W from h2]
 |5,_=>simp only [Ej,cnt] at h2;simp [show D5 16 (O c.J5)=W from h2]
 |6,_=>simp only [Ej,cnt] at h2;simp [show D5 16 (O c.J6)=W from h2]
 |7,_=>simp only [Ej,cnt] at h2;simp [show D5 16 (O c.L4)=W from h2]
def RH {c:o9}(h:∀p,p<8->cnt c p<=Ej p):tooMany c=F:=by
 have h0:=h 0 V;have h1:=h 1 V;have h2:=h 2 V;have h3:=h 3 V;have h4:=h 4 V;have h5:=h 5 V;have h6:=h 6 V;have h7:=h 7 V;simp only [cnt,Ej] at h0 h1 h2 h3 h4 h5 h6 h7;simp only [tooMany,yV,y4,C7,decide_eq_false_iff_not];omega
def FV [Inhabited XO] (c:o9)(ds:List G4)(ss:List cU):D3 (HH c ds ss++[.cells (eF c)])<=7:=by
 have h1:=oA ds;have h2:=oU (ss.map (·.1)) 0;have ha:=(default:XO).ha;have hb:=(default:XO).hb;have e1:A2 (c.enc.map c7.d)=0:=rfl;have e2:A2 (c.enc.map c7.d++[.map 3,.map 4,A8 2 U4 ss])=5:=rfl;have e3:A2 (eF c)=6:=rfl;simp only [HH,x7,y6,D3,xa,xo,ha,hb,qu,zT,h1,h2,e1,e2,e3]
 decide
def CF (c:o9)(q:Nat):A2 (ak c q)<=7+1:=by
 exact j4 rfl
def tR [Inhabited XO] (c:o9)(fds:List G4)(Qc:List cU)(v:c7)(H1:k9):Prop :=
 (∃R,H1=xa::xo::R)/\(x4 (R3 c).2 0=F->v= .tuple [.d .dK,.d (Z (R3 c).1),.d (Z (R3 c).2)]) /\
  (x4 (R3 c).2 0=W->v= .tuple [.ptr 5 0,.d (Z 0),.d (Z 0)]/\H1=HH c fds Qc++[.cells (eF c)])
def EF [Inhabited XO] {c:o9}{fds:List G4}{Qc:List cU}{v:c7}{H1:k9}(h:tR c fds Qc v H1):2<=O H1:=by
 obtain ⟨⟨R,rfl⟩,_⟩:=h;simp
set_option maxHeartbeats 32000000 in
def at1 [Inhabited XO] (c:o9)(hf:c.eD)(ST:Nat->List G4->List cU->Prop)(af2:ST 0 [] [])(hST:∀g ds ss ds' ss',ST g ds ss->ST g ds' ss' ->ds=ds' /\ss=ss')(fds:List G4)(Qc:List cU)(af3:∀ds ss,ST (O c.names) ds ss->ds=fds/\ss=Qc)
  (hstep:∀q i ds ss,q<8->i<cnt c q->tooMany c=F->gR c (V5 c q+i)->ST (V5 c q+i) ds ss->∃dz sz,(M5 c (V5 c q+i)=0->ST (V5 c q+i+1) dz sz)/\Pm A (fid q) [.ptr 5 0,.d (Z i)] (HH c ds ss) lW (.d (Z (M5 c (V5 c q+i)))) (HH c dz sz)) :
  Pq A 101 [cat c] [xa,xo] N6 (tR c fds Qc):=by
 obtain ⟨f0,f1,f2,f3,f4,f5,f6,f7⟩:=id hf;have Vh:∀q,cnt c q<=1000:=λq=>by unfold cnt;split<;>assumption
 have Nj:∀q,Ej q<=16:=λq=>by unfold Ej;split<;>omega
 refine Pq.go 19 ?_
 repeat' (first|refine mk (h2:=?_)|refine qm (cs:=c.enc.map .d++[.map 3,.map 4,A8 2 U4 []]) ?_|refine qm (cs:=ak c 0) ?_|refine qm (cs:=ak c 1) ?_|refine qm (cs:=ak c 2) ?_|refine qm (cs:=ak c 3) ?_|refine qm (cs:=ak c 4) ?_|refine qm (cs:=ak c 5) ?_|refine qm (cs:=ak c 6) ?_|refine qm (cs:=ak c 7) ?_|refine gx ?_|fail)
 refine bso (eF c) rfl ⟨by decide,rfl⟩ (h2:=?_)
 repeat' (first|refine lrT (h2:=?_)|refine gx ?_|fail)
 refine Ex.L9 (λk T H=>∃(q:Nat),T=[.any,.any,.any,.any,.any,.ptr 5 0,.r7 6 3 0 8,.any,.any,.any,.any,.any,.r7 6 3 0 8,.d (Z (8:Nat)),.d (Z q),.any,.any,.any,.any,.any]/\H=[xa,xo,.cells (c.enc.map .d),.map [],.map [],.cells (c.enc.map .d++[.map 3,.map 4,A8 2 U4 []]),.cells (eF c)]/\q+k=8/\∀p,p<q->cnt c p<=Ej p) ?_ (k:=8) ⟨0,rfl,rfl,U,λp h=>absurd h V⟩;rintro k _ _ ⟨q,rfl,rfl,hk,hq⟩;have b1:=Vh q;have b2:=Nj q;have hbk:=CF c q;refine Ex.seq ?_;refine tb (D5 q (8:Nat)) (λg1=>?_) (λg1=>?_)
 .have g2:=A7 g1
  have JD:q<8:=V
  have hka:=CG c q JD ([xa,xo,.cells (c.enc.map .d),.map [],.map [],.cells (c.enc.map .d++[.map 3,.map 4,A8 2 U4 []]),.cells (eF c)]) rfl
  repeat' (first|refine ixs (i:=q) (len:=8) JD ?_|refine AB hka rfl ?_|refine soB (cs:=ak c q) (id:=7) hbk (h2:=?_)|refine gx ?_|fail)
  refine tb (D5 (Ej q) (cnt c q)) (λg3=>?_) (λg3=>?_)
  .have ht:=Oz JD g3
   have e1:R3 c=(0,8):=by unfold R3;rw [ht];rfl
   refine gr ?_;exact ⟨_,_,rfl,⟨_,rfl⟩,λ_=>by rw [e1];rfl,λh=>by rw [e1] at h;simp [o6] at h⟩
  .have g4:=B8 g3
   refine gr ?_;exact kk ⟨_,_,B2 (j4 rfl) (FV c [] []),q+1,rfl,rfl,V,λp hp=>by
    rcases y7 p q with h|h
    .exact hq p h
    .obtain rfl:p=q:=V
     omega⟩
 have g2:=B8 g1;have GJ:=RH (c:=c) (λp hp=>hq p V);clear g1 g2 hk hq b1 b2 hbk
 repeat' (first|refine lrT (h2:=?_)|refine gx ?_|fail)
 refine Ex.L9 (λk T H=>∃(q g:Nat) (ds:List G4) (ss:List cU),T=[.any,.any,.any,.any,.any,.ptr 5 0,.any,.any,.d (Z g),.any,.any,.any,.any,.any,.any,.r7 6 3 0 8,.d (Z (8:Nat)),.d (Z q),.any,.any]/\H=[xa,xo,.cells (c.enc.map .d),.map (dmap ds),.map (cH (ss.map (·.1)) 0),.cells (c.enc.map .d++[.map 3,.map 4,A8 2 U4 ss]),.cells (eF c)]/\q+k=8/\g=V5 c q/\ST g ds ss/\gR c g/\R3 c=dR c (O c.names - g) g) ?_ (k:=8) ⟨0,0,[],[],rfl,rfl,U,rfl,af2,λm h=>absurd h V,by unfold R3;rw [GJ];rfl⟩;rintro k _ _ ⟨q,g,ds,ss,rfl,rfl,hk,hg,hst,hok,hch⟩;have b1:=Vh q;have hbk:=CF c q;refine Ex.seq ?_;refine tb (D5 q (8:Nat)) (λg1=>?_) (λg1=>?_)
 .have g2:=A7 g1
  have JD:q<8:=V
  have hka:=CG c q JD ([xa,xo,.cells (c.enc.map .d),.map (dmap ds),.map (cH (ss.map (·.1)) 0),.cells (c.enc.map .d++[.map 3,.map 4,A8 2 U4 ss]),.cells (eF c)]) rfl
  repeat' (first|refine ixs (i:=q) (len:=8) JD ?_|refine AB hka rfl ?_|refine soB (cs:=ak c q) (id:=7) hbk (h2:=?_)|refine gx ?_|fail)
  refine Ex.bW (λk T H=>∃(i g:Nat) (ds:List G4) (ss:List cU) (w0 w1 w2 w3 w4 w6 w7 rG El Em En XM:c7),T=[w0,w1,w2,w3,w4,.ptr 5 0,w6,w7,.d (Z g),.ptr 7 0,rG,El,Em,En,XM,.r7 6 3 0 8,.d (Z (8:Nat)),.d (Z q),.d (Z (cnt c q)),.d (Z i)]/\H=[xa,xo,.cells (c.enc.map .d),.map (dmap ds),.map (cH (ss.map (·.1)) 0),.cells (c.enc.map .d++[.map 3,.map 4,A8 2 U4 ss]),.cells (eF c),.cells (ak c q)]/\i+k=cnt c q/\g=V5 c q+i/\ST g ds ss/\gR c g/\R3 c=dR c (O c.names - g) g) ?_ (k:=cnt c q) ⟨0,g,ds,ss,_,_,_,_,_,_,_,_,_,_,_,_,rfl,rfl,U,V,hst,hok,hch⟩;clear hst hok hch hka;rintro k2 _ _ ⟨i,g,ds,ss,w0,w1,w2,w3,w4,w6,w7,rG,El,Em,En,XM,rfl,rfl,hk2,hg2,hst,hok,hch⟩;have Uc:=OO c JD;have hnl:O c.names<=8000:=by simp [o9.names];omega
  refine Ex.nT ?_;refine Ex.seq ?_;refine tl i (cnt c q) (λg4=>?_) (λg4=>?_)
  .have Ub:=JM c ds ss
   have XY:=FU c ds ss;subst hg2;obtain ⟨dz,sz,hz,Nk⟩:=hstep q i ds ss JD V GJ hok hst;unfold HH at Nk Ub XY;obtain ⟨N,hN⟩:∃N,O c.names - (V5 c q+i)=N+1:=⟨O c.names - (V5 c q+i) - 1,V⟩;rw [hN,dR] at hch;have hfp:=KB JD;refine gr ?_;have hs5:A6 ([xa,xo,.cells (c.enc.map .d),.map (dmap ds),.map (cH (ss.map (·.1)) 0),.cells (c.enc.map c7.d++[.map 3,.map 4,A8 2 U4 ss]),.cells (eF c),.cells (ak c q)]) 0 6=6:=Hs (H:=[xa,xo,.cells (c.enc.map .d),.map (dmap ds),.map (cH (ss.map (·.1)) 0),.cells (c.enc.map c7.d++[.map 3,.map 4,A8 2 U4 ss]),.cells (eF c),.cells (ak c q)]) XY;refine Qb (ee:=hfp.1) (hm:=hfp.2) Nk rfl Ub (G9 Ub) rfl (jH:=by show F9.mk 0 0 6 (A6 _ 0 6)=lW;rw [hs5];rfl) (h2:=?_);refine gr ?_;refine tb (!x4 (M5 c (V5 c q+i)) 0) (λg5=>?_) (λg5=>?_)
   .have e1:R3 c=(((V5 c q+i:Nat):Int),M5 c (V5 c q+i)):=by rw [hch,g5];rfl
    have e2:x4 (M5 c (V5 c q+i)) 0=F:=by simpa using g5
    refine gr ?_;exact ⟨_,_,rfl,⟨_,rfl⟩,λ_=>by rw [e1];rfl,λh=>by rw [e1] at h;simp only [e2] at h;cases h⟩
   .have e2:M5 c (V5 c q+i)=0:=W6 (by simpa using g5)
    rw [g5,if_neg U] at hch;have aj6 :=hz e2;refine gr ?_;refine ⟨k2 - 1,V,i+1,V5 c q+i+1,dz,sz,_,_,_,_,_,_,_,_,_,_,_,_,rfl,rfl,V,V,aj6,λm hm=>?_,?_⟩
    .rcases y7 m (V5 c q+i) with h|h
     .exact hok m h
     .obtain rfl:m=V5 c q+i:=V
      exact e2
    .have:O c.names - (V5 c q+i+1)=N:=V
     rw [this];exact hch
  .refine gr ?_
   refine kk ⟨_,_,B2 ?_ ?_,q+1,g,ds,ss,rfl,rfl,V,?_,hst,hok,hch⟩
   .exact j4 rfl
   .exact FV c ds ss
   .simp only [V5];omega
 have g2:=B8 g1;obtain rfl:q=8:=V
 rw [Dd] at hg;subst hg;rw [Nat.sub_self] at hch;obtain ⟨rfl,rfl⟩:=af3 ds ss hst;refine gr ?_;have e1:R3 c=(0,0):=hch;exact ⟨_,_,rfl,⟨_,rfl⟩,λh=>by rw [e1] at h;simp [o6] at h,λ_=>⟨rfl,rfl⟩⟩
end Go.Proofs.YtibjocmpkoepoaaGreat


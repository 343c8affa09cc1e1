/- Texts D28 D29 D30 (made short by a program) -/
import Derived.Test.YtkmclibmmlgogaaGreatD8
import Derived.Test.YtkmclibmmlgogaaGreatD5
set_option linter.unusedVariables false
set_option linter.unusedSimpArgs false
open Bool renaming eq_false_or_eq_true → A6, false_eq_true → b7
open List renaming drop_of_length_le → k9, length_append → E0, take_of_length_le → q5
namespace Go.Proofs.YtkmclibmmlgogaaGreat
open Go.y3 Go.y3.S
attribute [local irreducible] Rx Ry Rn Ex Pf
def vw' (v:Vw):b6:= .agg (v.enc.map .d)
def gX (v:Vw):Bool :=
 if o9 v.kind 2 then !J2 v.right []&&o9 v.on.length 0&&o9 v.wh.length 0&&o9 v.items.length 0&&o9 v.C1.length 0&& !v.distinct
 else if (C9 0 v.on.length&&J2 v.right [])||C9 8 v.on.length then false
 else if o9 v.kind 0&&(o9 v.items.length 0||C9 0 v.C1.length) then false
 else if o9 v.kind 1&&(o9 v.C1.length 0||v.distinct) then false
 else W8 (v.items.length+v.C1.length) 8
set_option maxHeartbeats 8000000 in
theorem Vn (v:Vw)(h0:v.items.length<=1000)(h1:v.C1.length<=1000):Pf A 116 [vw' v] (.d (.bool (gX v))):=by
 refine Pf.run [vw' v,.any,.any] rfl rfl rfl rfl ?_;refine gr ?_;refine tb (o9 v.kind 2) (fun g1=> ?_) (fun g1=> ?_)
 ·repeat' (first|refine gx ?_|refine fk (h1:=fun hw=> ?_) (h2:=fun hw=> ?_)|refine L7 (h1:=fun hw=> ?_) (h2:=fun hw=> ?_)|refine Ex.H7 ?_|refine Ex.H8 ?_|refine Ex.cond rfl (fun ht=> ?_) (fun ht=> ?_)|refine Ex.test (Rn.text ?_)|refine Ex.test (Rn.draw ?_)|refine ⟨_,rfl,fun ht=> ?_,fun ht=> ?_⟩|refine ⟨_,rfl,?_⟩|fail)
  all_goals unfold gX
  all_goals rw [g1]
  all_goals simp [*,b8]
 refine gr ?_;refine tb ((C9 0 v.on.length&&J2 v.right [])||C9 8 v.on.length) (fun g2=> ?_) (fun g2=> ?_)
 ·refine gr ?_
  exact ⟨_,rfl,by unfold gX;rw [g1,g2];rfl⟩
 refine gr ?_;refine tb (o9 v.kind 0&&(o9 v.items.length 0||C9 0 v.C1.length)) (fun g3=> ?_) (fun g3=> ?_)
 ·refine gr ?_
  exact ⟨_,rfl,by unfold gX;rw [g1,g2,g3];rfl⟩
 refine gr ?_;refine tb (o9 v.kind 1&&(o9 v.C1.length 0||v.distinct)) (fun g4=> ?_) (fun g4=> ?_)
 ·refine gr ?_
  exact ⟨_,rfl,by unfold gX;rw [g1,g2,g3,g4];rfl⟩
 refine gr ?_;exact ⟨_,rfl,by unfold gX;rw [g1,g2,g3,g4];rfl⟩
theorem nS {A:Go.y3.Prog}{l:G9}{b:Nat}{dr:Bool}{j4 ops:List n8}{T:List b6}{H:o6}{n:Nat}{rl:List b6}{n6:List y3.Touch}{Q:List b6->o6->List b6->Prop}{α:Type}{enc:α->List y3.Data}{xs:List α}{neg:Bool}{x:q7}{u:List Nat}
  (h0:0<xs.length) (h2:Ry A l b dr j4 ops T H (n+1) (.d (.bool neg)::rl) n6 Q) (hx:rq T n rl x= .d (z6 enc xs):=by rfl):Ry A l b dr j4 (⟨.CR neg x,none,none,u⟩::ops) T H n rl n6 Q :=
 Ry.pure (rs:=[]) rfl (by simp [m6,hx,z6,h0]) h2
theorem Vp (xs:List D8)(h0:0<xs.length)(h1:xs.length<=100000):Pf A 118 [.d (z6 (fun s=>[.str s]) xs)] (B3 1 (fun s=>[.str s]) xs):=by
 refine Pf.run [.d (z6 (fun s=>[.str s]) xs),.any] rfl rfl rfl rfl ?_;refine gr ?_;refine tB (false) ?_ (fun h2=> ?_) (fun h2=> ?_)
 ·repeat' (first|refine nS h0 ?_|refine gx ?_|refine fk (h1:=fun hw=> ?_) (h2:=fun hw=> ?_)|refine L7 (h1:=fun hw=> ?_) (h2:=fun hw=> ?_)|refine ⟨rfl,rfl,_,rfl,?_⟩|refine ⟨rfl,rfl⟩|fail)
  all_goals exact cc
 ·cases h2
 refine gr ?_;exact ⟨_,rfl,rfl⟩
theorem Vq (xs:List Int)(h0:0<xs.length)(h1:xs.length<=100000):Pf A 119 [.d (ints xs)] (B3 1 (fun n=>[num n]) xs):=by
 refine Pf.run [.d (ints xs),.any] rfl rfl rfl rfl ?_;refine gr ?_;refine tB (false) ?_ (fun h2=> ?_) (fun h2=> ?_)
 ·repeat' (first|refine nS h0 ?_|refine gx ?_|refine fk (h1:=fun hw=> ?_) (h2:=fun hw=> ?_)|refine L7 (h1:=fun hw=> ?_) (h2:=fun hw=> ?_)|refine ⟨rfl,rfl,_,rfl,?_⟩|refine ⟨rfl,rfl⟩|fail)
  all_goals exact cc
 ·cases h2
 refine gr ?_;exact ⟨_,rfl,rfl⟩
theorem an5 (n:Nat)(h:n<=1000000)(l:G9):Pm A 172 [.I8,.d (num n)] [] l (.own 1 0 []) []:=by
 refine ⟨1,fun k hk=> ?_⟩;obtain ⟨k,rfl⟩:∃ j,k=j+1:=⟨k - 1,by omega⟩;have h1:A.gS 172=some xX:=rfl;simp only [call,h1,xX,num];rw [if_pos (by omega)]
def En (l:List Int):List y3.Data:=[ints l]
set_option maxHeartbeats 4000000 in
theorem Vx (xss:List (List Int))(h0:xss.length<=100)(h1:∀ i,i<xss.length->(nth xss i).length<=10000):Pf A 152 [.d (z6 En xss)] (.d (ints xss.flatten)):=by
 refine Pf.run [.d (z6 En xss),.any,.any,.any,.any,.any,.any,.any,.any,.any,.any,.any] rfl rfl rfl rfl ?_;refine gr ?_;refine Ex.J0 (fun k T H=>∃ (i m:Nat) (w1 w3 w4 w5 w9 jX hU:b6),T=[.d (z6 En xss),w1,.d (num m),w3,w4,w5,.d (z6 En xss),.d (num xss.length),.d (num i),w9,jX,hU]/\H=[]/\i+k=xss.length/\m<=i * 10000) (by rintro _ _ _ ⟨_,_,_,_,_,_,_,_,_,_,rfl,_⟩;rfl) ?_ (k:=xss.length) ⟨0,0,_,_,_,_,_,_,_,rfl,rfl,by simp,by simp⟩;rintro k _ _ ⟨i,m,w1,w3,w4,w5,w9,jX,hU,rfl,rfl,hk,hm⟩;refine Ex.nT ?_;refine Ex.seq ?_;refine tb (C9 i xss.length) (fun h2=> ?_) (fun h2=> ?_)
 ·have h3:=y9 h2
  have h4:=h1 i (by omega);have h5:m<=1000000:=by omega
  refine gr ?_;refine tb (false) (fun h6=> ?_) (fun h6=> ?_)
  ·cases h6
  refine gr ?_;exact ⟨k - 1,by omega,i+1,m+(nth xss i).length,_,_,_,_,_,_,_,rfl,rfl,by omega,by omega⟩
 have h3:=y8 h2;have h5:m<=1000000:=by omega
 have p1:=an5 m h5;clear h2 hm
 repeat' (first|refine c0 (p1 _) rfl (h2:= ?_)|refine gx ?_|fail)
 refine Ex.J0 (fun k T H=>∃ (i:Nat) (acc:List Int) (w0 w1 w2 w3 w5 w6 w7 w8:b6),T=[w0,w1,w2,w3,B3 1 (fun n=>[num n]) acc,w5,w6,w7,w8,.d (z6 En xss),.d (num xss.length),.d (num i)]/\H=[]/\i+k=xss.length/\acc.length<=i * 10000/\xss.flatten=acc++(xss.drop i).flatten) (by rintro _ _ _ ⟨_,_,_,_,_,_,_,_,_,_,_,rfl,_⟩;rfl) ?_ (k:=xss.length) ⟨0,[],_,_,_,_,_,_,_,_,rfl,rfl,by simp,by simp,by simp⟩;rintro k _ _ ⟨i,acc,w0,w1,w2,w3,w5,w6,w7,w8,rfl,rfl,hk,hl,hacc⟩;refine Ex.nT ?_;refine Ex.seq ?_;refine tb (C9 i xss.length) (fun h2=> ?_) (fun h2=> ?_)
 ·have h6:=y9 h2
  have h7:=h1 i (by omega);rw [A2 (by omega)] at hacc;have h8:acc.length<=1000000:=by omega
  refine gr ?_;exact ⟨k - 1,by omega,i+1,acc++nth xss i,_,_,_,_,_,_,_,_,rfl,rfl,by omega,by simp;omega,by rw [hacc];simp⟩
 ·have h6:=y8 h2
  rw [k9 (by omega)] at hacc;refine gr ?_;exact ⟨_,rfl,by rw [hacc];simp [b8,ints,z6]⟩
def agr (a:Ao):b6:= .agg (a.enc.map .d)
def bQ (ty:List Int)(a:Ao):Int×Int :=
 if o9 a.func 0 then (if C9 0 a.expr.length then (0,1) else (1,0))
 else if o9 a.func 1||o9 a.func 2||o9 a.func 3||o9 a.func 4 then (if !o9 (F8 a.expr ty).2 0 then (0,(F8 a.expr ty).2) else if o9 a.func 1&& !o9 (F8 a.expr ty).1 1 then (0,5) else ((F8 a.expr ty).1,0))
 else (0,1)
set_option maxHeartbeats 8000000 in
theorem Vy (ty:List Int)(a:Ao)(h0:a.expr.length<=1000)(h1:ty.length<=100000):Pf A 157 [agr a,.d (ints ty)] (pair (bQ ty a)):=by
 have p1:=Ff a.expr ty h0 h1;unfold pair at p1;refine Pf.run [agr a,.d (ints ty),.any,.any,.any,.any,.any,.any,.any] rfl rfl rfl rfl ?_
 repeat' (first|refine cl (p1) ?_|refine gx ?_|refine fk (h1:=fun hw=> ?_) (h2:=fun hw=> ?_)|refine L7 (h1:=fun hw=> ?_) (h2:=fun hw=> ?_)|refine Ex.H7 ?_|refine Ex.H8 ?_|refine Ex.cond rfl (fun ht=> ?_) (fun ht=> ?_)|refine Ex.test (Rn.text ?_)|refine Ex.test (Rn.draw ?_)|refine ⟨_,rfl,fun ht=> ?_,fun ht=> ?_⟩|refine ⟨_,rfl,?_⟩|fail)
 all_goals unfold bQ pair
 all_goals first|(simp [*,b8,b6.G4,num];done)|(simp_all [b8,b6.G4,num];done)
def l9:G9:=⟨0,0,9,9⟩
def Pp:G9:=⟨0,9,9,9⟩
def jN (nm:List D8)(ty:List Int):List b6:=[B3 1 encS nm,B3 1 (fun n=>[num n]) ty]
theorem Qi (a0 a1 a2 a3 a4 a5 a7:y7)(ty:List Int)(x:HC)(h0:x.expr.length<=1000)(h1:ty.length<=100000) :
  Pm A 155 [.ptr 8 0,.ptr 6 0] [a0,a1,a2,a3,a4,a5,.cells [.d (ints ty)],a7,.cells (x.enc.map .d)] Pp (pair (F8 x.expr ty)) [a0,a1,a2,a3,a4,a5,.cells [.d (ints ty)],a7,.cells (x.enc.map .d)]:=by
 have p1:=Ff x.expr ty h0 h1;unfold pair at *
 suffices h:Pq A 155 [.ptr 8 0,.ptr 6 0] [a0,a1,a2,a3,a4,a5,.cells [.d (ints ty)],a7,.cells (x.enc.map .d)] Pp fun v H1=>v= .tuple [.d (num (F8 x.expr ty).1),.d (num (F8 x.expr ty).2)]/\H1=[a0,a1,a2,a3,a4,a5,.cells [.d (ints ty)],a7,.cells (x.enc.map .d)] by
  obtain ⟨v,H1,⟨rfl,rfl⟩,h⟩:=h;exact h
 refine Pq.run (b:=9) [.ptr 8 0,.ptr 6 0,.any,.any] rfl rfl rfl rfl rfl ?_
 repeat' (first|refine cl (p1) ?_|refine gx ?_|fail)
 exact ⟨_,_,rfl,rfl,rfl⟩
theorem Qj (a0 a1 a2 a3 a4 a5 a7:y7)(ty:List Int)(x:Ao)(h0:x.expr.length<=1000)(h1:ty.length<=100000) :
  Pm A 156 [.ptr 8 0,.ptr 6 0] [a0,a1,a2,a3,a4,a5,.cells [.d (ints ty)],a7,.cells (x.enc.map .d)] Pp (pair (bQ ty x)) [a0,a1,a2,a3,a4,a5,.cells [.d (ints ty)],a7,.cells (x.enc.map .d)]:=by
 have p1:=Vy ty x h0 h1;unfold pair at *
 suffices h:Pq A 156 [.ptr 8 0,.ptr 6 0] [a0,a1,a2,a3,a4,a5,.cells [.d (ints ty)],a7,.cells (x.enc.map .d)] Pp fun v H1=>v= .tuple [.d (num (bQ ty x).1),.d (num (bQ ty x).2)]/\H1=[a0,a1,a2,a3,a4,a5,.cells [.d (ints ty)],a7,.cells (x.enc.map .d)] by
  obtain ⟨v,H1,⟨rfl,rfl⟩,h⟩:=h;exact h
 refine Pq.run (b:=9) [.ptr 8 0,.ptr 6 0,.any,.any] rfl rfl rfl rfl rfl ?_
 repeat' (first|refine cl (p1) ?_|refine gx ?_|fail)
 exact ⟨_,_,rfl,rfl,rfl⟩
def Z6 (nm:List D8)(s:D8)(r:Int×Int):Int:=if !E3 s then 3 else if nm.any fun y=>J2 y s then 4 else if !o9 r.2 0 then r.2 else 0
def jy (nm:List D8)(s:D8)(r:Int×Int):List D8:=if o9 (Z6 nm s r) 0 then nm++[s] else nm
def jz (nm:List D8)(ty:List Int)(s:D8)(r:Int×Int):List Int:=if o9 (Z6 nm s r) 0 then ty++[r.1] else ty
set_option maxHeartbeats 8000000 in
theorem Fh (f:FuncId)(hf1:A.prom f=false)(hf2:A.mode f=1)(a0 a1 a2 a3 a4 a5:y7)(ty:List Int)(nm:List D8)(tys:List Int)(cs:List y3.Data)(s:D8)(r:Int×Int)(hn:nm.length<=10000)(ht:tys.length<=10000)
  (hc:∀ a7,Pm A f [.ptr 8 0,.ptr 6 0] [a0,a1,a2,a3,a4,a5,.cells [.d (ints ty)],a7,.cells (cs.map .d)] Pp (pair r) [a0,a1,a2,a3,a4,a5,.cells [.d (ints ty)],a7,.cells (cs.map .d)]) :
  Pm A 154 [.ptr 7 0,.d (.str s),.func f [] [.ptr 8 0,.ptr 6 0]] [a0,a1,a2,a3,a4,a5,.cells [.d (ints ty)],.cells (jN nm tys),.cells (cs.map .d)] l9 (.d (num (Z6 nm s r)))
   [a0,a1,a2,a3,a4,a5,.cells [.d (ints ty)],.cells (jN (jy nm s r) (jz nm tys s r)),.cells (cs.map .d)]:=by
 have p1:=hc (.cells (jN nm tys));have p2:=Kd nm s (by omega);unfold pair at p1
 suffices h:Pq A 154 [.ptr 7 0,.d (.str s),.func f [] [.ptr 8 0,.ptr 6 0]] [a0,a1,a2,a3,a4,a5,.cells [.d (ints ty)],.cells (jN nm tys),.cells (cs.map .d)] l9 fun v H1=>v= .d (num (Z6 nm s r))/\H1=[a0,a1,a2,a3,a4,a5,.cells [.d (ints ty)],.cells (jN (jy nm s r) (jz nm tys s r)),.cells (cs.map .d)] by
  obtain ⟨v,H1,⟨rfl,rfl⟩,h⟩:=h;exact h
 have same:∀ e,Z6 nm s r=e->o9 e 0=false->jy nm s r=nm/\jz nm tys s r=tys:=fun e h1 h2=>by unfold jy jz;rw [h1,h2];exact ⟨rfl,rfl⟩
 have hr1:roomFor (nm.length+1) 16=true:=by simp only [roomFor,decide_eq_true_eq];omega
 have Zs:roomFor (tys.length+1) 8=true:=by simp only [roomFor,decide_eq_true_eq];omega
 refine Pq.run (b:=9) [.ptr 7 0,.d (.str s),.func f [] [.ptr 8 0,.ptr 6 0],.any,.any,.any] rfl rfl rfl rfl rfl ?_;refine gr ?_;refine tB (!E3 s) ?_ (fun h1=> ?_) (fun h1=> ?_)
 ·repeat' (first|refine cl (AW _) ?_|refine gx ?_|refine fk (h1:=fun hw=> ?_) (h2:=fun hw=> ?_)|refine L7 (h1:=fun hw=> ?_) (h2:=fun hw=> ?_)|refine ⟨rfl,rfl,_,rfl,?_⟩|refine ⟨rfl,rfl⟩|fail)
  all_goals exact cc
 ·have e1:Z6 nm s r=3:=by unfold Z6;rw [h1];rfl
  have e2:=same 3 e1 (by simp [j9]);refine gr ?_;exact ⟨_,_,rfl,by rw [e1];rfl,by rw [e2.1,e2.2];rfl⟩
 unfold jN;refine gr ?_;refine tB (nm.any fun y=>J2 y s) ?_ (fun h2=> ?_) (fun h2=> ?_)
 ·repeat' (first|refine cl (p2) ?_|refine gx ?_|refine fk (h1:=fun hw=> ?_) (h2:=fun hw=> ?_)|refine L7 (h1:=fun hw=> ?_) (h2:=fun hw=> ?_)|refine ⟨rfl,rfl,_,rfl,?_⟩|refine ⟨rfl,rfl⟩|fail)
  all_goals exact cc
 ·have e1:Z6 nm s r=4:=by unfold Z6;rw [h1,h2];rfl
  have e2:=same 4 e1 (by simp [j9]);refine gr ?_;exact ⟨_,_,rfl,by rw [e1];rfl,by rw [e2.1,e2.2];rfl⟩
 unfold jN at p1
 repeat' (first|refine cv1 (fR:=hf1) (hm:=hf2) p1 rfl ?_|refine gx ?_|fail)
 refine tb (!o9 r.2 0) (fun h3=> ?_) (fun h3=> ?_)
 ·have e1:Z6 nm s r=r.2:=by unfold Z6;rw [h1,h2,h3];rfl
  have e2:=same _ e1 (by simpa using h3);refine gr ?_;exact ⟨_,_,rfl,by rw [e1];rfl,by rw [e2.1,e2.2];rfl⟩
 have e1:Z6 nm s r=0:=by unfold Z6;rw [h1,h2,h3];rfl
 have e2:jy nm s r=nm++[s]:=by unfold jy;rw [e1];simp [j9]
 have e3:jz nm tys s r=tys++[r.1]:=by unfold jz;rw [e1];simp [j9]
 refine gr ?_;refine ac1 (a:=s) (xs:=nm) (enc:=encS) hr1 rfl (h2:= ?_);refine gr ?_;refine ac1 (a:=r.1) (xs:=tys) (enc:=fun n=>[num n]) Zs rfl (h2:= ?_)
 repeat' (first|refine soO (h2:= ?_)|refine gx ?_|fail)
 exact ⟨_,_,rfl,by rw [e1];rfl,by rw [e2,e3];rfl⟩
theorem Ex.KB {A:Go.y3.Prog}{l:G9}{b:Nat}{c:o8}{st:St}{R:E4->St->Prop}{go:St->Prop}(P:St->Prop)(h1:Ex A l b c st (xq R P))(h2:∀ s,P s->go s):Ex A l b c st (xq R go):=by
 refine h1.mono fun x s h=> ?_
 cases x with
 |normal=>exact h2 s h
 |exit i=>exact h
 |ret=>exact h
def X3 (v:Vw)(L R:List Int):Int :=
 if !o9 (I5 L R v.on) 0 then I5 L R v.on
 else if C9 0 v.wh.length&& !o9 (F8 v.wh (L++R)).2 0 then (F8 v.wh (L++R)).2
 else if C9 0 v.wh.length&& !o9 (F8 v.wh (L++R)).1 1 then 5
 else V4 (L++R) [] (X1 v)
def lM (ss:List Y4)(v:Vw)(L R:List Int):List Y4:=if o9 (X3 v L R) 0 then ss++[(v.name,(X1 v).map DP.name,X8 v (L++R))] else ss
theorem mq {ty:List Int}{seen:List D8}{x:HC}{r:List DP}:V4 ty seen (⟨false,x.name, -1,x.expr⟩::r)=if !o9 (Z6 seen x.name (F8 x.expr ty)) 0 then Z6 seen x.name (F8 x.expr ty) else V4 ty (seen++[x.name]) r:=by
 have h3:o9 3 0=false:=by simp [j9]
 have h4:o9 4 0=false:=by simp [j9]
 have h0:o9 0 0=true:=by simp [j9]
 simp only [V4,Z6,Bool.false_and,b7,if_false]
 rcases A6 (E3 x.name) with c1|c1
 ·rcases A6 (seen.any fun y=>J2 y x.name) with c2|c2
  ·simp only [c1,c2,Bool.not_true,b7,if_false,if_true,h4,Bool.not_false]
  ·rcases A6 (o9 (F8 x.expr ty).2 0) with c3|c3
   ·simp only [c1,c2,c3,Bool.not_true,b7,if_false,h0]
   ·simp only [c1,c2,c3,Bool.not_true,Bool.not_false,b7,if_false,if_true]
 ·simp only [c1,Bool.not_false,if_true,h3]
theorem oE {ty:List Int}{seen:List D8}{x:Ao}{r:List DP}:V4 ty seen (⟨true,x.name,x.func,x.expr⟩::r)=if !o9 (Z6 seen x.name (bQ ty x)) 0 then Z6 seen x.name (bQ ty x) else V4 ty (seen++[x.name]) r:=by
 have h1:o9 1 0=false:=by simp [j9]
 have h3:o9 3 0=false:=by simp [j9]
 have h4:o9 4 0=false:=by simp [j9]
 have h6:o9 5 0=false:=by simp [j9]
 have h0:o9 0 0=true:=by simp [j9]
 simp only [V4,Z6,Bool.true_and]
 rcases A6 (E3 x.name) with c1|c1
 ·rcases A6 (seen.any fun y=>J2 y x.name) with c2|c2
  ·simp only [c1,c2,Bool.not_true,b7,if_false,if_true,h4,Bool.not_false]
  ·simp only [c1,c2,Bool.not_true,b7,if_false,bQ]
   rcases A6 (o9 x.func 0) with f0|f0
   ·have hw:n7 x.func 0 4=true:=by have:=X2 f0;simp [n7,p4];omega
    rcases A6 (C9 0 x.expr.length) with c5|c5
    ·simp only [f0,hw,c5,Bool.not_true,Bool.and_self,Bool.or_true,if_true,h1,Bool.not_false]
    ·simp only [f0,hw,c5,Bool.not_true,Bool.and_false,Bool.or_self,b7,if_false,if_true,h0]
   ·rcases A6 (n7 x.func 0 4) with hw|hw
    ·have hf:(o9 x.func 1||o9 x.func 2||o9 x.func 3||o9 x.func 4)=true:=by
      have:=mz f0;simp [n7,p4] at hw;simp [j9];omega
     simp only [f0,hw,hf,Bool.not_true,Bool.false_and,Bool.or_self,b7,if_false,if_true]
     rcases A6 (o9 (F8 x.expr ty).2 0) with c5|c5
     ·rcases A6 (o9 x.func 1&& !o9 (F8 x.expr ty).1 1) with c6|c6
      ·simp only [c5,c6,Bool.not_true,Bool.not_false,b7,if_false,if_true,h6]
      ·simp only [c5,c6,Bool.not_true,b7,if_false,h0]
     ·simp only [c5,Bool.not_false,if_true]
    ·have hf:(o9 x.func 1||o9 x.func 2||o9 x.func 3||o9 x.func 4)=false:=by
      simp [n7,p4] at hw;simp [j9];omega
     simp only [f0,hw,hf,Bool.not_false,Bool.true_or,b7,if_false,if_true,h1]
 ·simp only [c1,Bool.not_false,if_true,h3]
theorem Jr {ty:List Int}{x:Ao}(h:o9 (bQ ty x).2 0=true):(bQ ty x).1=qu ty x:=by
 have h1:o9 1 0=false:=by simp [j9]
 have h6:o9 5 0=false:=by simp [j9]
 unfold bQ at h ⊢;unfold qu;cases f0:o9 x.func 0 with
 |true =>
  rw [f0] at h;cases h5:C9 0 x.expr.length with
  |true=>rw [h5] at h;simp [h1] at h
  |false=>simp
 |false =>
  rw [f0] at h;simp only [b7,if_false,Bool.false_or] at h ⊢;cases h2:(o9 x.func 1||o9 x.func 2||o9 x.func 3||o9 x.func 4) with
  |false=>rw [h2] at h;simp [h1] at h
  |true =>
   rw [h2] at h;simp only [if_true] at h ⊢;cases h3:o9 (F8 x.expr ty).2 0 with
   |false=>rw [h3] at h;simp [h3] at h
   |true =>
    rw [h3] at h;simp only [Bool.not_true,b7,if_false] at h ⊢;cases f1:o9 x.func 1 with
    |false=>simp
    |true =>
     rw [f1] at h;cases h4:o9 (F8 x.expr ty).1 1 with
     |false=>rw [h4] at h;simp [h6] at h
     |true=>simpa using X2 h4
set_option maxHeartbeats 32000000 in
theorem Qf (c:m8)(ds:List D8)(ss:List Y4)(v:Vw)(L R:List Int)(hL:L.length<=5000)(hR:R.length<=5000)(h0:v.on.length<=1000)(h1:v.wh.length<=1000)(h2:v.items.length<=1000)(h3:v.C1.length<=1000)(h4:∀ i,i<v.items.length->(nth v.items i).expr.length<=1000)(h5:∀ i,i<v.C1.length->(nth v.C1 i).expr.length<=1000)
  (hs:((ss.map (·.1)).any fun y=>J2 y v.name)=false) (EF:ss.length<=1000):Pm A 120 [.ptr 4 0,vw v,.d (ints L),.d (ints R)] (HH c ds ss) lW (.d (num (X3 v L R))) (HH c ds (lM ss v L R)):=by
 suffices h:Pq A 120 [.ptr 4 0,vw v,.d (ints L),.d (ints R)] (HH c ds ss) lW fun w H1=>w= .d (num (X3 v L R))/\H1=HH c ds (lM ss v L R) by
  obtain ⟨w,H1,⟨rfl,rfl⟩,h⟩:=h;exact h
 have same:∀ e,X3 v L R=e->o9 e 0=false->lM ss v L R=ss:=fun e g1 g2=>by unfold lM;rw [g1,g2];rfl
 have xU:=yb c ds ss v.name ((X1 v).map DP.name) (X8 v (L++R)) hs EF;have PO:=Vx [L,R] (by simp) (by
  intro i hi
  match i,hi with
  |0,_=>rw [U0];omega
  |1,_=>rw [mQ,U0];omega)
 have pW:=Ff v.wh (L++R) h1 (by simp;omega);unfold pair at pW;have hfl:[L,R].flatten=L++R:=by simp
 rw [hfl] at PO;have hTl:(L++R).length<=100000:=by simp;omega
 unfold HH at *
 refine Pq.run (b:=5) [.ptr 4 0,vw v,.d (ints L),.d (ints R),.any,.any,.any,.any,.any,.any,.any,.any,.any,.any,.any,.any,.any,.any,.any,.any,.any,.any,.any,.any] rfl rfl rfl rfl rfl ?_;refine gr ?_;refine Ex.fS (fun k T H=>∃ (i:Nat),T=[.ptr 4 0,.any,.d (ints L),.d (ints R),.ptr 5 0,.any,.any,.any,.any,.any,.any,.any,.any,.any,.any,.d (z6 (fun p=>[num p.1,num p.2]) v.on),.d (num v.on.length),.d (num i),.any,.any,.any,.any,.any,.any]/\H=[.cells (c.enc.map .d),.cells (c.enc.map .d),.map (dmap ds),.map (T3 (ss.map (·.1)) 0),.cells (c.enc.map .d++[.map 2,.map 3,B3 2 F9 ss]),.cells (v.enc.map .d)]/\i+k=v.on.length/\I5 L R v.on=I5 L R (v.on.drop i)) ?_ (k:=v.on.length) ⟨0,rfl,rfl,by simp,by simp⟩;rintro k _ _ ⟨i,rfl,rfl,hk,hi⟩;refine Ex.seq ?_;refine tb (C9 i v.on.length) (fun g1=> ?_) (fun g1=> ?_)
 ·have g2:=y9 g1
  rw [A2 (by omega)] at hi;refine gr ?_;refine tB (!n7 (nth v.on i).1 0 (L.length - 1)|| !n7 (nth v.on i).2 0 (R.length - 1)) ?_ (fun g3=> ?_) (fun g3=> ?_)
  ·repeat' (first|refine cl (bX _ _ _) ?_|refine gx ?_|refine fk (h1:=fun hw=> ?_) (h2:=fun hw=> ?_)|refine L7 (h1:=fun hw=> ?_) (h2:=fun hw=> ?_)|refine ⟨rfl,rfl,_,rfl,?_⟩|refine ⟨rfl,rfl⟩|fail)
   all_goals exact cc
  ·have e1:I5 L R v.on=3:=by rw [hi,I5,g3];rfl
   have e2:X3 v L R=3:=by unfold X3;rw [e1];simp [j9]
   refine gr ?_;exact ⟨_,_,rfl,by rw [e2];rfl,by rw [same 3 e2 (by simp [j9])];rfl⟩
  have g4:=g3;simp [n7,p4] at g4;refine gr ?_;refine tb (!o9 (nth L (nth v.on i).1.toNat) (nth R (nth v.on i).2.toNat)) (fun g5=> ?_) (fun g5=> ?_)
  ·have e1:I5 L R v.on=5:=by rw [hi,I5,g3,g5];rfl
   have e2:X3 v L R=5:=by unfold X3;rw [e1];simp [j9]
   refine gr ?_;exact ⟨_,_,rfl,by rw [e2];rfl,by rw [same 5 e2 (by simp [j9])];rfl⟩
  ·refine gr ?_
   exact ⟨k - 1,by omega,_,_,rfl,i+1,rfl,rfl,by omega,by rw [hi,I5,g3,g5];rfl⟩
 have g2:=y8 g1;rw [k9 (by omega)] at hi;have e0:(!o9 (I5 L R v.on) 0)=false:=by rw [hi];simp [I5,j9]
 clear g1 g2 hk hi
 repeat' (first|refine cl (PO) ?_|refine gx ?_|fail)
 refine Ex.KB (fun s=>∃ (w1 w2 w3 w5 w6 w8 w9 jX hU KF Ro Rp w15 w16 w17 w18 w19 w20 w21 w22 w23:b6),s=⟨[.ptr 4 0,w1,w2,w3,.ptr 5 0,w5,w6,.ptr 6 0,w8,w9,jX,hU,KF,Ro,Rp,w15,w16,w17,w18,w19,w20,w21,w22,w23],[.cells (c.enc.map .d),.cells (c.enc.map .d),.map (dmap ds),.map (T3 (ss.map (·.1)) 0),.cells (c.enc.map .d++[.map 2,.map 3,B3 2 F9 ss]),.cells (v.enc.map .d),.cells [.d (ints (L++R))]]⟩/\X3 v L R=V4 (L++R) [] (X1 v)) ?_ ?_
 ·skip
  refine tb (C9 0 v.wh.length) (fun g6=> ?_) (fun g6=> ?_)
  ·repeat' (first|refine cl (pW) ?_|refine gx ?_|fail)
   refine tb (!o9 (F8 v.wh (L++R)).2 0) (fun g7=> ?_) (fun g7=> ?_)
   ·have e1:X3 v L R=(F8 v.wh (L++R)).2:=by unfold X3;rw [e0,g6,g7];rfl
    refine gr ?_;exact ⟨_,_,rfl,by rw [e1];rfl,by rw [same _ e1 (by simpa using g7)];rfl⟩
   refine gr ?_;refine tb (!o9 (F8 v.wh (L++R)).1 1) (fun g8=> ?_) (fun g8=> ?_)
   ·have e1:X3 v L R=5:=by unfold X3;rw [e0,g6,g7,g8];rfl
    refine gr ?_;exact ⟨_,_,rfl,by rw [e1];rfl,by rw [same 5 e1 (by simp [j9])];rfl⟩
   ·have e1:X3 v L R=V4 (L++R) [] (X1 v):=by unfold X3;rw [e0,g6,g7,g8];rfl
    refine gr ?_;exact ⟨_,_,_,_,_,_,_,_,_,_,_,_,_,_,_,_,_,_,_,_,_,rfl,e1⟩
  ·have e1:X3 v L R=V4 (L++R) [] (X1 v):=by unfold X3;rw [e0,g6];rfl
   refine gr ?_;exact ⟨_,_,_,_,_,_,_,_,_,_,_,_,_,_,_,_,_,_,_,_,_,rfl,e1⟩
 rintro _ ⟨w1,w2,w3,w5,w6,w8,w9,jX,hU,KF,Ro,Rp,w15,w16,w17,w18,w19,w20,w21,w22,w23,rfl,hin⟩;refine gr ?_;refine Ex.fS (fun k T H=>∃ (i:Nat) (nm:List D8) (tys:List Int),T=[.ptr 4 0,.any,.any,.any,.ptr 5 0,.any,.any,.ptr 6 0,.any,.any,.ptr 7 0,.any,.any,.any,.any,.any,.any,.any,.d (z6 HC.enc v.items),.d (num v.items.length),.d (num i),.any,.any,.any]/\H=[.cells (c.enc.map .d),.cells (c.enc.map .d),.map (dmap ds),.map (T3 (ss.map (·.1)) 0),.cells (c.enc.map .d++[.map 2,.map 3,B3 2 F9 ss]),.cells (v.enc.map .d),.cells [.d (ints (L++R))],.cells (jN nm tys)]/\i+k=v.items.length/\nm=(v.items.take i).map HC.name/\tys=(v.items.take i).map (fun x=>(F8 x.expr (L++R)).1)/\X3 v L R=V4 (L++R) nm ((X1 v).drop i)) ?_ (k:=v.items.length) ⟨0,[],[],rfl,rfl,by simp,by simp,by simp,by simpa using hin⟩;rintro k _ _ ⟨i,nm,tys,rfl,rfl,hk,hnm,eg,hi⟩;have Zp:nm.length=i:=by rw [hnm];simp;omega
 have nY:tys.length=i:=by rw [eg];simp;omega
 refine Ex.seq ?_;refine tb (C9 i v.items.length) (fun g1=> ?_) (fun g1=> ?_)
 ·have g2:=y9 g1
  have hel:=fh v;rw [A2 (by omega),nW v (by omega),mq] at hi;have IJ:=Fh 155 rfl rfl (.cells (c.enc.map .d)) (.cells (c.enc.map .d)) (.map (dmap ds)) (.map (T3 (ss.map (·.1)) 0)) (.cells (c.enc.map .d++[.map 2,.map 3,B3 2 F9 ss])) (.cells (v.enc.map .d)) (L++R) nm tys (nth v.items i).enc (nth v.items i).name (F8 (nth v.items i).expr (L++R)) (by omega) (by omega) (fun a7=>Qi (.cells (c.enc.map .d)) (.cells (c.enc.map .d)) (.map (dmap ds)) (.map (T3 (ss.map (·.1)) 0)) (.cells (c.enc.map .d++[.map 2,.map 3,B3 2 F9 ss])) (.cells (v.enc.map .d)) a7 (L++R) (nth v.items i) (h4 i (by omega)) hTl)
  repeat' (first|refine c0 IJ rfl (h2:= ?_)|refine gx ?_|fail)
  refine tb (!o9 (Z6 nm (nth v.items i).name (F8 (nth v.items i).expr (L++R))) 0) (fun g3=> ?_) (fun g3=> ?_)
  ·rw [g3,if_pos rfl] at hi
   refine gr ?_;exact ⟨_,_,rfl,by rw [hi];rfl,by rw [same _ hi (by simpa using g3)];rfl⟩
  ·rw [g3,if_neg (by simp)] at hi
   have e1:o9 (Z6 nm (nth v.items i).name (F8 (nth v.items i).expr (L++R))) 0=true:=by simpa using g3
   have e2:jy nm (nth v.items i).name (F8 (nth v.items i).expr (L++R))=nm++[(nth v.items i).name]:=by unfold jy;rw [e1];rfl
   have e3:jz nm tys (nth v.items i).name (F8 (nth v.items i).expr (L++R))=tys++[(F8 (nth v.items i).expr (L++R)).1]:=by unfold jz;rw [e1];rfl
   rw [e2,e3];refine gr ?_;exact ⟨k - 1,by omega,_,_,rfl,i+1,nm++[(nth v.items i).name],tys++[(F8 (nth v.items i).expr (L++R)).1],rfl,rfl,by omega,by rw [F7 (by omega),hnm];simp,by rw [F7 (by omega),eg];simp,hi⟩
 have g2:=y8 g1;rw [q5 (by omega)] at hnm eg;have UZ:i=v.items.length:=by omega
 subst UZ;clear g1 g2 hk;refine gr ?_;refine Ex.fS (fun k T H=>∃ (i:Nat) (qZ:List D8) (kU:List Int),T=[.ptr 4 0,.any,.any,.any,.ptr 5 0,.any,.any,.ptr 6 0,.any,.any,.ptr 7 0,.any,.any,.any,.any,.any,.any,.any,.any,.any,.any,.d (z6 Ao.enc v.C1),.d (num v.C1.length),.d (num i)]/\H=[.cells (c.enc.map .d),.cells (c.enc.map .d),.map (dmap ds),.map (T3 (ss.map (·.1)) 0),.cells (c.enc.map .d++[.map 2,.map 3,B3 2 F9 ss]),.cells (v.enc.map .d),.cells [.d (ints (L++R))],.cells (jN qZ kU)]/\i+k=v.C1.length/\qZ=nm++(v.C1.take i).map Ao.name/\kU=tys++(v.C1.take i).map (qu (L++R))/\X3 v L R=V4 (L++R) qZ ((X1 v).drop (v.items.length+i))) ?_ (k:=v.C1.length) ⟨0,nm,tys,rfl,rfl,by simp,by simp,by simp,hi⟩;clear hi;rintro k _ _ ⟨i,qZ,kU,rfl,rfl,hk,CG,xB,hi⟩;have hl3:qZ.length=v.items.length+i:=by rw [CG,E0,Zp];simp;omega
 have hl4:kU.length=v.items.length+i:=by rw [xB,E0,nY];simp;omega
 refine Ex.seq ?_;have hel:=fh v;refine tb (C9 i v.C1.length) (fun g1=> ?_) (fun g1=> ?_)
 ·have g2:=y9 g1
  rw [A2 (by omega),qK v (by omega) (by omega),Nat.add_sub_cancel_left,oE] at hi;have IJ:=Fh 156 rfl rfl (.cells (c.enc.map .d)) (.cells (c.enc.map .d)) (.map (dmap ds)) (.map (T3 (ss.map (·.1)) 0)) (.cells (c.enc.map .d++[.map 2,.map 3,B3 2 F9 ss])) (.cells (v.enc.map .d)) (L++R) qZ kU (nth v.C1 i).enc (nth v.C1 i).name (bQ (L++R) (nth v.C1 i)) (by omega) (by omega) (fun a7=>Qj (.cells (c.enc.map .d)) (.cells (c.enc.map .d)) (.map (dmap ds)) (.map (T3 (ss.map (·.1)) 0)) (.cells (c.enc.map .d++[.map 2,.map 3,B3 2 F9 ss])) (.cells (v.enc.map .d)) a7 (L++R) (nth v.C1 i) (h5 i (by omega)) hTl)
  repeat' (first|refine c0 IJ rfl (h2:= ?_)|refine gx ?_|fail)
  refine tb (!o9 (Z6 qZ (nth v.C1 i).name (bQ (L++R) (nth v.C1 i))) 0) (fun g3=> ?_) (fun g3=> ?_)
  ·rw [g3,if_pos rfl] at hi
   refine gr ?_;exact ⟨_,_,rfl,by rw [hi];rfl,by rw [same _ hi (by simpa using g3)];rfl⟩
  ·rw [g3,if_neg (by simp)] at hi
   have e1:o9 (Z6 qZ (nth v.C1 i).name (bQ (L++R) (nth v.C1 i))) 0=true:=by simpa using g3
   have e2:jy qZ (nth v.C1 i).name (bQ (L++R) (nth v.C1 i))=qZ++[(nth v.C1 i).name]:=by unfold jy;rw [e1];rfl
   have e3:jz qZ kU (nth v.C1 i).name (bQ (L++R) (nth v.C1 i))=kU++[(bQ (L++R) (nth v.C1 i)).1]:=by unfold jz;rw [e1];rfl
   have e4:o9 (bQ (L++R) (nth v.C1 i)).2 0=true:=by
    have e5:=X2 e1;unfold Z6 at e5;cases c1:(!E3 (nth v.C1 i).name) with
    |true=>rw [c1] at e5;simp at e5
    |false =>
     rw [c1] at e5;cases c2:qZ.any fun y=>J2 y (nth v.C1 i).name with
     |true=>rw [c2] at e5;simp at e5
     |false =>
      rw [c2] at e5;cases c3:o9 (bQ (L++R) (nth v.C1 i)).2 0 with
      |true=>rfl
      |false=>rw [c3] at e5;simp at e5;rw [e5] at c3;simp [j9] at c3
   rw [e2,e3];refine gr ?_;exact ⟨k - 1,by omega,_,_,rfl,i+1,qZ++[(nth v.C1 i).name],kU++[(bQ (L++R) (nth v.C1 i)).1],rfl,rfl,by omega,by rw [F7 (by omega),CG];simp,by rw [F7 (by omega),xB,Jr e4];simp,hi⟩
 ·have g2:=y8 g1
  rw [q5 (by omega)] at CG xB;rw [k9 (by omega)] at hi;have e1:X3 v L R=0:=hi;have e2:lM ss v L R=ss++[(v.name,(X1 v).map DP.name,X8 v (L++R))]:=by unfold lM;rw [e1];simp [j9]
  have e3:qZ=(X1 v).map DP.name:=by rw [CG,hnm];simp [X1,Function.comp_def]
  have e4:kU=X8 v (L++R):=by rw [xB,eg];rfl
  rw [e2,e3,e4];refine gr ?_;unfold jN
  repeat' (first|refine c0 xU rfl (h2:= ?_)|refine gx ?_|fail)
  exact ⟨_,_,rfl,by rw [e1];rfl,rfl⟩
end Go.Proofs.YtkmclibmmlgogaaGreat


import Derived.Test.YtibjocmpkoepoaaGreatUD7
import Derived.Test.YtibjocmpkoepoaaGreatUD5
set_option linter.all false
open Bool renaming eq_false_or_eq_true → B3, false_eq_true → j3, not_eq_false' → C7, not_eq_true' → n5, or_eq_false_iff → F3
open List renaming cons_append → A5, drop_of_length_le → l5, length_append → o8, nil_append → D8, take_of_length_le → B5
open Nat renaming le_of_ble_eq_true → j5, lt_or_ge → y4
namespace Go.Proofs.YtibjocmpkoepoaaGreat
open Go.x9 Go.x9.S
attribute [local irreducible] Rx Ry Rn Ex Pf
def vw' (v:Vw):c8:= .agg (v.enc.map .d)
def iW (v:Vw):Bool :=
 if s8 v.kind 2 then !M0 v.right []&&s8 v.on.length 0&&s8 v.wh.length 0&&s8 v.items.length 0&&s8 v.D4.length 0&& !v.distinct
 else if (F0 0 v.on.length&&M0 v.right [])||F0 8 v.on.length then false
 else if s8 v.kind 0&&(s8 v.items.length 0||F0 0 v.D4.length) then false
 else if s8 v.kind 1&&(s8 v.D4.length 0||v.distinct) then false
 else ah (v.items.length+v.D4.length) 8
set_option maxHeartbeats 8000000 in
def ad2 (v:Vw)(h0:v.items.length<=1000)(h1:v.D4.length<=1000):Pf A 217 [vw' v] (.d (.bool (iW v))):=by
 refine Pf.run [vw' v,.any,.any] rfl rfl rfl rfl ?_;refine gr ?_;refine tb (s8 v.kind 2) (fun g1=> ?_) (fun g1=> ?_)
 .repeat' (first|refine gx ?_|refine fk (h1:=fun hw=> ?_) (h2:=fun hw=> ?_)|refine R8 (h1:=fun hw=> ?_) (h2:=fun hw=> ?_)|refine Ex.O6 ?_|refine Ex.P0 ?_|refine Ex.cond rfl (fun ht=> ?_) (fun ht=> ?_)|refine Ex.test (Rn.text ?_)|refine Ex.test (Rn.draw ?_)|refine ⟨_,rfl,fun ht=> ?_,fun ht=> ?_⟩|refine ⟨_,rfl,?_⟩|fail)
  all_goals unfold iW
  all_goals rw [g1]
  all_goals simp [*,j7]
 refine gr ?_;refine tb ((F0 0 v.on.length&&M0 v.right [])||F0 8 v.on.length) (fun g2=> ?_) (fun g2=> ?_)
 .refine gr ?_
  exact ⟨_,rfl,by unfold iW;rw [g1,g2];rfl⟩
 refine gr ?_;refine tb (s8 v.kind 0&&(s8 v.items.length 0||F0 0 v.D4.length)) (fun g3=> ?_) (fun g3=> ?_)
 .refine gr ?_
  exact ⟨_,rfl,by unfold iW;rw [g1,g2,g3];rfl⟩
 refine gr ?_;refine tb (s8 v.kind 1&&(s8 v.D4.length 0||v.distinct)) (fun g4=> ?_) (fun g4=> ?_)
 .refine gr ?_
  exact ⟨_,rfl,by unfold iW;rw [g1,g2,g3,g4];rfl⟩
 refine gr ?_;exact ⟨_,rfl,by unfold iW;rw [g1,g2,g3,g4];rfl⟩
def nS {A:Go.x9.Prog}{l:F2}{b:Nat}{dr:Bool}{j9 ops:List p6}{T:List c8}{H:o9}{n:Nat}{rl:List c8}{o7:List x9.Touch}{Q:List c8->o9->List c8->Prop}{α:Type}{enc:α->List x9.Data}{xs:List α}{neg:Bool}{x:y6}{u:List Nat}
  (h0:0<xs.length) (h2:Ry A l b dr j9 ops T H (n+1) (.d (.bool neg)::rl) o7 Q) (hx:rq T n rl x= .d (z8 enc xs):=by rfl):Ry A l b dr j9 (⟨.Au neg x,none,none,u⟩::ops) T H n rl o7 Q :=
 Ry.pure (rs:=[]) rfl (by simp [n9,hx,z8,h0]) h2
def ad4 (xs:List L3)(h0:0<xs.length)(h1:xs.length<=100000):Pf A 219 [.d (z8 (fun s=>[.str s]) xs)] (C4 1 (fun s=>[.str s]) xs):=by
 refine Pf.run [.d (z8 (fun s=>[.str s]) xs),.any] rfl rfl rfl rfl ?_;refine gr ?_;refine tB (false) ?_ (fun h2=> ?_) (fun h2=> ?_)
 .repeat' (first|refine nS h0 ?_|refine gx ?_|refine fk (h1:=fun hw=> ?_) (h2:=fun hw=> ?_)|refine R8 (h1:=fun hw=> ?_) (h2:=fun hw=> ?_)|refine ⟨rfl,rfl,_,rfl,?_⟩|refine ⟨rfl,rfl⟩|fail)
  all_goals exact cc
 .cases h2
 refine gr ?_;exact ⟨_,rfl,rfl⟩
def ad5 (xs:List Int)(h0:0<xs.length)(h1:xs.length<=100000):Pf A 220 [.d (ints xs)] (C4 1 (fun n=>[num n]) xs):=by
 refine Pf.run [.d (ints xs),.any] rfl rfl rfl rfl ?_;refine gr ?_;refine tB (false) ?_ (fun h2=> ?_) (fun h2=> ?_)
 .repeat' (first|refine nS h0 ?_|refine gx ?_|refine fk (h1:=fun hw=> ?_) (h2:=fun hw=> ?_)|refine R8 (h1:=fun hw=> ?_) (h2:=fun hw=> ?_)|refine ⟨rfl,rfl,_,rfl,?_⟩|refine ⟨rfl,rfl⟩|fail)
  all_goals exact cc
 .cases h2
 refine gr ?_;exact ⟨_,rfl,rfl⟩
def aJ7 (n:Nat)(h:n<=1000000)(l:F2):Pm A 279 [.N7,.d (num n)] [] l (.own 1 0 []) []:=by
 refine ⟨1,fun k hk=> ?_⟩;obtain ⟨k,rfl⟩:∃ j,k=j+1:=⟨k - 1,by omega⟩;have h1:A.cw 279=some Dt:=rfl;simp only [call,h1,Dt,num];rw [if_pos (by omega)]
def Hu (l:List Int):List x9.Data:=[ints l]
set_option maxHeartbeats 4000000 in
def ae0 (xss:List (List Int))(h0:xss.length<=100)(h1:∀ i,i<xss.length->(nth xss i).length<=10000):Pf A 254 [.d (z8 Hu xss)] (.d (ints xss.flatten)):=by
 refine Pf.run [.d (z8 Hu xss),.any,.any,.any,.any,.any,.any,.any,.any,.any,.any,.any] rfl rfl rfl rfl ?_;refine gr ?_;refine Ex.M5 (fun k T H=>∃ (i m:Nat) (w1 w3 w4 w5 w9 mR kW:c8),T=[.d (z8 Hu xss),w1,.d (num m),w3,w4,w5,.d (z8 Hu xss),.d (num xss.length),.d (num i),w9,mR,kW]/\H=[]/\i+k=xss.length/\m<=i * 10000) (by rintro _ _ _ ⟨_,_,_,_,_,_,_,_,_,_,rfl,_⟩;rfl) ?_ (k:=xss.length) ⟨0,0,_,_,_,_,_,_,_,rfl,rfl,by simp,by simp⟩;rintro k _ _ ⟨i,m,w1,w3,w4,w5,w9,mR,kW,rfl,rfl,hk,hm⟩;refine Ex.nT ?_;refine Ex.seq ?_;refine tb (F0 i xss.length) (fun h2=> ?_) (fun h2=> ?_)
 .have h3:=A9 h2
  have h4:=h1 i (by omega);have h5:m<=1000000:=by omega
  refine gr ?_;refine tb (false) (fun h6=> ?_) (fun h6=> ?_)
  .cases h6
  refine gr ?_;exact ⟨k - 1,by omega,i+1,m+(nth xss i).length,_,_,_,_,_,_,_,rfl,rfl,by omega,by omega⟩
 have h3:=B8 h2;have h5:m<=1000000:=by omega
 have p1:=aJ7 m h5;clear h2 hm
 repeat' (first|refine c1 (p1 _) rfl ?_|refine gx ?_|fail)
 refine Ex.M5 (fun k T H=>∃ (i:Nat) (acc:List Int) (w0 w1 w2 w3 w5 w6 w7 w8:c8),T=[w0,w1,w2,w3,C4 1 (fun n=>[num n]) acc,w5,w6,w7,w8,.d (z8 Hu xss),.d (num xss.length),.d (num i)]/\H=[]/\i+k=xss.length/\acc.length<=i * 10000/\xss.flatten=acc++(xss.drop i).flatten) (by rintro _ _ _ ⟨_,_,_,_,_,_,_,_,_,_,_,rfl,_⟩;rfl) ?_ (k:=xss.length) ⟨0,[],_,_,_,_,_,_,_,_,rfl,rfl,by simp,by simp,by simp⟩;rintro k _ _ ⟨i,acc,w0,w1,w2,w3,w5,w6,w7,w8,rfl,rfl,hk,hl,hacc⟩;refine Ex.nT ?_;refine Ex.seq ?_;refine tb (F0 i xss.length) (fun h2=> ?_) (fun h2=> ?_)
 .have h6:=A9 h2
  have h7:=h1 i (by omega);rw [B9 (by omega)] at hacc;have h8:acc.length<=1000000:=by omega
  refine gr ?_;exact ⟨k - 1,by omega,i+1,acc++nth xss i,_,_,_,_,_,_,_,_,rfl,rfl,by omega,by simp;omega,by rw [hacc];simp⟩
 .have h6:=B8 h2
  rw [l5 (by omega)] at hacc;refine gr ?_;exact ⟨_,rfl,by rw [hacc];simp [j7,ints,z8]⟩
def agr (a:Ce):c8:= .agg (a.enc.map .d)
def cD (ty:List Int)(a:Ce):Int×Int :=
 if s8 a.func 0 then (if F0 0 a.expr.length then (0,1) else (1,0))
 else if s8 a.func 1||s8 a.func 2||s8 a.func 3||s8 a.func 4 then (if !s8 (G7 a.expr ty).2 0 then (0,(G7 a.expr ty).2) else if s8 a.func 1&& !s8 (G7 a.expr ty).1 1 then (0,5) else ((G7 a.expr ty).1,0))
 else (0,1)
set_option maxHeartbeats 8000000 in
def ae1 (ty:List Int)(a:Ce)(h0:a.expr.length<=1000)(h1:ty.length<=100000):Pf A 259 [agr a,.d (ints ty)] (pair (cD ty a)):=by
 have p1:=IV a.expr ty h0 h1;unfold pair at p1;refine Pf.run [agr a,.d (ints ty),.any,.any,.any,.any,.any,.any,.any] rfl rfl rfl rfl ?_
 repeat' (first|refine cl (p1) ?_|refine gx ?_|refine fk (h1:=fun hw=> ?_) (h2:=fun hw=> ?_)|refine R8 (h1:=fun hw=> ?_) (h2:=fun hw=> ?_)|refine Ex.O6 ?_|refine Ex.P0 ?_|refine Ex.cond rfl (fun ht=> ?_) (fun ht=> ?_)|refine Ex.test (Rn.text ?_)|refine Ex.test (Rn.draw ?_)|refine ⟨_,rfl,fun ht=> ?_,fun ht=> ?_⟩|refine ⟨_,rfl,?_⟩|fail)
 all_goals unfold cD pair
 all_goals first|(simp [*,j7,c8.J2,num];done)|(simp_all [j7,c8.J2,num];done)
def l9:F2:=⟨0,0,9,9⟩
def Uc:F2:=⟨0,9,9,9⟩
def kQ (nm:List L3)(ty:List Int):List c8:=[C4 1 encS nm,C4 1 (fun n=>[num n]) ty]
def US (a0 a1 a2 a3 a4 a5 a7:u0)(ty:List Int)(x:GL)(h0:x.expr.length<=1000)(h1:ty.length<=100000) :
  Pm A 257 [.ptr 8 0,.ptr 6 0] [a0,a1,a2,a3,a4,a5,.cells [.d (ints ty)],a7,.cells (x.enc.map .d)] Uc (pair (G7 x.expr ty)) [a0,a1,a2,a3,a4,a5,.cells [.d (ints ty)],a7,.cells (x.enc.map .d)]:=by
 have p1:=IV x.expr ty h0 h1;unfold pair at *
 suffices h:Pq A 257 [.ptr 8 0,.ptr 6 0] [a0,a1,a2,a3,a4,a5,.cells [.d (ints ty)],a7,.cells (x.enc.map .d)] Uc fun v H1=>v= .tuple [.d (num (G7 x.expr ty).1),.d (num (G7 x.expr ty).2)]/\H1=[a0,a1,a2,a3,a4,a5,.cells [.d (ints ty)],a7,.cells (x.enc.map .d)] by
  obtain ⟨v,H1,⟨rfl,rfl⟩,h⟩:=h;exact h
 refine Pq.run (b:=9) [.ptr 8 0,.ptr 6 0,.any,.any] rfl rfl rfl rfl rfl ?_
 repeat' (first|refine cl (p1) ?_|refine gx ?_|fail)
 exact ⟨_,_,rfl,rfl,rfl⟩
def UT (a0 a1 a2 a3 a4 a5 a7:u0)(ty:List Int)(x:Ce)(h0:x.expr.length<=1000)(h1:ty.length<=100000) :
  Pm A 258 [.ptr 8 0,.ptr 6 0] [a0,a1,a2,a3,a4,a5,.cells [.d (ints ty)],a7,.cells (x.enc.map .d)] Uc (pair (cD ty x)) [a0,a1,a2,a3,a4,a5,.cells [.d (ints ty)],a7,.cells (x.enc.map .d)]:=by
 have p1:=ae1 ty x h0 h1;unfold pair at *
 suffices h:Pq A 258 [.ptr 8 0,.ptr 6 0] [a0,a1,a2,a3,a4,a5,.cells [.d (ints ty)],a7,.cells (x.enc.map .d)] Uc fun v H1=>v= .tuple [.d (num (cD ty x).1),.d (num (cD ty x).2)]/\H1=[a0,a1,a2,a3,a4,a5,.cells [.d (ints ty)],a7,.cells (x.enc.map .d)] by
  obtain ⟨v,H1,⟨rfl,rfl⟩,h⟩:=h;exact h
 refine Pq.run (b:=9) [.ptr 8 0,.ptr 6 0,.any,.any] rfl rfl rfl rfl rfl ?_
 repeat' (first|refine cl (p1) ?_|refine gx ?_|fail)
 exact ⟨_,_,rfl,rfl,rfl⟩
def aD (nm:List L3)(s:L3)(r:Int×Int):Int:=if !H6 s then 3 else if nm.any fun y=>M0 y s then 4 else if !s8 r.2 0 then r.2 else 0
def kr (nm:List L3)(s:L3)(r:Int×Int):List L3:=if s8 (aD nm s r) 0 then nm++[s] else nm
def ku (nm:List L3)(ty:List Int)(s:L3)(r:Int×Int):List Int:=if s8 (aD nm s r) 0 then ty++[r.1] else ty
set_option maxHeartbeats 8000000 in
def IZ (f:FuncId)(hf1:A.prom f=false)(hf2:A.mode f=1)(a0 a1 a2 a3 a4 a5:u0)(ty:List Int)(nm:List L3)(tys:List Int)(cs:List x9.Data)(s:L3)(r:Int×Int)(hn:nm.length<=10000)(ht:tys.length<=10000)
  (hc:∀ a7,Pm A f [.ptr 8 0,.ptr 6 0] [a0,a1,a2,a3,a4,a5,.cells [.d (ints ty)],a7,.cells (cs.map .d)] Uc (pair r) [a0,a1,a2,a3,a4,a5,.cells [.d (ints ty)],a7,.cells (cs.map .d)]) :
  Pm A 256 [.ptr 7 0,.d (.str s),.func f [] [.ptr 8 0,.ptr 6 0]] [a0,a1,a2,a3,a4,a5,.cells [.d (ints ty)],.cells (kQ nm tys),.cells (cs.map .d)] l9 (.d (num (aD nm s r)))
   [a0,a1,a2,a3,a4,a5,.cells [.d (ints ty)],.cells (kQ (kr nm s r) (ku nm tys s r)),.cells (cs.map .d)]:=by
 have p1:=hc (.cells (kQ nm tys));have p2:=ad6 nm s (by omega);unfold pair at p1
 suffices h:Pq A 256 [.ptr 7 0,.d (.str s),.func f [] [.ptr 8 0,.ptr 6 0]] [a0,a1,a2,a3,a4,a5,.cells [.d (ints ty)],.cells (kQ nm tys),.cells (cs.map .d)] l9 fun v H1=>v= .d (num (aD nm s r))/\H1=[a0,a1,a2,a3,a4,a5,.cells [.d (ints ty)],.cells (kQ (kr nm s r) (ku nm tys s r)),.cells (cs.map .d)] by
  obtain ⟨v,H1,⟨rfl,rfl⟩,h⟩:=h;exact h
 have same:∀ e,aD nm s r=e->s8 e 0=false->kr nm s r=nm/\ku nm tys s r=tys:=fun e h1 h2=>by unfold kr ku;rw [h1,h2];exact ⟨rfl,rfl⟩
 have hr1:roomFor (nm.length+1) 16=true:=by simp only [roomFor,decide_eq_true_eq];omega
 have Xo:roomFor (tys.length+1) 8=true:=by simp only [roomFor,decide_eq_true_eq];omega
 refine Pq.run (b:=9) [.ptr 7 0,.d (.str s),.func f [] [.ptr 8 0,.ptr 6 0],.any,.any,.any] rfl rfl rfl rfl rfl ?_;refine gr ?_;refine tB (!H6 s) ?_ (fun h1=> ?_) (fun h1=> ?_)
 .repeat' (first|refine cl (Dx _) ?_|refine gx ?_|refine fk (h1:=fun hw=> ?_) (h2:=fun hw=> ?_)|refine R8 (h1:=fun hw=> ?_) (h2:=fun hw=> ?_)|refine ⟨rfl,rfl,_,rfl,?_⟩|refine ⟨rfl,rfl⟩|fail)
  all_goals exact cc
 .have e1:aD nm s r=3:=by unfold aD;rw [h1];rfl
  have e2:=same 3 e1 (by simp [o6]);refine gr ?_;exact ⟨_,_,rfl,by rw [e1];rfl,by rw [e2.1,e2.2];rfl⟩
 unfold kQ;refine gr ?_;refine tB (nm.any fun y=>M0 y s) ?_ (fun h2=> ?_) (fun h2=> ?_)
 .repeat' (first|refine cl (p2) ?_|refine gx ?_|refine fk (h1:=fun hw=> ?_) (h2:=fun hw=> ?_)|refine R8 (h1:=fun hw=> ?_) (h2:=fun hw=> ?_)|refine ⟨rfl,rfl,_,rfl,?_⟩|refine ⟨rfl,rfl⟩|fail)
  all_goals exact cc
 .have e1:aD nm s r=4:=by unfold aD;rw [h1,h2];rfl
  have e2:=same 4 e1 (by simp [o6]);refine gr ?_;exact ⟨_,_,rfl,by rw [e1];rfl,by rw [e2.1,e2.2];rfl⟩
 unfold kQ at p1
 repeat' (first|refine cv1 (gj:=hf1) (hm:=hf2) p1 rfl ?_|refine gx ?_|fail)
 refine tb (!s8 r.2 0) (fun h3=> ?_) (fun h3=> ?_)
 .have e1:aD nm s r=r.2:=by unfold aD;rw [h1,h2,h3];rfl
  have e2:=same _ e1 (by simpa using h3);refine gr ?_;exact ⟨_,_,rfl,by rw [e1];rfl,by rw [e2.1,e2.2];rfl⟩
 have e1:aD nm s r=0:=by unfold aD;rw [h1,h2,h3];rfl
 have e2:kr nm s r=nm++[s]:=by unfold kr;rw [e1];simp [o6]
 have e3:ku nm tys s r=tys++[r.1]:=by unfold ku;rw [e1];simp [o6]
 refine gr ?_;refine ac1 (a:=s) (xs:=nm) (enc:=encS) hr1 rfl (h2:= ?_);refine gr ?_;refine ac1 (a:=r.1) (xs:=tys) (enc:=fun n=>[num n]) Xo rfl (h2:= ?_)
 repeat' (first|refine soO (h2:= ?_)|refine gx ?_|fail)
 exact ⟨_,_,rfl,by rw [e1];rfl,by rw [e2,e3];rfl⟩
def Ex.OD {A:Go.x9.Prog}{l:F2}{b:Nat}{c:q9}{st:St}{R:F7->St->Prop}{go:St->Prop}(P:St->Prop)(h1:Ex A l b c st (zV R P))(h2:∀ s,P s->go s):Ex A l b c st (zV R go):=by
 refine h1.mono fun x s h=> ?_
 cases x with
 |normal=>exact h2 s h
 |exit i=>exact h
 |ret=>exact h
def Z0 (v:Vw)(L R:List Int):Int :=
 if !s8 (I4 L R v.on) 0 then I4 L R v.on
 else if F0 0 v.wh.length&& !s8 (G7 v.wh (L++R)).2 0 then (G7 v.wh (L++R)).2
 else if F0 0 v.wh.length&& !s8 (G7 v.wh (L++R)).1 1 then 5
 else V7 (L++R) [] (Z3 v)
def mZ (ss:List eP)(v:Vw)(L R:List Int):List eP:=if s8 (Z0 v L R) 0 then ss++[(v.name,(Z3 v).map yP.name,W9 v (L++R))] else ss
def nL {ty:List Int}{seen:List L3}{x:GL}{r:List yP}:V7 ty seen (⟨false,x.name, -1,x.expr⟩::r)=if !s8 (aD seen x.name (G7 x.expr ty)) 0 then aD seen x.name (G7 x.expr ty) else V7 ty (seen++[x.name]) r:=by
 have h3:s8 3 0=false:=by simp [o6]
 have h4:s8 4 0=false:=by simp [o6]
 have h0:s8 0 0=true:=by simp [o6]
 simp only [V7,aD,Bool.false_and,j3,if_false]
 rcases B3 (H6 x.name) with c1|c1
 .rcases B3 (seen.any fun y=>M0 y x.name) with c2|c2
  .simp only [c1,c2,Bool.not_true,j3,if_false,if_true,h4,Bool.not_false]
  .rcases B3 (s8 (G7 x.expr ty).2 0) with c3|c3
   .simp only [c1,c2,c3,Bool.not_true,j3,if_false,h0]
   .simp only [c1,c2,c3,Bool.not_true,Bool.not_false,j3,if_false,if_true]
 .simp only [c1,Bool.not_false,if_true,h3]
def qw {ty:List Int}{seen:List L3}{x:Ce}{r:List yP}:V7 ty seen (⟨true,x.name,x.func,x.expr⟩::r)=if !s8 (aD seen x.name (cD ty x)) 0 then aD seen x.name (cD ty x) else V7 ty (seen++[x.name]) r:=by
 have h1:s8 1 0=false:=by simp [o6]
 have h3:s8 3 0=false:=by simp [o6]
 have h4:s8 4 0=false:=by simp [o6]
 have h6:s8 5 0=false:=by simp [o6]
 have h0:s8 0 0=true:=by simp [o6]
 simp only [V7,aD,Bool.true_and]
 rcases B3 (H6 x.name) with c1|c1
 .rcases B3 (seen.any fun y=>M0 y x.name) with c2|c2
  .simp only [c1,c2,Bool.not_true,j3,if_false,if_true,h4,Bool.not_false]
  .simp only [c1,c2,Bool.not_true,j3,if_false,cD]
   rcases B3 (s8 x.func 0) with f0|f0
   .have hw:y7 x.func 0 4=true:=by have:=aQ f0;simp [y7,s9];omega
    rcases B3 (F0 0 x.expr.length) with c5|c5
    .simp only [f0,hw,c5,Bool.not_true,Bool.and_self,Bool.or_true,if_true,h1,Bool.not_false]
    .simp only [f0,hw,c5,Bool.not_true,Bool.and_false,Bool.or_self,j3,if_false,if_true,h0]
   .rcases B3 (y7 x.func 0 4) with hw|hw
    .have hf:(s8 x.func 1||s8 x.func 2||s8 x.func 3||s8 x.func 4)=true:=by
      have:=CQ f0;simp [y7,s9] at hw;simp [o6];omega
     simp only [f0,hw,hf,Bool.not_true,Bool.false_and,Bool.or_self,j3,if_false,if_true]
     rcases B3 (s8 (G7 x.expr ty).2 0) with c5|c5
     .rcases B3 (s8 x.func 1&& !s8 (G7 x.expr ty).1 1) with c6|c6
      .simp only [c5,c6,Bool.not_true,Bool.not_false,j3,if_false,if_true,h6]
      .simp only [c5,c6,Bool.not_true,j3,if_false,h0]
     .simp only [c5,Bool.not_false,if_true]
    .have hf:(s8 x.func 1||s8 x.func 2||s8 x.func 3||s8 x.func 4)=false:=by
      simp [y7,s9] at hw;simp [o6];omega
     simp only [f0,hw,hf,Bool.not_false,Bool.true_or,j3,if_false,if_true,h1]
 .simp only [c1,Bool.not_false,if_true,h3]
def No {ty:List Int}{x:Ce}(h:s8 (cD ty x).2 0=true):(cD ty x).1=sr ty x:=by
 have h1:s8 1 0=false:=by simp [o6]
 have h6:s8 5 0=false:=by simp [o6]
 unfold cD at h ⊢;unfold sr;cases f0:s8 x.func 0 with
 |true =>
  rw [f0] at h;cases h5:F0 0 x.expr.length with
  |true=>rw [h5] at h;simp [h1] at h
  |false=>simp
 |false =>
  rw [f0] at h;simp only [j3,if_false,Bool.false_or] at h ⊢;cases h2:(s8 x.func 1||s8 x.func 2||s8 x.func 3||s8 x.func 4) with
  |false=>rw [h2] at h;simp [h1] at h
  |true =>
   rw [h2] at h;simp only [if_true] at h ⊢;cases h3:s8 (G7 x.expr ty).2 0 with
   |false=>rw [h3] at h;simp [h3] at h
   |true =>
    rw [h3] at h;simp only [Bool.not_true,j3,if_false] at h ⊢;cases f1:s8 x.func 1 with
    |false=>simp
    |true =>
     rw [f1] at h;cases h4:s8 (G7 x.expr ty).1 1 with
     |false=>rw [h4] at h;simp [h6] at h
     |true=>simpa using aQ h4
set_option maxHeartbeats 32000000 in
def UP (c:y5)(ds:List L3)(ss:List eP)(v:Vw)(L R:List Int)(hL:L.length<=5000)(hR:R.length<=5000)(h0:v.on.length<=1000)(h1:v.wh.length<=1000)(h2:v.items.length<=1000)(h3:v.D4.length<=1000)(h4:∀ i,i<v.items.length->(nth v.items i).expr.length<=1000)(h5:∀ i,i<v.D4.length->(nth v.D4 i).expr.length<=1000)
  (hs:((ss.map (·.1)).any fun y=>M0 y v.name)=false) (hss:ss.length<=1000):Pm A 221 [.ptr 4 0,vw v,.d (ints L),.d (ints R)] (HH c ds ss) lW (.d (num (Z0 v L R))) (HH c ds (mZ ss v L R)):=by
 suffices h:Pq A 221 [.ptr 4 0,vw v,.d (ints L),.d (ints R)] (HH c ds ss) lW fun w H1=>w= .d (num (Z0 v L R))/\H1=HH c ds (mZ ss v L R) by
  obtain ⟨w,H1,⟨rfl,rfl⟩,h⟩:=h;exact h
 have same:∀ e,Z0 v L R=e->s8 e 0=false->mZ ss v L R=ss:=fun e g1 g2=>by unfold mZ;rw [g1,g2];rfl
 have AF:=AH c ds ss v.name ((Z3 v).map yP.name) (W9 v (L++R)) hs hss;have UD:=ae0 [L,R] (by simp) (by
  intro i hi
  match i,hi with
  |0,_=>rw [V0];omega
  |1,_=>rw [oq,V0];omega)
 have pW:=IV v.wh (L++R) h1 (by simp;omega);unfold pair at pW;have hfl:[L,R].flatten=L++R:=by simp
 rw [hfl] at UD;have hTl:(L++R).length<=100000:=by simp;omega
 unfold HH at *
 refine Pq.run (b:=5) [.ptr 4 0,vw v,.d (ints L),.d (ints R),.any,.any,.any,.any,.any,.any,.any,.any,.any,.any,.any,.any,.any,.any,.any,.any,.any,.any,.any,.any] rfl rfl rfl rfl rfl ?_;refine gr ?_;refine Ex.T7 (fun k T H=>∃ (i:Nat),T=[.ptr 4 0,.any,.d (ints L),.d (ints R),.ptr 5 0,.any,.any,.any,.any,.any,.any,.any,.any,.any,.any,.d (z8 (fun p=>[num p.1,num p.2]) v.on),.d (num v.on.length),.d (num i),.any,.any,.any,.any,.any,.any]/\H=[.cells (c.enc.map .d),.cells (c.enc.map .d),.map (dmap ds),.map (X3 (ss.map (·.1)) 0),.cells (c.enc.map .d++[.map 2,.map 3,C4 2 L6 ss]),.cells (v.enc.map .d)]/\i+k=v.on.length/\I4 L R v.on=I4 L R (v.on.drop i)) ?_ (k:=v.on.length) ⟨0,rfl,rfl,by simp,by simp⟩;rintro k _ _ ⟨i,rfl,rfl,hk,hi⟩;refine Ex.seq ?_;refine tb (F0 i v.on.length) (fun g1=> ?_) (fun g1=> ?_)
 .have g2:=A9 g1
  rw [B9 (by omega)] at hi;refine gr ?_;refine tB (!y7 (nth v.on i).1 0 (L.length - 1)|| !y7 (nth v.on i).2 0 (R.length - 1)) ?_ (fun g3=> ?_) (fun g3=> ?_)
  .repeat' (first|refine cl (IU _ _ _) ?_|refine gx ?_|refine fk (h1:=fun hw=> ?_) (h2:=fun hw=> ?_)|refine R8 (h1:=fun hw=> ?_) (h2:=fun hw=> ?_)|refine ⟨rfl,rfl,_,rfl,?_⟩|refine ⟨rfl,rfl⟩|fail)
   all_goals exact cc
  .have e1:I4 L R v.on=3:=by rw [hi,I4,g3];rfl
   have e2:Z0 v L R=3:=by unfold Z0;rw [e1];simp [o6]
   refine gr ?_;exact ⟨_,_,rfl,by rw [e2];rfl,by rw [same 3 e2 (by simp [o6])];rfl⟩
  have g4:=g3;simp [y7,s9] at g4;refine gr ?_;refine tb (!s8 (nth L (nth v.on i).1.toNat) (nth R (nth v.on i).2.toNat)) (fun g5=> ?_) (fun g5=> ?_)
  .have e1:I4 L R v.on=5:=by rw [hi,I4,g3,g5];rfl
   have e2:Z0 v L R=5:=by unfold Z0;rw [e1];simp [o6]
   refine gr ?_;exact ⟨_,_,rfl,by rw [e2];rfl,by rw [same 5 e2 (by simp [o6])];rfl⟩
  .refine gr ?_
   exact ⟨k - 1,by omega,_,_,rfl,i+1,rfl,rfl,by omega,by rw [hi,I4,g3,g5];rfl⟩
 have g2:=B8 g1;rw [l5 (by omega)] at hi;have e0:(!s8 (I4 L R v.on) 0)=false:=by rw [hi];simp [I4,o6]
 clear g1 g2 hk hi
 repeat' (first|refine cl (UD) ?_|refine gx ?_|fail)
 refine Ex.OD (fun s=>∃ (w1 w2 w3 w5 w6 w8 w9 mR kW OG Wc Wd w15 w16 w17 w18 w19 ZK ZL ZM ZN:c8),s=⟨[.ptr 4 0,w1,w2,w3,.ptr 5 0,w5,w6,.ptr 6 0,w8,w9,mR,kW,OG,Wc,Wd,w15,w16,w17,w18,w19,ZK,ZL,ZM,ZN],[.cells (c.enc.map .d),.cells (c.enc.map .d),.map (dmap ds),.map (X3 (ss.map (·.1)) 0),.cells (c.enc.map .d++[.map 2,.map 3,C4 2 L6 ss]),.cells (v.enc.map .d),.cells [.d (ints (L++R))]]⟩/\Z0 v L R=V7 (L++R) [] (Z3 v)) ?_ ?_
 .skip
  refine tb (F0 0 v.wh.length) (fun g6=> ?_) (fun g6=> ?_)
  .repeat' (first|refine cl (pW) ?_|refine gx ?_|fail)
   refine tb (!s8 (G7 v.wh (L++R)).2 0) (fun g7=> ?_) (fun g7=> ?_)
   .have e1:Z0 v L R=(G7 v.wh (L++R)).2:=by unfold Z0;rw [e0,g6,g7];rfl
    refine gr ?_;exact ⟨_,_,rfl,by rw [e1];rfl,by rw [same _ e1 (by simpa using g7)];rfl⟩
   refine gr ?_;refine tb (!s8 (G7 v.wh (L++R)).1 1) (fun g8=> ?_) (fun g8=> ?_)
   .have e1:Z0 v L R=5:=by unfold Z0;rw [e0,g6,g7,g8];rfl
    refine gr ?_;exact ⟨_,_,rfl,by rw [e1];rfl,by rw [same 5 e1 (by simp [o6])];rfl⟩
   .have e1:Z0 v L R=V7 (L++R) [] (Z3 v):=by unfold Z0;rw [e0,g6,g7,g8];rfl
    refine gr ?_;exact ⟨_,_,_,_,_,_,_,_,_,_,_,_,_,_,_,_,_,_,_,_,_,rfl,e1⟩
  .have e1:Z0 v L R=V7 (L++R) [] (Z3 v):=by unfold Z0;rw [e0,g6];rfl
   refine gr ?_;exact ⟨_,_,_,_,_,_,_,_,_,_,_,_,_,_,_,_,_,_,_,_,_,rfl,e1⟩
 rintro _ ⟨w1,w2,w3,w5,w6,w8,w9,mR,kW,OG,Wc,Wd,w15,w16,w17,w18,w19,ZK,ZL,ZM,ZN,rfl,hin⟩;refine gr ?_;refine Ex.T7 (fun k T H=>∃ (i:Nat) (nm:List L3) (tys:List Int),T=[.ptr 4 0,.any,.any,.any,.ptr 5 0,.any,.any,.ptr 6 0,.any,.any,.ptr 7 0,.any,.any,.any,.any,.any,.any,.any,.d (z8 GL.enc v.items),.d (num v.items.length),.d (num i),.any,.any,.any]/\H=[.cells (c.enc.map .d),.cells (c.enc.map .d),.map (dmap ds),.map (X3 (ss.map (·.1)) 0),.cells (c.enc.map .d++[.map 2,.map 3,C4 2 L6 ss]),.cells (v.enc.map .d),.cells [.d (ints (L++R))],.cells (kQ nm tys)]/\i+k=v.items.length/\nm=(v.items.take i).map GL.name/\tys=(v.items.take i).map (fun x=>(G7 x.expr (L++R)).1)/\Z0 v L R=V7 (L++R) nm ((Z3 v).drop i)) ?_ (k:=v.items.length) ⟨0,[],[],rfl,rfl,by simp,by simp,by simp,by simpa using hin⟩;rintro k _ _ ⟨i,nm,tys,rfl,rfl,hk,hnm,yh,hi⟩;have NH:nm.length=i:=by rw [hnm];simp;omega
 have mY:tys.length=i:=by rw [yh];simp;omega
 refine Ex.seq ?_;refine tb (F0 i v.items.length) (fun g1=> ?_) (fun g1=> ?_)
 .have g2:=A9 g1
  have hel:=ga v;rw [B9 (by omega),pI v (by omega),nL] at hi;have MD:=IZ 257 rfl rfl (.cells (c.enc.map .d)) (.cells (c.enc.map .d)) (.map (dmap ds)) (.map (X3 (ss.map (·.1)) 0)) (.cells (c.enc.map .d++[.map 2,.map 3,C4 2 L6 ss])) (.cells (v.enc.map .d)) (L++R) nm tys (nth v.items i).enc (nth v.items i).name (G7 (nth v.items i).expr (L++R)) (by omega) (by omega) (fun a7=>US (.cells (c.enc.map .d)) (.cells (c.enc.map .d)) (.map (dmap ds)) (.map (X3 (ss.map (·.1)) 0)) (.cells (c.enc.map .d++[.map 2,.map 3,C4 2 L6 ss])) (.cells (v.enc.map .d)) a7 (L++R) (nth v.items i) (h4 i (by omega)) hTl)
  repeat' (first|refine c0 MD rfl (h2:= ?_)|refine gx ?_|fail)
  refine tb (!s8 (aD nm (nth v.items i).name (G7 (nth v.items i).expr (L++R))) 0) (fun g3=> ?_) (fun g3=> ?_)
  .rw [g3,if_pos rfl] at hi
   refine gr ?_;exact ⟨_,_,rfl,by rw [hi];rfl,by rw [same _ hi (by simpa using g3)];rfl⟩
  .rw [g3,if_neg (by simp)] at hi
   have e1:s8 (aD nm (nth v.items i).name (G7 (nth v.items i).expr (L++R))) 0=true:=by simpa using g3
   have e2:kr nm (nth v.items i).name (G7 (nth v.items i).expr (L++R))=nm++[(nth v.items i).name]:=by unfold kr;rw [e1];rfl
   have e3:ku nm tys (nth v.items i).name (G7 (nth v.items i).expr (L++R))=tys++[(G7 (nth v.items i).expr (L++R)).1]:=by unfold ku;rw [e1];rfl
   rw [e2,e3];refine gr ?_;exact ⟨k - 1,by omega,_,_,rfl,i+1,nm++[(nth v.items i).name],tys++[(G7 (nth v.items i).expr (L++R)).1],rfl,rfl,by omega,by rw [J3 (by omega),hnm];simp,by rw [J3 (by omega),yh];simp,hi⟩
 have g2:=B8 g1;rw [B5 (by omega)] at hnm yh;have hie:i=v.items.length:=by omega
 subst hie;clear g1 g2 hk;refine gr ?_;refine Ex.T7 (fun k T H=>∃ (i:Nat) (tj:List L3) (mG:List Int),T=[.ptr 4 0,.any,.any,.any,.ptr 5 0,.any,.any,.ptr 6 0,.any,.any,.ptr 7 0,.any,.any,.any,.any,.any,.any,.any,.any,.any,.any,.d (z8 Ce.enc v.D4),.d (num v.D4.length),.d (num i)]/\H=[.cells (c.enc.map .d),.cells (c.enc.map .d),.map (dmap ds),.map (X3 (ss.map (·.1)) 0),.cells (c.enc.map .d++[.map 2,.map 3,C4 2 L6 ss]),.cells (v.enc.map .d),.cells [.d (ints (L++R))],.cells (kQ tj mG)]/\i+k=v.D4.length/\tj=nm++(v.D4.take i).map Ce.name/\mG=tys++(v.D4.take i).map (sr (L++R))/\Z0 v L R=V7 (L++R) tj ((Z3 v).drop (v.items.length+i))) ?_ (k:=v.D4.length) ⟨0,nm,tys,rfl,rfl,by simp,by simp,by simp,hi⟩;clear hi;rintro k _ _ ⟨i,tj,mG,rfl,rfl,hk,Ft,zZ,hi⟩;have hl3:tj.length=v.items.length+i:=by rw [Ft,o8,NH];simp;omega
 have hl4:mG.length=v.items.length+i:=by rw [zZ,o8,mY];simp;omega
 refine Ex.seq ?_;have hel:=ga v;refine tb (F0 i v.D4.length) (fun g1=> ?_) (fun g1=> ?_)
 .have g2:=A9 g1
  rw [B9 (by omega),sO v (by omega) (by omega),Nat.add_sub_cancel_left,qw] at hi;have MD:=IZ 258 rfl rfl (.cells (c.enc.map .d)) (.cells (c.enc.map .d)) (.map (dmap ds)) (.map (X3 (ss.map (·.1)) 0)) (.cells (c.enc.map .d++[.map 2,.map 3,C4 2 L6 ss])) (.cells (v.enc.map .d)) (L++R) tj mG (nth v.D4 i).enc (nth v.D4 i).name (cD (L++R) (nth v.D4 i)) (by omega) (by omega) (fun a7=>UT (.cells (c.enc.map .d)) (.cells (c.enc.map .d)) (.map (dmap ds)) (.map (X3 (ss.map (·.1)) 0)) (.cells (c.enc.map .d++[.map 2,.map 3,C4 2 L6 ss])) (.cells (v.enc.map .d)) a7 (L++R) (nth v.D4 i) (h5 i (by omega)) hTl)
  repeat' (first|refine c0 MD rfl (h2:= ?_)|refine gx ?_|fail)
  refine tb (!s8 (aD tj (nth v.D4 i).name (cD (L++R) (nth v.D4 i))) 0) (fun g3=> ?_) (fun g3=> ?_)
  .rw [g3,if_pos rfl] at hi
   refine gr ?_;exact ⟨_,_,rfl,by rw [hi];rfl,by rw [same _ hi (by simpa using g3)];rfl⟩
  .rw [g3,if_neg (by simp)] at hi
   have e1:s8 (aD tj (nth v.D4 i).name (cD (L++R) (nth v.D4 i))) 0=true:=by simpa using g3
   have e2:kr tj (nth v.D4 i).name (cD (L++R) (nth v.D4 i))=tj++[(nth v.D4 i).name]:=by unfold kr;rw [e1];rfl
   have e3:ku tj mG (nth v.D4 i).name (cD (L++R) (nth v.D4 i))=mG++[(cD (L++R) (nth v.D4 i)).1]:=by unfold ku;rw [e1];rfl
   have e4:s8 (cD (L++R) (nth v.D4 i)).2 0=true:=by
    have e5:=aQ e1;unfold aD at e5;cases c1:(!H6 (nth v.D4 i).name) with
    |true=>rw [c1] at e5;simp at e5
    |false =>
     rw [c1] at e5;cases c2:tj.any fun y=>M0 y (nth v.D4 i).name with
     |true=>rw [c2] at e5;simp at e5
     |false =>
      rw [c2] at e5;cases c3:s8 (cD (L++R) (nth v.D4 i)).2 0 with
      |true=>rfl
      |false=>rw [c3] at e5;simp at e5;rw [e5] at c3;simp [o6] at c3
   rw [e2,e3];refine gr ?_;exact ⟨k - 1,by omega,_,_,rfl,i+1,tj++[(nth v.D4 i).name],mG++[(cD (L++R) (nth v.D4 i)).1],rfl,rfl,by omega,by rw [J3 (by omega),Ft];simp,by rw [J3 (by omega),zZ,No e4];simp,hi⟩
 .have g2:=B8 g1
  rw [B5 (by omega)] at Ft zZ;rw [l5 (by omega)] at hi;have e1:Z0 v L R=0:=hi;have e2:mZ ss v L R=ss++[(v.name,(Z3 v).map yP.name,W9 v (L++R))]:=by unfold mZ;rw [e1];simp [o6]
  have e3:tj=(Z3 v).map yP.name:=by rw [Ft,hnm];simp [Z3,Function.comp_def]
  have e4:mG=W9 v (L++R):=by rw [zZ,yh];rfl
  rw [e2,e3,e4];refine gr ?_;unfold kQ
  repeat' (first|refine c0 AF rfl (h2:= ?_)|refine gx ?_|fail)
  exact ⟨_,_,rfl,by rw [e1];rfl,rfl⟩
def Ex.nH {A:Go.x9.Prog}{l:F2}{b:Nat}{c:q9}{T:List c8}{H:o9}{Q:F7->St->Prop}(H2:o9)(hH:H=H2)(h:Ex A l b c ⟨T,H2⟩ Q):Ex A l b c ⟨T,H⟩ Q:=hH ▸ h
def Rn.z {A:Go.x9.Prog}{l:F2}{b:Nat}{ops:List p6}{Q:List c8->o9->List c8->Prop}{T:List c8}{H:o9}(s na:Nat)(H' :o9)(zW:Y9 ops=[.dead])(wM:slotsOf ops=[.slot s])(hu:∀ i,i ∈ ops->∀ e,e ∈ i.aX->e<ops.length)(hH:H++[.dead]=H')(hna:H.length=na)(h:Rz A l b ops ops T H' 0 [] [.slot s] na Q):Rn A l b ops true T H Q:=by
 subst hH hna;exact Rn.bl2 zW wM hu h
def lpA {A:Go.x9.Prog}{l:F2}{b:Nat}{dr:Bool}{j9 ops:List p6}{T:List c8}{H:o9}{n:Nat}{rl:List c8}{o7:List x9.Touch}{Q:List c8->o9->List c8->Prop}{x:y6}{u:List Nat}{id o:Nat}{w v:c8}(hv:w.J2=v)(h2:Ry A l b dr j9 ops T H (n+1) (v::rl) o7 Q)(hx:rq T n rl x= .ptr id o:=by rfl)(hr:rd H id o 1=some [w]:=by rfl) :
  Ry A l b dr j9 (⟨.load none x,none,none,u⟩::ops) T H n rl o7 Q:=Ry.pure (rs:=[id]) rfl (by simp only [n9,hx,hr,hv]) h2
def S5 (ss:List eP)(s:L3):eP:=nth ss (J6 s (ss.map (·.1)) 0).toNat
def rY (ss:List eP)(v:Vw):eP:=if M0 v.right [] then ([],[],[]) else S5 ss v.right
def T8 (ss:List eP)(ds:List L3)(v:Vw):Int :=
 if !s8 (P3 ds v.name) 0 then P3 ds v.name
 else if !s8 v.kind 0&& !s8 v.kind 1&& !s8 v.kind 2 then 1
 else if F0 (J6 v.left (ss.map (·.1)) 0) 0||(!M0 v.right []&&F0 (J6 v.right (ss.map (·.1)) 0) 0) then 7
 else if !iW v then 1
 else if s8 v.kind 2 then (if !dH s8 (S5 ss v.left).2.2 (rY ss v).2.2 then 5 else 0)
 else Z0 v (S5 ss v.left).2.2 (rY ss v).2.2
def fe (ss:List eP)(ds:List L3)(v:Vw):List eP :=
 if s8 (T8 ss ds v) 0 then (if s8 v.kind 2 then ss++[(v.name,(S5 ss v.left).2.1,(S5 ss v.left).2.2)] else ss++[(v.name,(Z3 v).map yP.name,W9 v ((S5 ss v.left).2.2++(rY ss v).2.2))]) else ss
set_option maxHeartbeats 32000000 in
def ap9 (c:y5)(ds:List L3)(ss:List eP)(i:Nat)(hi:i<c.views.length)(h0:(nth c.views i).on.length<=1000)(h1:(nth c.views i).wh.length<=1000)(h2:(nth c.views i).items.length<=1000)(h3:(nth c.views i).D4.length<=1000)(h4:∀ j,j<(nth c.views i).items.length->(nth (nth c.views i).items j).expr.length<=1000)(h5:∀ j,j<(nth c.views i).D4.length->(nth (nth c.views i).D4 j).expr.length<=1000)
  (hss:ss.length<=1000) (ht:∀ k,k<ss.length->0<(nth ss k).2.1.length/\(nth ss k).2.1.length<=5000/\0<(nth ss k).2.2.length/\(nth ss k).2.2.length<=5000) (hsub:∀ s,(ds.any fun y=>M0 y s)=false->((ss.map (·.1)).any fun y=>M0 y s)=false) :
  Pm A 150 [.ptr 4 0,.d (num i)] (HH c ds ss) lW (.d (num (T8 ss ds (nth c.views i)))) (HH c (M1 ds (nth c.views i).name) (fe ss ds (nth c.views i))):=by
 generalize hx:nth c.views i=v at *
 have Ms:=IY c ds ss v.name;have pL:=Jb c (M1 ds v.name) ss v.left;have pR:=Jb c (M1 ds v.name) ss v.right;have bL:=uV ss v.left;have bR:=uV ss v.right;have UC:=ad2 v h2 h3;have hno:P3 ds v.name=0->((ss.map (·.1)).any fun y=>M0 y v.name)=false:=fun h=>by
  refine hsub _ ?_;unfold P3 at h;cases c1:(!H6 v.name) with
  |true=>rw [c1] at h;simp at h
  |false =>
   rw [c1] at h;cases c2:ds.any fun y=>M0 y v.name with
   |false=>rfl
   |true=>rw [c2] at h;simp at h
 suffices h:Pq A 150 [.ptr 4 0,.d (num i)] (HH c ds ss) lW fun w H1=>w= .d (num (T8 ss ds v))/\H1=HH c (M1 ds v.name) (fe ss ds v) by
  obtain ⟨w,H1,⟨rfl,rfl⟩,h⟩:=h;exact h
 have same:∀ e,T8 ss ds v=e->s8 e 0=false->fe ss ds v=ss:=fun e g1 g2=>by unfold fe;rw [g1,g2];rfl
 have ao3:∀ L R:List Int,L.length<=5000->R.length<=5000->P3 ds v.name=0->Pm A 221 [.ptr 4 0,vw v,.d (ints L),.d (ints R)] (HH c (M1 ds v.name) ss) lW (.d (num (Z0 v L R))) (HH c (M1 ds v.name) (mZ ss v L R)):=fun L R hL hR hd=>UP c (M1 ds v.name) ss v L R hL hR h0 h1 h2 h3 h4 h5 (hno hd) hss
 have AF:∀ nm ty,P3 ds v.name=0->Pm A 212 [.ptr 4 0,.d (.str v.name),qu nm ty] (HH c (M1 ds v.name) ss) lW (.tuple []) (HH c (M1 ds v.name) (ss++[(v.name,nm,ty)])):=fun nm ty hd=>AH c (M1 ds v.name) ss v.name nm ty (hno hd) hss
 unfold HH at *
 refine Pq.run (b:=5) [.ptr 4 0,.d (num i),.any,.any,.any,.any,.any] rfl rfl rfl rfl rfl ?_;refine gr ?_;rw [hx]
 repeat' (first|refine c0 Ms rfl (h2:= ?_)|refine gx ?_|fail)
 refine tb (!s8 (P3 ds v.name) 0) (fun g1=> ?_) (fun g1=> ?_)
 .have e1:T8 ss ds v=P3 ds v.name:=by unfold T8;rw [g1];rfl
  refine gr ?_;exact ⟨_,_,rfl,by rw [e1];rfl,by rw [same _ e1 (by simpa using g1)];rfl⟩
 have hd0:P3 ds v.name=0:=aQ (by simpa using g1);refine gr ?_;refine tb (!s8 v.kind 0&& !s8 v.kind 1&& !s8 v.kind 2) (fun g2=> ?_) (fun g2=> ?_)
 .have e1:T8 ss ds v=1:=by unfold T8;rw [g1,g2];rfl
  refine gr ?_;exact ⟨_,_,rfl,by rw [e1];rfl,by rw [same 1 e1 (by simp [o6])];rfl⟩
 refine gr ?_;refine tB (F0 (J6 v.left (ss.map (·.1)) 0) 0||(!M0 v.right []&&F0 (J6 v.right (ss.map (·.1)) 0) 0)) ?_ (fun g3=> ?_) (fun g3=> ?_)
 .repeat' (first|refine c1 pL rfl ?_|refine c1 pR rfl ?_|refine gx ?_|refine fk (h1:=fun hw=> ?_) (h2:=fun hw=> ?_)|refine R8 (h1:=fun hw=> ?_) (h2:=fun hw=> ?_)|refine ⟨rfl,rfl,_,rfl,?_⟩|refine ⟨rfl,rfl⟩|fail)
  all_goals exact cc
 .have e1:T8 ss ds v=7:=by unfold T8;rw [g1,g2,g3];rfl
  refine gr ?_;exact ⟨_,_,rfl,by rw [e1];rfl,by rw [same 7 e1 (by simp [o6])];rfl⟩
 have g3' :=g3;simp only [F3] at g3';have f1:=B8 g3'.1;have f2:M0 v.right []=false->0<=J6 v.right (ss.map (·.1)) 0:=fun h=>by
  have:=g3'.2;simp only [h,Bool.not_false,Bool.true_and] at this;exact B8 this
 have htL:=ht (J6 v.left (ss.map (·.1)) 0).toNat (by omega);have hsL:nth ss (J6 v.left (ss.map (·.1)) 0).toNat=S5 ss v.left:=rfl;rw [hsL] at htL;refine gr ?_;refine tB (!iW v) ?_ (fun g4=> ?_) (fun g4=> ?_)
 .repeat' (first|refine cl (UC) ?_|refine gx ?_|refine fk (h1:=fun hw=> ?_) (h2:=fun hw=> ?_)|refine R8 (h1:=fun hw=> ?_) (h2:=fun hw=> ?_)|refine ⟨rfl,rfl,_,rfl,?_⟩|refine ⟨rfl,rfl⟩|fail)
  all_goals exact cc
 .have e1:T8 ss ds v=1:=by unfold T8;rw [g1,g2,g3,g4];rfl
  refine gr ?_;exact ⟨_,_,rfl,by rw [e1];rfl,by rw [same 1 e1 (by simp [o6])];rfl⟩
 refine gr ?_;refine Ex.nH [.cells (c.enc.map .d),.cells (c.enc.map .d),.map (dmap (M1 ds v.name)),.map (X3 (ss.map (·.1)) 0),.cells (c.enc.map .d++[.map 2,.map 3,C4 2 L6 ss]),.cells (v.enc.map .d)] rfl ?_;refine Ex.region (Rn.z 5 6 [.cells (c.enc.map .d),.cells (c.enc.map .d),.map (dmap (M1 ds v.name)),.map (X3 (ss.map (·.1)) 0),.cells (c.enc.map .d++[.map 2,.map 3,C4 2 L6 ss]),.cells (v.enc.map .d),.dead] rfl rfl (by decide) rfl rfl ?_);refine zm ?_;refine zp (rs:=[]) (.ptr 4 0) rfl ?_;refine zp (rs:=[]) (.ptr 4 10) rfl ?_;refine zp (rs:=[4]) (.d (z8 L6 ss)) rfl ?_;refine zm ?_;refine zp (rs:=[]) (.ptr 5 2) rfl ?_;refine zp (rs:=[5]) (.d (.str v.left)) rfl ?_;refine zc pL rfl ?_ (hmn:=j5 rfl);refine zix (xs:=ss) (enc:=L6) (e:=J6 v.left (ss.map (·.1)) 0) (by omega) ?_;refine zle ?_;rw [hsL];refine za (h2:= ?_);refine zs (h2:= ?_);refine zn ?_;refine gr ?_;refine Ex.OD (fun s=>∃ (w0 w1 w2 w4 wa wb:c8),s=⟨[.ptr 4 0,w1,w2,.ptr 5 0,w4,.ptr 6 0,.ptr 7 0],[.cells (c.enc.map .d),.cells (c.enc.map .d),.map (dmap (M1 ds v.name)),.map (X3 (ss.map (·.1)) 0),.cells (c.enc.map .d++[.map 2,.map 3,C4 2 L6 ss]),.cells (v.enc.map .d),.cells ((L6 (S5 ss v.left)).map .d),.cells [wa,wb]]⟩/\wa.J2= .d (z8 encS (rY ss v).2.1)/\wb.J2= .d (ints (rY ss v).2.2)/\(rY ss v).2.2.length<=5000) ?_ ?_
 .skip
  refine tb (!M0 v.right []) (fun g6=> ?_) (fun g6=> ?_)
  .simp only [n5] at g6
   have f3:=f2 g6;have htR:=ht (J6 v.right (ss.map (·.1)) 0).toNat (by omega);have QT:nth ss (J6 v.right (ss.map (·.1)) 0).toNat=rY ss v:=by unfold rY;rw [g6];rfl
   rw [QT] at htR
   repeat' (first|refine c1 pR rfl ?_|refine soD (h2:= ?_)|refine gx ?_|fail)
   rw [QT];exact ⟨.any,_,_,_,_,_,rfl,rfl,rfl,by omega⟩
  .simp only [C7] at g6
   have QT:rY ss v=([],[],[]):=by unfold rY;rw [g6];rfl
   refine gr ?_;exact ⟨.any,_,_,_,_,_,rfl,by rw [QT];rfl,by rw [QT];rfl,by rw [QT];simp⟩
 rintro _ ⟨w0,w1,w2,w4,wa,wb,rfl,ha,hb,hrl⟩;have aq9:=ad3 (S5 ss v.left).2.2 (rY ss v).2.2 (by omega);have MC:=ad4 (S5 ss v.left).2.1 (by omega) (by omega);have ar0:=ad5 (S5 ss v.left).2.2 (by omega) (by omega);have MB:=AF (S5 ss v.left).2.1 (S5 ss v.left).2.2 hd0;have ar1:=ao3 (S5 ss v.left).2.2 (rY ss v).2.2 (by omega) hrl hd0;refine gr ?_;refine tb (s8 v.kind 2) (fun g7=> ?_) (fun g7=> ?_)
 .refine gr ?_
  refine tB (!dH s8 (S5 ss v.left).2.2 (rY ss v).2.2) ?_ (fun g8=> ?_) (fun g8=> ?_)
  .repeat' (first|refine lpA hb ?_|refine cl (aq9) ?_|refine gx ?_|refine fk (h1:=fun hw=> ?_) (h2:=fun hw=> ?_)|refine R8 (h1:=fun hw=> ?_) (h2:=fun hw=> ?_)|refine ⟨rfl,rfl,_,rfl,?_⟩|refine ⟨rfl,rfl⟩|fail)
   all_goals exact cc
  .have e1:T8 ss ds v=5:=by unfold T8;rw [g1,g2,g3,g4,g7,g8];rfl
   refine gr ?_;exact ⟨_,_,rfl,by rw [e1];rfl,by rw [same 5 e1 (by simp [o6])];rfl⟩
  have e1:T8 ss ds v=0:=by unfold T8;rw [g1,g2,g3,g4,g7,g8];rfl
  have e2:fe ss ds v=ss++[(v.name,(S5 ss v.left).2.1,(S5 ss v.left).2.2)]:=by unfold fe;rw [e1,g7];simp [o6]
  rw [e2]
  repeat' (first|refine cl (MC) ?_|refine cl (ar0) ?_|refine c0 MB rfl (h2:= ?_)|refine gx ?_|fail)
  exact ⟨_,_,rfl,by rw [e1];rfl,rfl⟩
 .have e1:T8 ss ds v=Z0 v (S5 ss v.left).2.2 (rY ss v).2.2:=by unfold T8;rw [g1,g2,g3,g4,g7];rfl
  have e2:fe ss ds v=mZ ss v (S5 ss v.left).2.2 (rY ss v).2.2:=by unfold fe mZ;rw [e1,g7];rfl
  rw [e2]
  repeat' (first|refine lpA hb ?_|refine c0 ar1 rfl (h2:= ?_)|refine gx ?_|fail)
  exact ⟨_,_,rfl,by rw [e1];rfl,rfl⟩
def cnt (c:y5):Nat->Nat
 |0=>c.k9.length
 |1=>c.views.length
 |2=>c.idxs.length
 |3=>c.qn.length
 |4=>c.qh.length
 |5=>c.qm.length
 |6=>c.qo.length
 |_=>c.qg.length
def Cr:Nat->Nat
 |0=>8
 |1=>12
 |_=>16
def fid (q:Nat):FuncId:=149+q
def S9 (c:y5):Nat->Nat
 |0=>0
 |q+1=>S9 c q+cnt c q
def P9 (c:y5)(q:Nat):List c8:=[.d (num (cnt c q)),.d (num (Cr q)),.func (fid q) [.ptr 4 0] []]
def U8 (c:y5):List c8:=P9 c 0++P9 c 1++P9 c 2++P9 c 3++P9 c 4++P9 c 5++P9 c 6++P9 c 7
def oc (c:y5)(q:Nat)(h:q<8)(H:o9)(hH:H[5]? =some (.cells (U8 c))):rd H 5 (0+q * 3) 3=some (P9 c q):=by
 simp only [rd,hH]
 match q,h with
 |0,_=>rfl
 |1,_=>rfl
 |2,_=>rfl
 |3,_=>rfl
 |4,_=>rfl
 |5,_=>rfl
 |6,_=>rfl
 |7,_=>rfl
def yR (c:y5)(ds:List L3)(ss:List eP):L8 (HH c ds ss)<=5:=by
 have h1:=iH ds;have h2:=iQ (ss.map (·.1)) 0;have e1:A4 (c.enc.map c8.d)=0:=rfl;have e2:A4 (c.enc.map c8.d++[.map 2,.map 3,C4 2 L6 ss])=4:=rfl;simp only [HH,L8,u0.K5,h1,h2,e1,e2]
 decide
def sg (c:y5)(ds:List L3)(ss:List eP):T6 (HH c ds ss) 0=true:=by
 have h1:=iH ds;have h2:=iQ (ss.map (·.1)) 0;have e1:A4 (c.enc.map c8.d)=0:=rfl;have e2:A4 (c.enc.map c8.d++[.map 2,.map 3,C4 2 L6 ss])=4:=rfl;simp only [HH,T6,u0.K5,h1,h2,e1,e2]
 decide
def tP {H:o9}(h:T6 ((H.take 5).drop 0) 0=true):C9 H 0 5=5:=by
 unfold C9;rw [if_neg (by decide),if_pos h]
def Hy {q:Nat}(h:q<8):A.prom (fid q)=false/\A.mode (fid q)=0:=by
 match q,h with
 |0,_=>exact ⟨rfl,rfl⟩
 |1,_=>exact ⟨rfl,rfl⟩
 |2,_=>exact ⟨rfl,rfl⟩
 |3,_=>exact ⟨rfl,rfl⟩
 |4,_=>exact ⟨rfl,rfl⟩
 |5,_=>exact ⟨rfl,rfl⟩
 |6,_=>exact ⟨rfl,rfl⟩
 |7,_=>exact ⟨rfl,rfl⟩
def AB (c:y5):S9 c 8=c.names.length:=by simp [S9,cnt,y5.names];omega
def NZ (c:y5){q:Nat}(h:q<8):S9 c q+cnt c q<=c.names.length:=by
 rw [<- AB]
 match q,h with
 |0,_=>simp only [S9];omega
 |1,_=>simp only [S9];omega
 |2,_=>simp only [S9];omega
 |3,_=>simp only [S9];omega
 |4,_=>simp only [S9];omega
 |5,_=>simp only [S9];omega
 |6,_=>simp only [S9];omega
 |7,_=>simp only [S9];omega
def NT {c:y5}{q:Nat}(h:q<8)(h2:F0 (Cr q) (cnt c q)=true):tooMany c=true:=by
 unfold tooMany Dn
 match q,h with
 |0,_=>simp only [Cr,cnt] at h2;simp [show F0 8 c.k9.length=true from h2]
 |1,_=>simp only [Cr,cnt] at h2;simp [show F0 12 c.views.length=true from h2]
 |2,_=>simp only [Cr,cnt] at h2;simp [show F0 16 c.idxs.length=true from h2]
 |3,_=>simp only [Cr,cnt] at h2;simp [show F0 16 c.qn.length=true from h2]
 |4,_=>simp only [Cr,cnt] at h2;simp [show F0 16 c.qh.length=true from h2]
 |5,_=>simp only [Cr,cnt] at h2;simp [show F0 16 c.qm.length=true from h2]
 |6,_=>simp only [Cr,cnt] at h2;simp [show F0 16 c.qo.length=true from h2]
 |7,_=>simp only [Cr,cnt] at h2;simp [show F0 16 c.qg.length=true from h2]
def Tg {c:y5}(h:∀ p,p<8->cnt c p<=Cr p):tooMany c=false:=by
 have h0:=h 0 (by omega);have h1:=h 1 (by omega);have h2:=h 2 (by omega);have h3:=h 3 (by omega);have h4:=h 4 (by omega);have h5:=h 5 (by omega);have h6:=h 6 (by omega);have h7:=h 7 (by omega);simp only [cnt,Cr] at h0 h1 h2 h3 h4 h5 h6 h7;simp only [tooMany,Dn,y3,F3,decide_eq_false_iff_not];omega
def EF (c:y5)(ds:List L3)(ss:List eP):L8 (HH c ds ss++[.cells (U8 c)])<=6:=by
 have h1:=iH ds;have h2:=iQ (ss.map (·.1)) 0;have e1:A4 (c.enc.map c8.d)=0:=rfl;have e2:A4 (c.enc.map c8.d++[.map 2,.map 3,C4 2 L6 ss])=4:=rfl;have e3:A4 (U8 c)=5:=rfl;simp only [HH,A5,D8,L8,u0.K5,h1,h2,e1,e2,e3]
 decide
def oa (c:y5)(q:Nat):A4 (P9 c q)<=6+1:=j5 rfl
def jt (c:y5)(fds:List L3)(LU:List eP)(v:c8)(H1:o9):Prop :=
 (∃ R,H1= .cells (c.enc.map .d)::R)/\(s8 (O5 c).2 0=false->v= .tuple [.d .br,.d (num (O5 c).1),.d (num (O5 c).2)]) /\
  (s8 (O5 c).2 0=true->v= .tuple [.ptr 4 0,.d (num 0),.d (num 0)]/\H1=HH c fds LU++[.cells (U8 c)])
def EV {c:y5}{fds:List L3}{LU:List eP}{v:c8}{H1:o9}(h:jt c fds LU v H1):1<=H1.length:=by
 obtain ⟨⟨R,rfl⟩,_⟩:=h;simp
set_option maxHeartbeats 32000000 in
def aq0 (c:y5)(hf:c.qy)(ST:Nat->List L3->List eP->Prop)(aj6:ST 0 [] [])(hST:∀ g ds ss ds' ss',ST g ds ss->ST g ds' ss' ->ds=ds' /\ss=ss')(fds:List L3)(LU:List eP)(aj7:∀ ds ss,ST c.names.length ds ss->ds=fds/\ss=LU)
  (hstep:∀ q i ds ss,q<8->i<cnt c q->tooMany c=false->kO c (S9 c q+i)->ST (S9 c q+i) ds ss->∃ dz sz,(Q2 c (S9 c q+i)=0->ST (S9 c q+i+1) dz sz)/\Pm A (fid q) [.ptr 4 0,.d (num i)] (HH c ds ss) lW (.d (num (Q2 c (S9 c q+i)))) (HH c dz sz)) :
  Pq A 101 [cat c] [.cells (c.enc.map .d)] S8 (jt c fds LU):=by
 obtain ⟨f0,f1,f2,f3,f4,f5,f6,f7⟩:=id hf;have Xn:∀ q,cnt c q<=1000:=fun q=>by unfold cnt;split<;>omega
 have hlm:∀ q,Cr q<=16:=fun q=>by unfold Cr;split<;>omega
 refine Pq.run (b:=1) [cat c,.any,.any,.any,.any,.any,.any,.any,.any,.any,.any,.any,.any,.any,.any,.any,.any,.any,.any,.any] rfl rfl rfl rfl rfl ?_
 repeat' (first|refine mk (h2:= ?_)|refine rV (cs:=c.enc.map .d++[.map 2,.map 3,C4 2 L6 []]) ?_|refine rV (cs:=P9 c 0) ?_|refine rV (cs:=P9 c 1) ?_|refine rV (cs:=P9 c 2) ?_|refine rV (cs:=P9 c 3) ?_|refine rV (cs:=P9 c 4) ?_|refine rV (cs:=P9 c 5) ?_|refine rV (cs:=P9 c 6) ?_|refine rV (cs:=P9 c 7) ?_|refine gx ?_|fail)
 refine bso (U8 c) rfl ⟨by decide,rfl⟩ (h2:= ?_)
 repeat' (first|refine lrT (h2:= ?_)|refine gx ?_|fail)
 refine Ex.T7 (fun k T H=>∃ (q:Nat),T=[.any,.any,.any,.any,.any,.ptr 4 0,.A8 5 3 0 8,.any,.any,.any,.any,.any,.A8 5 3 0 8,.d (num (8:Nat)),.d (num q),.any,.any,.any,.any,.any]/\H=[.cells (c.enc.map .d),.cells (c.enc.map .d),.map [],.map [],.cells (c.enc.map .d++[.map 2,.map 3,C4 2 L6 []]),.cells (U8 c)]/\q+k=8/\∀ p,p<q->cnt c p<=Cr p) ?_ (k:=8) ⟨0,rfl,rfl,by simp,fun p h=>absurd h (by omega)⟩;rintro k _ _ ⟨q,rfl,rfl,hk,hq⟩;have b1:=Xn q;have b2:=hlm q;have hbk:=oa c q;refine Ex.seq ?_;refine tb (F0 q (8:Nat)) (fun g1=> ?_) (fun g1=> ?_)
 .have g2:=A9 g1
  have Fu:q<8:=by omega
  have hka:=oc c q Fu ([.cells (c.enc.map .d),.cells (c.enc.map .d),.map [],.map [],.cells (c.enc.map .d++[.map 2,.map 3,C4 2 L6 []]),.cells (U8 c)]) rfl
  repeat' (first|refine ixs (i:=q) (len:=8) Fu ?_|refine Sc hka rfl ?_|refine soB (cs:=P9 c q) (id:=6) hbk (h2:= ?_)|refine gx ?_|fail)
  refine tb (F0 (Cr q) (cnt c q)) (fun g3=> ?_) (fun g3=> ?_)
  .have ht:=NT Fu g3
   have e1:O5 c=(0,8):=by unfold O5;rw [ht];rfl
   refine gr ?_;exact ⟨_,_,rfl,⟨_,rfl⟩,fun _=>by rw [e1];rfl,fun h=>by rw [e1] at h;simp [o6] at h⟩
  .have g4:=B8 g3
   refine gr ?_;exact ⟨k - 1,by omega,_,_,rfl,q+1,rfl,rfl,by omega,fun p hp=>by
    rcases y4 p q with h|h
    .exact hq p h
    .obtain rfl:p=q:=by omega
     omega⟩
 have g2:=B8 g1;have sV:=Tg (c:=c) (fun p hp=>hq p (by omega));clear g1 g2 hk hq b1 b2 hbk
 repeat' (first|refine lrT (h2:= ?_)|refine gx ?_|fail)
 refine Ex.T7 (fun k T H=>∃ (q g:Nat) (ds:List L3) (ss:List eP),T=[.any,.any,.any,.any,.any,.ptr 4 0,.any,.any,.d (num g),.any,.any,.any,.any,.any,.any,.A8 5 3 0 8,.d (num (8:Nat)),.d (num q),.any,.any]/\H=[.cells (c.enc.map .d),.cells (c.enc.map .d),.map (dmap ds),.map (X3 (ss.map (·.1)) 0),.cells (c.enc.map .d++[.map 2,.map 3,C4 2 L6 ss]),.cells (U8 c)]/\q+k=8/\g=S9 c q/\ST g ds ss/\kO c g/\O5 c=bQ c (c.names.length - g) g) ?_ (k:=8) ⟨0,0,[],[],rfl,rfl,by simp,rfl,aj6,fun m h=>absurd h (by omega),by unfold O5;rw [sV];rfl⟩;rintro k _ _ ⟨q,g,ds,ss,rfl,rfl,hk,hg,hst,hok,hch⟩;have b1:=Xn q;have hbk:=oa c q;refine Ex.seq ?_;refine tb (F0 q (8:Nat)) (fun g1=> ?_) (fun g1=> ?_)
 .have g2:=A9 g1
  have Fu:q<8:=by omega
  have hka:=oc c q Fu ([.cells (c.enc.map .d),.cells (c.enc.map .d),.map (dmap ds),.map (X3 (ss.map (·.1)) 0),.cells (c.enc.map .d++[.map 2,.map 3,C4 2 L6 ss]),.cells (U8 c)]) rfl
  repeat' (first|refine ixs (i:=q) (len:=8) Fu ?_|refine Sc hka rfl ?_|refine soB (cs:=P9 c q) (id:=6) hbk (h2:= ?_)|refine gx ?_|fail)
  refine Ex.M5 (fun k T H=>∃ (i g:Nat) (ds:List L3) (ss:List eP) (w0 w1 w2 w3 w4 w6 w7 mR kW OG Wc Wd:c8),T=[w0,w1,w2,w3,w4,.ptr 4 0,w6,w7,.d (num g),.ptr 6 0,mR,kW,OG,Wc,Wd,.A8 5 3 0 8,.d (num (8:Nat)),.d (num q),.d (num (cnt c q)),.d (num i)]/\H=[.cells (c.enc.map .d),.cells (c.enc.map .d),.map (dmap ds),.map (X3 (ss.map (·.1)) 0),.cells (c.enc.map .d++[.map 2,.map 3,C4 2 L6 ss]),.cells (U8 c),.cells (P9 c q)]/\i+k=cnt c q/\g=S9 c q+i/\ST g ds ss/\kO c g/\O5 c=bQ c (c.names.length - g) g) (by rintro _ _ _ ⟨_,_,_,_,_,_,_,_,_,_,_,_,_,_,_,_,_,rfl,_⟩;rfl) ?_ (k:=cnt c q) ⟨0,g,ds,ss,_,_,_,_,_,_,_,_,_,_,_,_,rfl,rfl,by simp,by omega,hst,hok,hch⟩;clear hst hok hch hka;rintro k2 _ _ ⟨i,g,ds,ss,w0,w1,w2,w3,w4,w6,w7,mR,kW,OG,Wc,Wd,rfl,rfl,hk2,hg2,hst,hok,hch⟩;have hol:=NZ c Fu;have hnl:c.names.length<=8000:=by simp [y5.names];omega
  refine Ex.nT ?_;refine Ex.seq ?_;refine tb (F0 i (cnt c q)) (fun g3=> ?_) (fun g3=> ?_)
  .have g4:=A9 g3
   have Fq:=yR c ds ss;have Yk:=sg c ds ss;subst hg2;obtain ⟨dz,sz,hz,QS⟩:=hstep q i ds ss Fu (by omega) sV hok hst;unfold HH at QS Fq Yk;obtain ⟨N,hN⟩:∃ N,c.names.length - (S9 c q+i)=N+1:=⟨c.names.length - (S9 c q+i) - 1,by omega⟩;rw [hN,bQ] at hch;have hfp:=Hy Fu;refine gr ?_;have hs5:C9 ([.cells (c.enc.map .d),.cells (c.enc.map .d),.map (dmap ds),.map (X3 (ss.map (·.1)) 0),.cells (c.enc.map c8.d++[.map 2,.map 3,C4 2 L6 ss]),.cells (U8 c),.cells (P9 c q)]) 0 5=5:=tP (H:=[.cells (c.enc.map .d),.cells (c.enc.map .d),.map (dmap ds),.map (X3 (ss.map (·.1)) 0),.cells (c.enc.map c8.d++[.map 2,.map 3,C4 2 L6 ss]),.cells (U8 c),.cells (P9 c q)]) Yk;refine cv0 (gj:=hfp.1) (hm:=hfp.2) QS rfl Fq (bS Fq) rfl (mY:=by show F2.mk 0 0 5 (C9 _ 0 5)=lW;rw [hs5];rfl) (h2:= ?_);refine gr ?_;refine tb (!s8 (Q2 c (S9 c q+i)) 0) (fun g5=> ?_) (fun g5=> ?_)
   .have e1:O5 c=(((S9 c q+i:Nat):Int),Q2 c (S9 c q+i)):=by rw [hch,g5];rfl
    have e2:s8 (Q2 c (S9 c q+i)) 0=false:=by simpa using g5
    refine gr ?_;exact ⟨_,_,rfl,⟨_,rfl⟩,fun _=>by rw [e1];rfl,fun h=>by rw [e1] at h;simp only [e2] at h;cases h⟩
   .have e2:Q2 c (S9 c q+i)=0:=aQ (by simpa using g5)
    rw [g5,if_neg (by simp)] at hch;have am0 :=hz e2;refine gr ?_;refine ⟨k2 - 1,by omega,i+1,S9 c q+i+1,dz,sz,_,_,_,_,_,_,_,_,_,_,_,_,rfl,rfl,by omega,by omega,am0,fun m hm=> ?_,?_⟩
    .rcases y4 m (S9 c q+i) with h|h
     .exact hok m h
     .obtain rfl:m=S9 c q+i:=by omega
      exact e2
    .have:c.names.length - (S9 c q+i+1)=N:=by omega
     rw [this];exact hch
  .have g4:=B8 g3
   refine gr ?_;refine ⟨k - 1,by omega,_,_,L5 ?_ ?_,q+1,g,ds,ss,rfl,rfl,by omega,?_,hst,hok,hch⟩
   .exact j5 rfl
   .exact EF c ds ss
   .simp only [S9];omega
 have g2:=B8 g1;obtain rfl:q=8:=by omega
 rw [AB] at hg;subst hg;rw [Nat.sub_self] at hch;obtain ⟨rfl,rfl⟩:=aj7 ds ss hst;refine gr ?_;have e1:O5 c=(0,0):=hch;exact ⟨_,_,rfl,⟨_,rfl⟩,fun h=>by rw [e1] at h;simp [o6] at h,fun _=>⟨rfl,rfl⟩⟩
end Go.Proofs.YtibjocmpkoepoaaGreat


import Derived.Test.YtibjocmpkoepoaaGreatD7
import Derived.Test.YtibjocmpkoepoaaGreatD5
set_option linter.all false
open Bool renaming and_eq_true → c9, eq_false_or_eq_true → A7, false_eq_true → j5, not_eq_false' → O1, not_eq_true' → o8, not_false → M0, or_eq_false_iff → E6
open List renaming cons_append → B7, drop_of_length_le → n5, length_append → n9, nil_append → B9, take_of_length_le → A8
open Nat renaming le_of_ble_eq_true → k9, lt_or_ge → s5
namespace Go.Proofs.YtibjocmpkoepoaaGreat
open Go.Abs Go.Abs.S
attribute [local irreducible] Rx Ry Rn Ex Pf
def vw' (v:Vw):j3:= .agg (v.enc.map .d)
def iZ (v:Vw):Bool :=
 if u0 v.kind 2 then !L4 v.right []&&u0 v.on.length 0&&u0 v.wh.length 0&&u0 v.items.length 0&&u0 v.D2.length 0&& !v.distinct
 else if (F3 0 v.on.length&&L4 v.right [])||F3 8 v.on.length then false
 else if u0 v.kind 0&&(u0 v.items.length 0||F3 0 v.D2.length) then false
 else if u0 v.kind 1&&(u0 v.D2.length 0||v.distinct) then false
 else aF (v.items.length+v.D2.length) 8
set_option maxHeartbeats 8000000 in
def ZR (v:Vw)(h0:v.items.length<=1000)(h1:v.D2.length<=1000):Pf A 217 [vw' v] (.d (.bool (iZ v))):=by
 refine Pf.run [vw' v,.any,.any] rfl rfl rfl rfl ?_;refine gr ?_;refine tb (u0 v.kind 2) (fun g1=> ?_) (fun g1=> ?_)
 .repeat' (first|refine gx ?_|refine fk (h1:=fun hw=> ?_) (h2:=fun hw=> ?_)|refine U0 (h1:=fun hw=> ?_) (h2:=fun hw=> ?_)|refine Ex.O6 ?_|refine Ex.O8 ?_|refine Ex.cond rfl (fun ht=> ?_) (fun ht=> ?_)|refine Ex.test (Rn.text ?_)|refine Ex.test (Rn.draw ?_)|refine ⟨_,rfl,fun ht=> ?_,fun ht=> ?_⟩|refine ⟨_,rfl,?_⟩|fail)
  all_goals unfold iZ
  all_goals rw [g1]
  all_goals simp [*,j9]
 refine gr ?_;refine tb ((F3 0 v.on.length&&L4 v.right [])||F3 8 v.on.length) (fun g2=> ?_) (fun g2=> ?_)
 .refine gr ?_
  exact ⟨_,rfl,by unfold iZ;rw [g1,g2];rfl⟩
 refine gr ?_;refine tb (u0 v.kind 0&&(u0 v.items.length 0||F3 0 v.D2.length)) (fun g3=> ?_) (fun g3=> ?_)
 .refine gr ?_
  exact ⟨_,rfl,by unfold iZ;rw [g1,g2,g3];rfl⟩
 refine gr ?_;refine tb (u0 v.kind 1&&(u0 v.D2.length 0||v.distinct)) (fun g4=> ?_) (fun g4=> ?_)
 .refine gr ?_
  exact ⟨_,rfl,by unfold iZ;rw [g1,g2,g3,g4];rfl⟩
 refine gr ?_;exact ⟨_,rfl,by unfold iZ;rw [g1,g2,g3,g4];rfl⟩
def nS {A:Go.Abs.Prog}{l:F2}{b:Nat}{dr:Bool}{l6 ops:List p9}{T:List j3}{H:q8}{n:Nat}{rl:List j3}{p6:List Abs.Touch}{Q:List j3->q8->List j3->Prop}{α:Type}{enc:α->List Abs.Data}{xs:List α}{neg:Bool}{x:u9}{u:List Nat}
  (h0:0<xs.length) (h2:Ry A l b dr l6 ops T H (n+1) (.d (.bool neg)::rl) p6 Q) (hx:rq T n rl x= .d (A5 enc xs):=by rfl):Ry A l b dr l6 (⟨.Cf neg x,none,none,u⟩::ops) T H n rl p6 Q :=
 Ry.pure (rs:=[]) rfl (by simp [o6,hx,A5,h0]) h2
def ZT (xs:List L0)(h0:0<xs.length)(h1:xs.length<=100000):Pf A 219 [.d (A5 (fun s=>[.str s]) xs)] (C9 1 (fun s=>[.str s]) xs):=by
 refine Pf.run [.d (A5 (fun s=>[.str s]) xs),.any] rfl rfl rfl rfl ?_;refine gr ?_;refine tB (false) ?_ (fun h2=> ?_) (fun h2=> ?_)
 .repeat' (first|refine nS h0 ?_|refine gx ?_|refine fk (h1:=fun hw=> ?_) (h2:=fun hw=> ?_)|refine U0 (h1:=fun hw=> ?_) (h2:=fun hw=> ?_)|refine ⟨rfl,rfl,_,rfl,?_⟩|refine ⟨rfl,rfl⟩|fail)
  all_goals exact cc
 .cases h2
 refine gr ?_;exact ⟨_,rfl,rfl⟩
def ZU (xs:List Int)(h0:0<xs.length)(h1:xs.length<=100000):Pf A 220 [.d (ints xs)] (C9 1 (fun n=>[num n]) xs):=by
 refine Pf.run [.d (ints xs),.any] rfl rfl rfl rfl ?_;refine gr ?_;refine tB (false) ?_ (fun h2=> ?_) (fun h2=> ?_)
 .repeat' (first|refine nS h0 ?_|refine gx ?_|refine fk (h1:=fun hw=> ?_) (h2:=fun hw=> ?_)|refine U0 (h1:=fun hw=> ?_) (h2:=fun hw=> ?_)|refine ⟨rfl,rfl,_,rfl,?_⟩|refine ⟨rfl,rfl⟩|fail)
  all_goals exact cc
 .cases h2
 refine gr ?_;exact ⟨_,rfl,rfl⟩
def aF1 (n:Nat)(h:n<=1000000)(l:F2):Pm A 279 [.P5,.d (num n)] [] l (.own 1 0 []) []:=by
 refine ⟨1,fun k hk=> ?_⟩;obtain ⟨k,rfl⟩:∃ j,k=j+1:=⟨k - 1,by omega⟩;have h1:A.eF 279=some Df:=rfl;simp only [call,h1,Df,num];rw [if_pos (by omega)]
def GO (l:List Int):List Abs.Data:=[ints l]
set_option maxHeartbeats 4000000 in
def ZZ (xss:List (List Int))(h0:xss.length<=100)(h1:∀ i,i<xss.length->(nth xss i).length<=10000):Pf A 254 [.d (A5 GO xss)] (.d (ints xss.flatten)):=by
 refine Pf.run [.d (A5 GO xss),.any,.any,.any,.any,.any,.any,.any,.any,.any,.any,.any] rfl rfl rfl rfl ?_;refine gr ?_;refine Ex.N5 (fun k T H=>∃ (i m:Nat) (w1 w3 w4 w5 w9 oE mM:j3),T=[.d (A5 GO xss),w1,.d (num m),w3,w4,w5,.d (A5 GO xss),.d (num xss.length),.d (num i),w9,oE,mM]/\H=[]/\i+k=xss.length/\m<=i * 10000) (by rintro _ _ _ ⟨_,_,_,_,_,_,_,_,_,_,rfl,_⟩;rfl) ?_ (k:=xss.length) ⟨0,0,_,_,_,_,_,_,_,rfl,rfl,by simp,by simp⟩;rintro k _ _ ⟨i,m,w1,w3,w4,w5,w9,oE,mM,rfl,rfl,hk,hm⟩;refine Ex.nT ?_;refine Ex.seq ?_;refine tb (F3 i xss.length) (fun h2=> ?_) (fun h2=> ?_)
 .have h3:=C6 h2
  have h4:=h1 i (by omega);have h5:m<=1000000:=by omega
  refine gr ?_;refine tb (false) (fun h6=> ?_) (fun h6=> ?_)
  .cases h6
  refine gr ?_;exact ⟨k - 1,by omega,i+1,m+(nth xss i).length,_,_,_,_,_,_,_,rfl,rfl,by omega,by omega⟩
 have h3:=C5 h2;have h5:m<=1000000:=by omega
 have p1:=aF1 m h5;clear h2 hm
 repeat' (first|refine c1 (p1 _) rfl ?_|refine gx ?_|fail)
 refine Ex.N5 (fun k T H=>∃ (i:Nat) (acc:List Int) (w0 w1 w2 w3 w5 w6 w7 w8:j3),T=[w0,w1,w2,w3,C9 1 (fun n=>[num n]) acc,w5,w6,w7,w8,.d (A5 GO xss),.d (num xss.length),.d (num i)]/\H=[]/\i+k=xss.length/\acc.length<=i * 10000/\xss.flatten=acc++(xss.drop i).flatten) (by rintro _ _ _ ⟨_,_,_,_,_,_,_,_,_,_,_,rfl,_⟩;rfl) ?_ (k:=xss.length) ⟨0,[],_,_,_,_,_,_,_,_,rfl,rfl,by simp,by simp,by simp⟩;rintro k _ _ ⟨i,acc,w0,w1,w2,w3,w5,w6,w7,w8,rfl,rfl,hk,hl,hacc⟩;refine Ex.nT ?_;refine Ex.seq ?_;refine tb (F3 i xss.length) (fun h2=> ?_) (fun h2=> ?_)
 .have h6:=C6 h2
  have h7:=h1 i (by omega);rw [D4 (by omega)] at hacc;have h8:acc.length<=1000000:=by omega
  refine gr ?_;exact ⟨k - 1,by omega,i+1,acc++nth xss i,_,_,_,_,_,_,_,_,rfl,rfl,by omega,by simp;omega,by rw [hacc];simp⟩
 .have h6:=C5 h2
  rw [n5 (by omega)] at hacc;refine gr ?_;exact ⟨_,rfl,by rw [hacc];simp [j9,ints,A5]⟩
def agr (a:BM):j3:= .agg (a.enc.map .d)
def cC (ty:List Int)(a:BM):Int×Int :=
 if u0 a.func 0 then (if F3 0 a.expr.length then (0,1) else (1,0))
 else if u0 a.func 1||u0 a.func 2||u0 a.func 3||u0 a.func 4 then (if !u0 (H7 a.expr ty).2 0 then (0,(H7 a.expr ty).2) else if u0 a.func 1&& !u0 (H7 a.expr ty).1 1 then (0,5) else ((H7 a.expr ty).1,0))
 else (0,1)
set_option maxHeartbeats 8000000 in
def aa0 (ty:List Int)(a:BM)(h0:a.expr.length<=1000)(h1:ty.length<=100000):Pf A 259 [agr a,.d (ints ty)] (pair (cC ty a)):=by
 have p1:=Ik a.expr ty h0 h1;unfold pair at p1;refine Pf.run [agr a,.d (ints ty),.any,.any,.any,.any,.any,.any,.any] rfl rfl rfl rfl ?_
 repeat' (first|refine cl (p1) ?_|refine gx ?_|refine fk (h1:=fun hw=> ?_) (h2:=fun hw=> ?_)|refine U0 (h1:=fun hw=> ?_) (h2:=fun hw=> ?_)|refine Ex.O6 ?_|refine Ex.O8 ?_|refine Ex.cond rfl (fun ht=> ?_) (fun ht=> ?_)|refine Ex.test (Rn.text ?_)|refine Ex.test (Rn.draw ?_)|refine ⟨_,rfl,fun ht=> ?_,fun ht=> ?_⟩|refine ⟨_,rfl,?_⟩|fail)
 all_goals unfold cC pair
 all_goals first|(simp [*,j9,j3.I7,num];done)|(simp_all [j9,j3.I7,num];done)
def l9:F2:=⟨0,0,9,9⟩
def TS:F2:=⟨0,9,9,9⟩
def kN (nm:List L0)(ty:List Int):List j3:=[C9 1 encS nm,C9 1 (fun n=>[num n]) ty]
def UA (a0 a1 a2 a3 a4 a5 a7:x9)(ty:List Int)(x:Gp)(h0:x.expr.length<=1000)(h1:ty.length<=100000) :
  Pm A 257 [.ptr 8 0,.ptr 6 0] [a0,a1,a2,a3,a4,a5,.cells [.d (ints ty)],a7,.cells (x.enc.map .d)] TS (pair (H7 x.expr ty)) [a0,a1,a2,a3,a4,a5,.cells [.d (ints ty)],a7,.cells (x.enc.map .d)]:=by
 have p1:=Ik x.expr ty h0 h1;unfold pair at *
 suffices h:Pq A 257 [.ptr 8 0,.ptr 6 0] [a0,a1,a2,a3,a4,a5,.cells [.d (ints ty)],a7,.cells (x.enc.map .d)] TS fun v H1=>v= .tuple [.d (num (H7 x.expr ty).1),.d (num (H7 x.expr ty).2)]/\H1=[a0,a1,a2,a3,a4,a5,.cells [.d (ints ty)],a7,.cells (x.enc.map .d)] by
  obtain ⟨v,H1,⟨rfl,rfl⟩,h⟩:=h;exact h
 refine Pq.run (b:=9) [.ptr 8 0,.ptr 6 0,.any,.any] rfl rfl rfl rfl rfl ?_
 repeat' (first|refine cl (p1) ?_|refine gx ?_|fail)
 exact ⟨_,_,rfl,rfl,rfl⟩
def UB (a0 a1 a2 a3 a4 a5 a7:x9)(ty:List Int)(x:BM)(h0:x.expr.length<=1000)(h1:ty.length<=100000) :
  Pm A 258 [.ptr 8 0,.ptr 6 0] [a0,a1,a2,a3,a4,a5,.cells [.d (ints ty)],a7,.cells (x.enc.map .d)] TS (pair (cC ty x)) [a0,a1,a2,a3,a4,a5,.cells [.d (ints ty)],a7,.cells (x.enc.map .d)]:=by
 have p1:=aa0 ty x h0 h1;unfold pair at *
 suffices h:Pq A 258 [.ptr 8 0,.ptr 6 0] [a0,a1,a2,a3,a4,a5,.cells [.d (ints ty)],a7,.cells (x.enc.map .d)] TS fun v H1=>v= .tuple [.d (num (cC ty x).1),.d (num (cC ty x).2)]/\H1=[a0,a1,a2,a3,a4,a5,.cells [.d (ints ty)],a7,.cells (x.enc.map .d)] by
  obtain ⟨v,H1,⟨rfl,rfl⟩,h⟩:=h;exact h
 refine Pq.run (b:=9) [.ptr 8 0,.ptr 6 0,.any,.any] rfl rfl rfl rfl rfl ?_
 repeat' (first|refine cl (p1) ?_|refine gx ?_|fail)
 exact ⟨_,_,rfl,rfl,rfl⟩
def aI (nm:List L0)(s:L0)(r:Int×Int):Int:=if !G7 s then 3 else if nm.any fun y=>L4 y s then 4 else if !u0 r.2 0 then r.2 else 0
def kj (nm:List L0)(s:L0)(r:Int×Int):List L0:=if u0 (aI nm s r) 0 then nm++[s] else nm
def kr (nm:List L0)(ty:List Int)(s:L0)(r:Int×Int):List Int:=if u0 (aI nm s r) 0 then ty++[r.1] else ty
set_option maxHeartbeats 8000000 in
def Ip (f:FuncId)(hf1:A.prom f=false)(hf2:A.mode f=1)(a0 a1 a2 a3 a4 a5:x9)(ty:List Int)(nm:List L0)(tys:List Int)(cs:List Abs.Data)(s:L0)(r:Int×Int)(hn:nm.length<=10000)(ht:tys.length<=10000)
  (hc:∀ a7,Pm A f [.ptr 8 0,.ptr 6 0] [a0,a1,a2,a3,a4,a5,.cells [.d (ints ty)],a7,.cells (cs.map .d)] TS (pair r) [a0,a1,a2,a3,a4,a5,.cells [.d (ints ty)],a7,.cells (cs.map .d)]) :
  Pm A 256 [.ptr 7 0,.d (.str s),.func f [] [.ptr 8 0,.ptr 6 0]] [a0,a1,a2,a3,a4,a5,.cells [.d (ints ty)],.cells (kN nm tys),.cells (cs.map .d)] l9 (.d (num (aI nm s r)))
   [a0,a1,a2,a3,a4,a5,.cells [.d (ints ty)],.cells (kN (kj nm s r) (kr nm tys s r)),.cells (cs.map .d)]:=by
 have p1:=hc (.cells (kN nm tys));have p2:=ZV nm s (by omega);unfold pair at p1
 suffices h:Pq A 256 [.ptr 7 0,.d (.str s),.func f [] [.ptr 8 0,.ptr 6 0]] [a0,a1,a2,a3,a4,a5,.cells [.d (ints ty)],.cells (kN nm tys),.cells (cs.map .d)] l9 fun v H1=>v= .d (num (aI nm s r))/\H1=[a0,a1,a2,a3,a4,a5,.cells [.d (ints ty)],.cells (kN (kj nm s r) (kr nm tys s r)),.cells (cs.map .d)] by
  obtain ⟨v,H1,⟨rfl,rfl⟩,h⟩:=h;exact h
 have same:∀ e,aI nm s r=e->u0 e 0=false->kj nm s r=nm/\kr nm tys s r=tys:=fun e h1 h2=>by unfold kj kr;rw [h1,h2];exact ⟨rfl,rfl⟩
 have hr1:roomFor (nm.length+1) 16=true:=by simp only [roomFor,decide_eq_true_eq];omega
 have WS:roomFor (tys.length+1) 8=true:=by simp only [roomFor,decide_eq_true_eq];omega
 refine Pq.run (b:=9) [.ptr 7 0,.d (.str s),.func f [] [.ptr 8 0,.ptr 6 0],.any,.any,.any] rfl rfl rfl rfl rfl ?_;refine gr ?_;refine tB (!G7 s) ?_ (fun h1=> ?_) (fun h1=> ?_)
 .repeat' (first|refine cl (Dj _) ?_|refine gx ?_|refine fk (h1:=fun hw=> ?_) (h2:=fun hw=> ?_)|refine U0 (h1:=fun hw=> ?_) (h2:=fun hw=> ?_)|refine ⟨rfl,rfl,_,rfl,?_⟩|refine ⟨rfl,rfl⟩|fail)
  all_goals exact cc
 .have e1:aI nm s r=3:=by unfold aI;rw [h1];rfl
  have e2:=same 3 e1 (by simp [o9]);refine gr ?_;exact ⟨_,_,rfl,by rw [e1];rfl,by rw [e2.1,e2.2];rfl⟩
 unfold kN;refine gr ?_;refine tB (nm.any fun y=>L4 y s) ?_ (fun h2=> ?_) (fun h2=> ?_)
 .repeat' (first|refine cl (p2) ?_|refine gx ?_|refine fk (h1:=fun hw=> ?_) (h2:=fun hw=> ?_)|refine U0 (h1:=fun hw=> ?_) (h2:=fun hw=> ?_)|refine ⟨rfl,rfl,_,rfl,?_⟩|refine ⟨rfl,rfl⟩|fail)
  all_goals exact cc
 .have e1:aI nm s r=4:=by unfold aI;rw [h1,h2];rfl
  have e2:=same 4 e1 (by simp [o9]);refine gr ?_;exact ⟨_,_,rfl,by rw [e1];rfl,by rw [e2.1,e2.2];rfl⟩
 unfold kN at p1
 repeat' (first|refine cv1 (gI:=hf1) (hm:=hf2) p1 rfl ?_|refine gx ?_|fail)
 refine tb (!u0 r.2 0) (fun h3=> ?_) (fun h3=> ?_)
 .have e1:aI nm s r=r.2:=by unfold aI;rw [h1,h2,h3];rfl
  have e2:=same _ e1 (by simpa using h3);refine gr ?_;exact ⟨_,_,rfl,by rw [e1];rfl,by rw [e2.1,e2.2];rfl⟩
 have e1:aI nm s r=0:=by unfold aI;rw [h1,h2,h3];rfl
 have e2:kj nm s r=nm++[s]:=by unfold kj;rw [e1];simp [o9]
 have e3:kr nm tys s r=tys++[r.1]:=by unfold kr;rw [e1];simp [o9]
 refine gr ?_;refine ac1 (a:=s) (xs:=nm) (enc:=encS) hr1 rfl (h2:= ?_);refine gr ?_;refine ac1 (a:=r.1) (xs:=tys) (enc:=fun n=>[num n]) WS rfl (h2:= ?_)
 repeat' (first|refine soO (h2:= ?_)|refine gx ?_|fail)
 exact ⟨_,_,rfl,by rw [e1];rfl,by rw [e2,e3];rfl⟩
def Ex.Oh {A:Go.Abs.Prog}{l:F2}{b:Nat}{c:s4}{st:St}{R:F6->St->Prop}{go:St->Prop}(P:St->Prop)(h1:Ex A l b c st (zA R P))(h2:∀ s,P s->go s):Ex A l b c st (zA R go):=by
 refine h1.mono fun x s h=> ?_
 cases x with
 |normal=>exact h2 s h
 |exit i=>exact h
 |ret=>exact h
def Z2 (v:Vw)(L R:List Int):Int :=
 if !u0 (I4 L R v.on) 0 then I4 L R v.on
 else if F3 0 v.wh.length&& !u0 (H7 v.wh (L++R)).2 0 then (H7 v.wh (L++R)).2
 else if F3 0 v.wh.length&& !u0 (H7 v.wh (L++R)).1 1 then 5
 else V7 (L++R) [] (Z8 v)
def mT (ss:List eU)(v:Vw)(L R:List Int):List eU:=if u0 (Z2 v L R) 0 then ss++[(v.name,(Z8 v).map yy.name,W8 v (L++R))] else ss
def nC {ty:List Int}{seen:List L0}{x:Gp}{r:List yy}:V7 ty seen (⟨false,x.name, -1,x.expr⟩::r)=if !u0 (aI seen x.name (H7 x.expr ty)) 0 then aI seen x.name (H7 x.expr ty) else V7 ty (seen++[x.name]) r:=by
 have h3:u0 3 0=false:=by simp [o9]
 have h4:u0 4 0=false:=by simp [o9]
 have h0:u0 0 0=true:=by simp [o9]
 simp only [V7,aI,Bool.false_and,j5,if_false]
 rcases A7 (G7 x.name) with c1|c1
 .rcases A7 (seen.any fun y=>L4 y x.name) with c2|c2
  .simp only [c1,c2,Bool.not_true,j5,if_false,if_true,h4,M0]
  .rcases A7 (u0 (H7 x.expr ty).2 0) with c3|c3
   .simp only [c1,c2,c3,Bool.not_true,j5,if_false,h0]
   .simp only [c1,c2,c3,Bool.not_true,M0,j5,if_false,if_true]
 .simp only [c1,M0,if_true,h3]
def qx {ty:List Int}{seen:List L0}{x:BM}{r:List yy}:V7 ty seen (⟨true,x.name,x.func,x.expr⟩::r)=if !u0 (aI seen x.name (cC ty x)) 0 then aI seen x.name (cC ty x) else V7 ty (seen++[x.name]) r:=by
 have h1:u0 1 0=false:=by simp [o9]
 have h3:u0 3 0=false:=by simp [o9]
 have h4:u0 4 0=false:=by simp [o9]
 have h6:u0 5 0=false:=by simp [o9]
 have h0:u0 0 0=true:=by simp [o9]
 simp only [V7,aI,Bool.true_and]
 rcases A7 (G7 x.name) with c1|c1
 .rcases A7 (seen.any fun y=>L4 y x.name) with c2|c2
  .simp only [c1,c2,Bool.not_true,j5,if_false,if_true,h4,M0]
  .simp only [c1,c2,Bool.not_true,j5,if_false,cC]
   rcases A7 (u0 x.func 0) with f0|f0
   .have hw:A4 x.func 0 4=true:=by have:=bz f0;simp [A4,y3];omega
    rcases A7 (F3 0 x.expr.length) with c5|c5
    .simp only [f0,hw,c5,Bool.not_true,Bool.and_self,Bool.or_true,if_true,h1,M0]
    .simp only [f0,hw,c5,Bool.not_true,Bool.and_false,Bool.or_self,j5,if_false,if_true,h0]
   .rcases A7 (A4 x.func 0 4) with hw|hw
    .have hf:(u0 x.func 1||u0 x.func 2||u0 x.func 3||u0 x.func 4)=true:=by
      have:=GP f0;simp [A4,y3] at hw;simp [o9];omega
     simp only [f0,hw,hf,Bool.not_true,Bool.false_and,Bool.or_self,j5,if_false,if_true]
     rcases A7 (u0 (H7 x.expr ty).2 0) with c5|c5
     .rcases A7 (u0 x.func 1&& !u0 (H7 x.expr ty).1 1) with c6|c6
      .simp only [c5,c6,Bool.not_true,M0,j5,if_false,if_true,h6]
      .simp only [c5,c6,Bool.not_true,j5,if_false,h0]
     .simp only [c5,M0,if_true]
    .have hf:(u0 x.func 1||u0 x.func 2||u0 x.func 3||u0 x.func 4)=false:=by
      simp [A4,y3] at hw;simp [o9];omega
     simp only [f0,hw,hf,M0,Bool.true_or,j5,if_false,if_true,h1]
 .simp only [c1,M0,if_true,h3]
def MP {ty:List Int}{x:BM}(h:u0 (cC ty x).2 0=true):(cC ty x).1=su ty x:=by
 have h1:u0 1 0=false:=by simp [o9]
 have h6:u0 5 0=false:=by simp [o9]
 unfold cC at h ⊢;unfold su;cases f0:u0 x.func 0 with
 |true =>
  rw [f0] at h;cases h5:F3 0 x.expr.length with
  |true=>rw [h5] at h;simp [h1] at h
  |false=>simp
 |false =>
  rw [f0] at h;simp only [j5,if_false,Bool.false_or] at h ⊢;cases h2:(u0 x.func 1||u0 x.func 2||u0 x.func 3||u0 x.func 4) with
  |false=>rw [h2] at h;simp [h1] at h
  |true =>
   rw [h2] at h;simp only [if_true] at h ⊢;cases h3:u0 (H7 x.expr ty).2 0 with
   |false=>rw [h3] at h;simp [h3] at h
   |true =>
    rw [h3] at h;simp only [Bool.not_true,j5,if_false] at h ⊢;cases f1:u0 x.func 1 with
    |false=>simp
    |true =>
     rw [f1] at h;cases h4:u0 (H7 x.expr ty).1 1 with
     |false=>rw [h4] at h;simp [h6] at h
     |true=>simpa using bz h4
set_option maxHeartbeats 32000000 in
def Ux (c:y4)(ds:List L0)(ss:List eU)(v:Vw)(L R:List Int)(hL:L.length<=5000)(hR:R.length<=5000)(h0:v.on.length<=1000)(h1:v.wh.length<=1000)(h2:v.items.length<=1000)(h3:v.D2.length<=1000)(h4:∀ i,i<v.items.length->(nth v.items i).expr.length<=1000)(h5:∀ i,i<v.D2.length->(nth v.D2 i).expr.length<=1000)
  (hs:((ss.map (·.1)).any fun y=>L4 y v.name)=false) (hss:ss.length<=1000):Pm A 221 [.ptr 4 0,vw v,.d (ints L),.d (ints R)] (HH c ds ss) lW (.d (num (Z2 v L R))) (HH c ds (mT ss v L R)):=by
 suffices h:Pq A 221 [.ptr 4 0,vw v,.d (ints L),.d (ints R)] (HH c ds ss) lW fun w H1=>w= .d (num (Z2 v L R))/\H1=HH c ds (mT ss v L R) by
  obtain ⟨w,H1,⟨rfl,rfl⟩,h⟩:=h;exact h
 have same:∀ e,Z2 v L R=e->u0 e 0=false->mT ss v L R=ss:=fun e g1 g2=>by unfold mT;rw [g1,g2];rfl
 have Aj:=Am c ds ss v.name ((Z8 v).map yy.name) (W8 v (L++R)) hs hss;have Uo:=ZZ [L,R] (by simp) (by
  intro i hi
  match i,hi with
  |0,_=>rw [U9];omega
  |1,_=>rw [oc,U9];omega)
 have pW:=Ik v.wh (L++R) h1 (by simp;omega);unfold pair at pW;have hfl:[L,R].flatten=L++R:=by simp
 rw [hfl] at Uo;have hTl:(L++R).length<=100000:=by simp;omega
 unfold HH at *
 refine Pq.run (b:=5) [.ptr 4 0,vw v,.d (ints L),.d (ints R),.any,.any,.any,.any,.any,.any,.any,.any,.any,.any,.any,.any,.any,.any,.any,.any,.any,.any,.any,.any] rfl rfl rfl rfl rfl ?_;refine gr ?_;refine Ex.X8 (fun k T H=>∃ (i:Nat),T=[.ptr 4 0,.any,.d (ints L),.d (ints R),.ptr 5 0,.any,.any,.any,.any,.any,.any,.any,.any,.any,.any,.d (A5 (fun p=>[num p.1,num p.2]) v.on),.d (num v.on.length),.d (num i),.any,.any,.any,.any,.any,.any]/\H=[.cells (c.enc.map .d),.cells (c.enc.map .d),.map (dmap ds),.map (W5 (ss.map (·.1)) 0),.cells (c.enc.map .d++[.map 2,.map 3,C9 2 L3 ss]),.cells (v.enc.map .d)]/\i+k=v.on.length/\I4 L R v.on=I4 L R (v.on.drop i)) ?_ (k:=v.on.length) ⟨0,rfl,rfl,by simp,by simp⟩;rintro k _ _ ⟨i,rfl,rfl,hk,hi⟩;refine Ex.seq ?_;refine tb (F3 i v.on.length) (fun g1=> ?_) (fun g1=> ?_)
 .have g2:=C6 g1
  rw [D4 (by omega)] at hi;refine gr ?_;refine tB (!A4 (nth v.on i).1 0 (L.length - 1)|| !A4 (nth v.on i).2 0 (R.length - 1)) ?_ (fun g3=> ?_) (fun g3=> ?_)
  .repeat' (first|refine cl (Ij _ _ _) ?_|refine gx ?_|refine fk (h1:=fun hw=> ?_) (h2:=fun hw=> ?_)|refine U0 (h1:=fun hw=> ?_) (h2:=fun hw=> ?_)|refine ⟨rfl,rfl,_,rfl,?_⟩|refine ⟨rfl,rfl⟩|fail)
   all_goals exact cc
  .have e1:I4 L R v.on=3:=by rw [hi,I4,g3];rfl
   have e2:Z2 v L R=3:=by unfold Z2;rw [e1];simp [o9]
   refine gr ?_;exact ⟨_,_,rfl,by rw [e2];rfl,by rw [same 3 e2 (by simp [o9])];rfl⟩
  have g4:=g3;simp [A4,y3] at g4;refine gr ?_;refine tb (!u0 (nth L (nth v.on i).1.toNat) (nth R (nth v.on i).2.toNat)) (fun g5=> ?_) (fun g5=> ?_)
  .have e1:I4 L R v.on=5:=by rw [hi,I4,g3,g5];rfl
   have e2:Z2 v L R=5:=by unfold Z2;rw [e1];simp [o9]
   refine gr ?_;exact ⟨_,_,rfl,by rw [e2];rfl,by rw [same 5 e2 (by simp [o9])];rfl⟩
  .refine gr ?_
   exact ⟨k - 1,by omega,_,_,rfl,i+1,rfl,rfl,by omega,by rw [hi,I4,g3,g5];rfl⟩
 have g2:=C5 g1;rw [n5 (by omega)] at hi;have e0:(!u0 (I4 L R v.on) 0)=false:=by rw [hi];simp [I4,o9]
 clear g1 g2 hk hi
 repeat' (first|refine cl (Uo) ?_|refine gx ?_|fail)
 refine Ex.Oh (fun s=>∃ (w1 w2 w3 w5 w6 w8 w9 oE mM Ol VI VJ w15 w16 w17 w18 w19 Za Zb Zc Zd:j3),s=⟨[.ptr 4 0,w1,w2,w3,.ptr 5 0,w5,w6,.ptr 6 0,w8,w9,oE,mM,Ol,VI,VJ,w15,w16,w17,w18,w19,Za,Zb,Zc,Zd],[.cells (c.enc.map .d),.cells (c.enc.map .d),.map (dmap ds),.map (W5 (ss.map (·.1)) 0),.cells (c.enc.map .d++[.map 2,.map 3,C9 2 L3 ss]),.cells (v.enc.map .d),.cells [.d (ints (L++R))]]⟩/\Z2 v L R=V7 (L++R) [] (Z8 v)) ?_ ?_
 .skip
  refine tb (F3 0 v.wh.length) (fun g6=> ?_) (fun g6=> ?_)
  .repeat' (first|refine cl (pW) ?_|refine gx ?_|fail)
   refine tb (!u0 (H7 v.wh (L++R)).2 0) (fun g7=> ?_) (fun g7=> ?_)
   .have e1:Z2 v L R=(H7 v.wh (L++R)).2:=by unfold Z2;rw [e0,g6,g7];rfl
    refine gr ?_;exact ⟨_,_,rfl,by rw [e1];rfl,by rw [same _ e1 (by simpa using g7)];rfl⟩
   refine gr ?_;refine tb (!u0 (H7 v.wh (L++R)).1 1) (fun g8=> ?_) (fun g8=> ?_)
   .have e1:Z2 v L R=5:=by unfold Z2;rw [e0,g6,g7,g8];rfl
    refine gr ?_;exact ⟨_,_,rfl,by rw [e1];rfl,by rw [same 5 e1 (by simp [o9])];rfl⟩
   .have e1:Z2 v L R=V7 (L++R) [] (Z8 v):=by unfold Z2;rw [e0,g6,g7,g8];rfl
    refine gr ?_;exact ⟨_,_,_,_,_,_,_,_,_,_,_,_,_,_,_,_,_,_,_,_,_,rfl,e1⟩
  .have e1:Z2 v L R=V7 (L++R) [] (Z8 v):=by unfold Z2;rw [e0,g6];rfl
   refine gr ?_;exact ⟨_,_,_,_,_,_,_,_,_,_,_,_,_,_,_,_,_,_,_,_,_,rfl,e1⟩
 rintro _ ⟨w1,w2,w3,w5,w6,w8,w9,oE,mM,Ol,VI,VJ,w15,w16,w17,w18,w19,Za,Zb,Zc,Zd,rfl,hin⟩;refine gr ?_;refine Ex.X8 (fun k T H=>∃ (i:Nat) (nm:List L0) (tys:List Int),T=[.ptr 4 0,.any,.any,.any,.ptr 5 0,.any,.any,.ptr 6 0,.any,.any,.ptr 7 0,.any,.any,.any,.any,.any,.any,.any,.d (A5 Gp.enc v.items),.d (num v.items.length),.d (num i),.any,.any,.any]/\H=[.cells (c.enc.map .d),.cells (c.enc.map .d),.map (dmap ds),.map (W5 (ss.map (·.1)) 0),.cells (c.enc.map .d++[.map 2,.map 3,C9 2 L3 ss]),.cells (v.enc.map .d),.cells [.d (ints (L++R))],.cells (kN nm tys)]/\i+k=v.items.length/\nm=(v.items.take i).map Gp.name/\tys=(v.items.take i).map (fun x=>(H7 x.expr (L++R)).1)/\Z2 v L R=V7 (L++R) nm ((Z8 v).drop i)) ?_ (k:=v.items.length) ⟨0,[],[],rfl,rfl,by simp,by simp,by simp,by simpa using hin⟩;rintro k _ _ ⟨i,nm,tys,rfl,rfl,hk,hnm,xU,hi⟩;have Tq:nm.length=i:=by rw [hnm];simp;omega
 have mK:tys.length=i:=by rw [xU];simp;omega
 refine Ex.seq ?_;refine tb (F3 i v.items.length) (fun g1=> ?_) (fun g1=> ?_)
 .have g2:=C6 g1
  have hel:=gj v;rw [D4 (by omega),oW v (by omega),nC] at hi;have Mc:=Ip 257 rfl rfl (.cells (c.enc.map .d)) (.cells (c.enc.map .d)) (.map (dmap ds)) (.map (W5 (ss.map (·.1)) 0)) (.cells (c.enc.map .d++[.map 2,.map 3,C9 2 L3 ss])) (.cells (v.enc.map .d)) (L++R) nm tys (nth v.items i).enc (nth v.items i).name (H7 (nth v.items i).expr (L++R)) (by omega) (by omega) (fun a7=>UA (.cells (c.enc.map .d)) (.cells (c.enc.map .d)) (.map (dmap ds)) (.map (W5 (ss.map (·.1)) 0)) (.cells (c.enc.map .d++[.map 2,.map 3,C9 2 L3 ss])) (.cells (v.enc.map .d)) a7 (L++R) (nth v.items i) (h4 i (by omega)) hTl)
  repeat' (first|refine c0 Mc rfl (h2:= ?_)|refine gx ?_|fail)
  refine tb (!u0 (aI nm (nth v.items i).name (H7 (nth v.items i).expr (L++R))) 0) (fun g3=> ?_) (fun g3=> ?_)
  .rw [g3,if_pos rfl] at hi
   refine gr ?_;exact ⟨_,_,rfl,by rw [hi];rfl,by rw [same _ hi (by simpa using g3)];rfl⟩
  .rw [g3,if_neg (by simp)] at hi
   have e1:u0 (aI nm (nth v.items i).name (H7 (nth v.items i).expr (L++R))) 0=true:=by simpa using g3
   have e2:kj nm (nth v.items i).name (H7 (nth v.items i).expr (L++R))=nm++[(nth v.items i).name]:=by unfold kj;rw [e1];rfl
   have e3:kr nm tys (nth v.items i).name (H7 (nth v.items i).expr (L++R))=tys++[(H7 (nth v.items i).expr (L++R)).1]:=by unfold kr;rw [e1];rfl
   rw [e2,e3];refine gr ?_;exact ⟨k - 1,by omega,_,_,rfl,i+1,nm++[(nth v.items i).name],tys++[(H7 (nth v.items i).expr (L++R)).1],rfl,rfl,by omega,by rw [K3 (by omega),hnm];simp,by rw [K3 (by omega),xU];simp,hi⟩
 have g2:=C5 g1;rw [A8 (by omega)] at hnm xU;have hie:i=v.items.length:=by omega
 subst hie;clear g1 g2 hk;refine gr ?_;refine Ex.X8 (fun k T H=>∃ (i:Nat) (tf:List L0) (mA:List Int),T=[.ptr 4 0,.any,.any,.any,.ptr 5 0,.any,.any,.ptr 6 0,.any,.any,.ptr 7 0,.any,.any,.any,.any,.any,.any,.any,.any,.any,.any,.d (A5 BM.enc v.D2),.d (num v.D2.length),.d (num i)]/\H=[.cells (c.enc.map .d),.cells (c.enc.map .d),.map (dmap ds),.map (W5 (ss.map (·.1)) 0),.cells (c.enc.map .d++[.map 2,.map 3,C9 2 L3 ss]),.cells (v.enc.map .d),.cells [.d (ints (L++R))],.cells (kN tf mA)]/\i+k=v.D2.length/\tf=nm++(v.D2.take i).map BM.name/\mA=tys++(v.D2.take i).map (su (L++R))/\Z2 v L R=V7 (L++R) tf ((Z8 v).drop (v.items.length+i))) ?_ (k:=v.D2.length) ⟨0,nm,tys,rfl,rfl,by simp,by simp,by simp,hi⟩;clear hi;rintro k _ _ ⟨i,tf,mA,rfl,rfl,hk,EV,zI,hi⟩;have hl3:tf.length=v.items.length+i:=by rw [EV,n9,Tq];simp;omega
 have hl4:mA.length=v.items.length+i:=by rw [zI,n9,mK];simp;omega
 refine Ex.seq ?_;have hel:=gj v;refine tb (F3 i v.D2.length) (fun g1=> ?_) (fun g1=> ?_)
 .have g2:=C6 g1
  rw [D4 (by omega),sO v (by omega) (by omega),Nat.add_sub_cancel_left,qx] at hi;have Mc:=Ip 258 rfl rfl (.cells (c.enc.map .d)) (.cells (c.enc.map .d)) (.map (dmap ds)) (.map (W5 (ss.map (·.1)) 0)) (.cells (c.enc.map .d++[.map 2,.map 3,C9 2 L3 ss])) (.cells (v.enc.map .d)) (L++R) tf mA (nth v.D2 i).enc (nth v.D2 i).name (cC (L++R) (nth v.D2 i)) (by omega) (by omega) (fun a7=>UB (.cells (c.enc.map .d)) (.cells (c.enc.map .d)) (.map (dmap ds)) (.map (W5 (ss.map (·.1)) 0)) (.cells (c.enc.map .d++[.map 2,.map 3,C9 2 L3 ss])) (.cells (v.enc.map .d)) a7 (L++R) (nth v.D2 i) (h5 i (by omega)) hTl)
  repeat' (first|refine c0 Mc rfl (h2:= ?_)|refine gx ?_|fail)
  refine tb (!u0 (aI tf (nth v.D2 i).name (cC (L++R) (nth v.D2 i))) 0) (fun g3=> ?_) (fun g3=> ?_)
  .rw [g3,if_pos rfl] at hi
   refine gr ?_;exact ⟨_,_,rfl,by rw [hi];rfl,by rw [same _ hi (by simpa using g3)];rfl⟩
  .rw [g3,if_neg (by simp)] at hi
   have e1:u0 (aI tf (nth v.D2 i).name (cC (L++R) (nth v.D2 i))) 0=true:=by simpa using g3
   have e2:kj tf (nth v.D2 i).name (cC (L++R) (nth v.D2 i))=tf++[(nth v.D2 i).name]:=by unfold kj;rw [e1];rfl
   have e3:kr tf mA (nth v.D2 i).name (cC (L++R) (nth v.D2 i))=mA++[(cC (L++R) (nth v.D2 i)).1]:=by unfold kr;rw [e1];rfl
   have e4:u0 (cC (L++R) (nth v.D2 i)).2 0=true:=by
    have e5:=bz e1;unfold aI at e5;cases c1:(!G7 (nth v.D2 i).name) with
    |true=>rw [c1] at e5;simp at e5
    |false =>
     rw [c1] at e5;cases c2:tf.any fun y=>L4 y (nth v.D2 i).name with
     |true=>rw [c2] at e5;simp at e5
     |false =>
      rw [c2] at e5;cases c3:u0 (cC (L++R) (nth v.D2 i)).2 0 with
      |true=>rfl
      |false=>rw [c3] at e5;simp at e5;rw [e5] at c3;simp [o9] at c3
   rw [e2,e3];refine gr ?_;exact ⟨k - 1,by omega,_,_,rfl,i+1,tf++[(nth v.D2 i).name],mA++[(cC (L++R) (nth v.D2 i)).1],rfl,rfl,by omega,by rw [K3 (by omega),EV];simp,by rw [K3 (by omega),zI,MP e4];simp,hi⟩
 .have g2:=C5 g1
  rw [A8 (by omega)] at EV zI;rw [n5 (by omega)] at hi;have e1:Z2 v L R=0:=hi;have e2:mT ss v L R=ss++[(v.name,(Z8 v).map yy.name,W8 v (L++R))]:=by unfold mT;rw [e1];simp [o9]
  have e3:tf=(Z8 v).map yy.name:=by rw [EV,hnm];simp [Z8,Function.comp_def]
  have e4:mA=W8 v (L++R):=by rw [zI,xU];rfl
  rw [e2,e3,e4];refine gr ?_;unfold kN
  repeat' (first|refine c0 Aj rfl (h2:= ?_)|refine gx ?_|fail)
  exact ⟨_,_,rfl,by rw [e1];rfl,rfl⟩
def Ex.nH {A:Go.Abs.Prog}{l:F2}{b:Nat}{c:s4}{T:List j3}{H:q8}{Q:F6->St->Prop}(H2:q8)(hH:H=H2)(h:Ex A l b c ⟨T,H2⟩ Q):Ex A l b c ⟨T,H⟩ Q:=hH ▸ h
def Rn.z {A:Go.Abs.Prog}{l:F2}{b:Nat}{ops:List p9}{Q:List j3->q8->List j3->Prop}{T:List j3}{H:q8}(s na:Nat)(H' :q8)(zD:aB ops=[.dead])(vZ:slotsOf ops=[.slot s])(hu:∀ i,i ∈ ops->∀ e,e ∈ i.bT->e<ops.length)(hH:H++[.dead]=H')(hna:H.length=na)(h:Rz A l b ops ops T H' 0 [] [.slot s] na Q):Rn A l b ops true T H Q:=by
 subst hH hna;exact Rn.aX5 zD vZ hu h
def lpA {A:Go.Abs.Prog}{l:F2}{b:Nat}{dr:Bool}{l6 ops:List p9}{T:List j3}{H:q8}{n:Nat}{rl:List j3}{p6:List Abs.Touch}{Q:List j3->q8->List j3->Prop}{x:u9}{u:List Nat}{id o:Nat}{w v:j3}(hv:w.I7=v)(h2:Ry A l b dr l6 ops T H (n+1) (v::rl) p6 Q)(hx:rq T n rl x= .ptr id o:=by rfl)(hr:rd H id o 1=some [w]:=by rfl) :
  Ry A l b dr l6 (⟨.load none x,none,none,u⟩::ops) T H n rl p6 Q:=Ry.pure (rs:=[id]) rfl (by simp only [o6,hx,hr,hv]) h2
def S4 (ss:List eU)(s:L0):eU:=nth ss (J2 s (ss.map (·.1)) 0).toNat
def rZ (ss:List eU)(v:Vw):eU:=if L4 v.right [] then ([],[],[]) else S4 ss v.right
def T7 (ss:List eU)(ds:List L0)(v:Vw):Int :=
 if !u0 (O9 ds v.name) 0 then O9 ds v.name
 else if !u0 v.kind 0&& !u0 v.kind 1&& !u0 v.kind 2 then 1
 else if F3 (J2 v.left (ss.map (·.1)) 0) 0||(!L4 v.right []&&F3 (J2 v.right (ss.map (·.1)) 0) 0) then 7
 else if !iZ v then 1
 else if u0 v.kind 2 then (if !dU u0 (S4 ss v.left).2.2 (rZ ss v).2.2 then 5 else 0)
 else Z2 v (S4 ss v.left).2.2 (rZ ss v).2.2
def fh (ss:List eU)(ds:List L0)(v:Vw):List eU :=
 if u0 (T7 ss ds v) 0 then (if u0 v.kind 2 then ss++[(v.name,(S4 ss v.left).2.1,(S4 ss v.left).2.2)] else ss++[(v.name,(Z8 v).map yy.name,W8 v ((S4 ss v.left).2.2++(rZ ss v).2.2))]) else ss
set_option maxHeartbeats 32000000 in
def al7 (c:y4)(ds:List L0)(ss:List eU)(i:Nat)(hi:i<c.views.length)(h0:(nth c.views i).on.length<=1000)(h1:(nth c.views i).wh.length<=1000)(h2:(nth c.views i).items.length<=1000)(h3:(nth c.views i).D2.length<=1000)(h4:∀ j,j<(nth c.views i).items.length->(nth (nth c.views i).items j).expr.length<=1000)(h5:∀ j,j<(nth c.views i).D2.length->(nth (nth c.views i).D2 j).expr.length<=1000)
  (hss:ss.length<=1000) (ht:∀ k,k<ss.length->0<(nth ss k).2.1.length/\(nth ss k).2.1.length<=5000/\0<(nth ss k).2.2.length/\(nth ss k).2.2.length<=5000) (hsub:∀ s,(ds.any fun y=>L4 y s)=false->((ss.map (·.1)).any fun y=>L4 y s)=false) :
  Pm A 150 [.ptr 4 0,.d (num i)] (HH c ds ss) lW (.d (num (T7 ss ds (nth c.views i)))) (HH c (L8 ds (nth c.views i).name) (fh ss ds (nth c.views i))):=by
 generalize hx:nth c.views i=v at *
 have LS:=Io c ds ss v.name;have pL:=Ir c (L8 ds v.name) ss v.left;have pR:=Ir c (L8 ds v.name) ss v.right;have bL:=uP ss v.left;have bR:=uP ss v.right;have ak4:=ZR v h2 h3;have hno:O9 ds v.name=0->((ss.map (·.1)).any fun y=>L4 y v.name)=false:=fun h=>by
  refine hsub _ ?_;unfold O9 at h;cases c1:(!G7 v.name) with
  |true=>rw [c1] at h;simp at h
  |false =>
   rw [c1] at h;cases c2:ds.any fun y=>L4 y v.name with
   |false=>rfl
   |true=>rw [c2] at h;simp at h
 suffices h:Pq A 150 [.ptr 4 0,.d (num i)] (HH c ds ss) lW fun w H1=>w= .d (num (T7 ss ds v))/\H1=HH c (L8 ds v.name) (fh ss ds v) by
  obtain ⟨w,H1,⟨rfl,rfl⟩,h⟩:=h;exact h
 have same:∀ e,T7 ss ds v=e->u0 e 0=false->fh ss ds v=ss:=fun e g1 g2=>by unfold fh;rw [g1,g2];rfl
 have ak5:∀ L R:List Int,L.length<=5000->R.length<=5000->O9 ds v.name=0->Pm A 221 [.ptr 4 0,vw v,.d (ints L),.d (ints R)] (HH c (L8 ds v.name) ss) lW (.d (num (Z2 v L R))) (HH c (L8 ds v.name) (mT ss v L R)):=fun L R hL hR hd=>Ux c (L8 ds v.name) ss v L R hL hR h0 h1 h2 h3 h4 h5 (hno hd) hss
 have Aj:∀ nm ty,O9 ds v.name=0->Pm A 212 [.ptr 4 0,.d (.str v.name),qu nm ty] (HH c (L8 ds v.name) ss) lW (.tuple []) (HH c (L8 ds v.name) (ss++[(v.name,nm,ty)])):=fun nm ty hd=>Am c (L8 ds v.name) ss v.name nm ty (hno hd) hss
 unfold HH at *
 refine Pq.run (b:=5) [.ptr 4 0,.d (num i),.any,.any,.any,.any,.any] rfl rfl rfl rfl rfl ?_;refine gr ?_;rw [hx]
 repeat' (first|refine c0 LS rfl (h2:= ?_)|refine gx ?_|fail)
 refine tb (!u0 (O9 ds v.name) 0) (fun g1=> ?_) (fun g1=> ?_)
 .have e1:T7 ss ds v=O9 ds v.name:=by unfold T7;rw [g1];rfl
  refine gr ?_;exact ⟨_,_,rfl,by rw [e1];rfl,by rw [same _ e1 (by simpa using g1)];rfl⟩
 have hd0:O9 ds v.name=0:=bz (by simpa using g1);refine gr ?_;refine tb (!u0 v.kind 0&& !u0 v.kind 1&& !u0 v.kind 2) (fun g2=> ?_) (fun g2=> ?_)
 .have e1:T7 ss ds v=1:=by unfold T7;rw [g1,g2];rfl
  refine gr ?_;exact ⟨_,_,rfl,by rw [e1];rfl,by rw [same 1 e1 (by simp [o9])];rfl⟩
 refine gr ?_;refine tB (F3 (J2 v.left (ss.map (·.1)) 0) 0||(!L4 v.right []&&F3 (J2 v.right (ss.map (·.1)) 0) 0)) ?_ (fun g3=> ?_) (fun g3=> ?_)
 .repeat' (first|refine c1 pL rfl ?_|refine c1 pR rfl ?_|refine gx ?_|refine fk (h1:=fun hw=> ?_) (h2:=fun hw=> ?_)|refine U0 (h1:=fun hw=> ?_) (h2:=fun hw=> ?_)|refine ⟨rfl,rfl,_,rfl,?_⟩|refine ⟨rfl,rfl⟩|fail)
  all_goals exact cc
 .have e1:T7 ss ds v=7:=by unfold T7;rw [g1,g2,g3];rfl
  refine gr ?_;exact ⟨_,_,rfl,by rw [e1];rfl,by rw [same 7 e1 (by simp [o9])];rfl⟩
 have g3' :=g3;simp only [E6] at g3';have f1:=C5 g3'.1;have f2:L4 v.right []=false->0<=J2 v.right (ss.map (·.1)) 0:=fun h=>by
  have:=g3'.2;simp only [h,M0,Bool.true_and] at this;exact C5 this
 have htL:=ht (J2 v.left (ss.map (·.1)) 0).toNat (by omega);have hsL:nth ss (J2 v.left (ss.map (·.1)) 0).toNat=S4 ss v.left:=rfl;rw [hsL] at htL;refine gr ?_;refine tB (!iZ v) ?_ (fun g4=> ?_) (fun g4=> ?_)
 .repeat' (first|refine cl (ak4) ?_|refine gx ?_|refine fk (h1:=fun hw=> ?_) (h2:=fun hw=> ?_)|refine U0 (h1:=fun hw=> ?_) (h2:=fun hw=> ?_)|refine ⟨rfl,rfl,_,rfl,?_⟩|refine ⟨rfl,rfl⟩|fail)
  all_goals exact cc
 .have e1:T7 ss ds v=1:=by unfold T7;rw [g1,g2,g3,g4];rfl
  refine gr ?_;exact ⟨_,_,rfl,by rw [e1];rfl,by rw [same 1 e1 (by simp [o9])];rfl⟩
 refine gr ?_;refine Ex.nH [.cells (c.enc.map .d),.cells (c.enc.map .d),.map (dmap (L8 ds v.name)),.map (W5 (ss.map (·.1)) 0),.cells (c.enc.map .d++[.map 2,.map 3,C9 2 L3 ss]),.cells (v.enc.map .d)] rfl ?_;refine Ex.region (Rn.z 5 6 [.cells (c.enc.map .d),.cells (c.enc.map .d),.map (dmap (L8 ds v.name)),.map (W5 (ss.map (·.1)) 0),.cells (c.enc.map .d++[.map 2,.map 3,C9 2 L3 ss]),.cells (v.enc.map .d),.dead] rfl rfl (by decide) rfl rfl ?_);refine zm ?_;refine zp (rs:=[]) (.ptr 4 0) rfl ?_;refine zp (rs:=[]) (.ptr 4 10) rfl ?_;refine zp (rs:=[4]) (.d (A5 L3 ss)) rfl ?_;refine zm ?_;refine zp (rs:=[]) (.ptr 5 2) rfl ?_;refine zp (rs:=[5]) (.d (.str v.left)) rfl ?_;refine zc pL rfl ?_ (hmn:=k9 rfl);refine zix (xs:=ss) (enc:=L3) (e:=J2 v.left (ss.map (·.1)) 0) (by omega) ?_;refine zle ?_;rw [hsL];refine za (h2:= ?_);refine zs (h2:= ?_);refine zn ?_;refine gr ?_;refine Ex.Oh (fun s=>∃ (w0 w1 w2 w4 wa wb:j3),s=⟨[.ptr 4 0,w1,w2,.ptr 5 0,w4,.ptr 6 0,.ptr 7 0],[.cells (c.enc.map .d),.cells (c.enc.map .d),.map (dmap (L8 ds v.name)),.map (W5 (ss.map (·.1)) 0),.cells (c.enc.map .d++[.map 2,.map 3,C9 2 L3 ss]),.cells (v.enc.map .d),.cells ((L3 (S4 ss v.left)).map .d),.cells [wa,wb]]⟩/\wa.I7= .d (A5 encS (rZ ss v).2.1)/\wb.I7= .d (ints (rZ ss v).2.2)/\(rZ ss v).2.2.length<=5000) ?_ ?_
 .skip
  refine tb (!L4 v.right []) (fun g6=> ?_) (fun g6=> ?_)
  .simp only [o8] at g6
   have f3:=f2 g6;have htR:=ht (J2 v.right (ss.map (·.1)) 0).toNat (by omega);have QI:nth ss (J2 v.right (ss.map (·.1)) 0).toNat=rZ ss v:=by unfold rZ;rw [g6];rfl
   rw [QI] at htR
   repeat' (first|refine c1 pR rfl ?_|refine soD (h2:= ?_)|refine gx ?_|fail)
   rw [QI];exact ⟨.any,_,_,_,_,_,rfl,rfl,rfl,by omega⟩
  .simp only [O1] at g6
   have QI:rZ ss v=([],[],[]):=by unfold rZ;rw [g6];rfl
   refine gr ?_;exact ⟨.any,_,_,_,_,_,rfl,by rw [QI];rfl,by rw [QI];rfl,by rw [QI];simp⟩
 rintro _ ⟨w0,w1,w2,w4,wa,wb,rfl,ha,hb,hrl⟩;have am6:=ZS (S4 ss v.left).2.2 (rZ ss v).2.2 (by omega);have Mb:=ZT (S4 ss v.left).2.1 (by omega) (by omega);have am7:=ZU (S4 ss v.left).2.2 (by omega) (by omega);have Ma:=Aj (S4 ss v.left).2.1 (S4 ss v.left).2.2 hd0;have am8:=ak5 (S4 ss v.left).2.2 (rZ ss v).2.2 (by omega) hrl hd0;refine gr ?_;refine tb (u0 v.kind 2) (fun g7=> ?_) (fun g7=> ?_)
 .refine gr ?_
  refine tB (!dU u0 (S4 ss v.left).2.2 (rZ ss v).2.2) ?_ (fun g8=> ?_) (fun g8=> ?_)
  .repeat' (first|refine lpA hb ?_|refine cl (am6) ?_|refine gx ?_|refine fk (h1:=fun hw=> ?_) (h2:=fun hw=> ?_)|refine U0 (h1:=fun hw=> ?_) (h2:=fun hw=> ?_)|refine ⟨rfl,rfl,_,rfl,?_⟩|refine ⟨rfl,rfl⟩|fail)
   all_goals exact cc
  .have e1:T7 ss ds v=5:=by unfold T7;rw [g1,g2,g3,g4,g7,g8];rfl
   refine gr ?_;exact ⟨_,_,rfl,by rw [e1];rfl,by rw [same 5 e1 (by simp [o9])];rfl⟩
  have e1:T7 ss ds v=0:=by unfold T7;rw [g1,g2,g3,g4,g7,g8];rfl
  have e2:fh ss ds v=ss++[(v.name,(S4 ss v.left).2.1,(S4 ss v.left).2.2)]:=by unfold fh;rw [e1,g7];simp [o9]
  rw [e2]
  repeat' (first|refine cl (Mb) ?_|refine cl (am7) ?_|refine c0 Ma rfl (h2:= ?_)|refine gx ?_|fail)
  exact ⟨_,_,rfl,by rw [e1];rfl,rfl⟩
 .have e1:T7 ss ds v=Z2 v (S4 ss v.left).2.2 (rZ ss v).2.2:=by unfold T7;rw [g1,g2,g3,g4,g7];rfl
  have e2:fh ss ds v=mT ss v (S4 ss v.left).2.2 (rZ ss v).2.2:=by unfold fh mT;rw [e1,g7];rfl
  rw [e2]
  repeat' (first|refine lpA hb ?_|refine c0 am8 rfl (h2:= ?_)|refine gx ?_|fail)
  exact ⟨_,_,rfl,by rw [e1];rfl,rfl⟩
def cnt (c:y4):Nat->Nat
 |0=>c.o7.length
 |1=>c.views.length
 |2=>c.idxs.length
 |3=>c.qm.length
 |4=>c.qf.length
 |5=>c.ql.length
 |6=>c.qn.length
 |_=>c.qd.length
def Cb:Nat->Nat
 |0=>8
 |1=>12
 |_=>16
def fid (q:Nat):FuncId:=149+q
def S6 (c:y4):Nat->Nat
 |0=>0
 |q+1=>S6 c q+cnt c q
def P4 (c:y4)(q:Nat):List j3:=[.d (num (cnt c q)),.d (num (Cb q)),.func (fid q) [.ptr 4 0] []]
def U8 (c:y4):List j3:=P4 c 0++P4 c 1++P4 c 2++P4 c 3++P4 c 4++P4 c 5++P4 c 6++P4 c 7
def nU (c:y4)(q:Nat)(h:q<8)(H:q8)(hH:H[5]? =some (.cells (U8 c))):rd H 5 (0+q * 3) 3=some (P4 c q):=by
 simp only [rd,hH]
 match q,h with
 |0,_=>rfl
 |1,_=>rfl
 |2,_=>rfl
 |3,_=>rfl
 |4,_=>rfl
 |5,_=>rfl
 |6,_=>rfl
 |7,_=>rfl
def yA (c:y4)(ds:List L0)(ss:List eU):R7 (HH c ds ss)<=5:=by
 have h1:=iM ds;have h2:=iW (ss.map (·.1)) 0;have e1:B8 (c.enc.map j3.d)=0:=rfl;have e2:B8 (c.enc.map j3.d++[.map 2,.map 3,C9 2 L3 ss])=4:=rfl;simp only [HH,R7,x9.L7,h1,h2,e1,e2]
 decide
def si (c:y4)(ds:List L0)(ss:List eU):T5 (HH c ds ss) 0=true:=by
 have h1:=iM ds;have h2:=iW (ss.map (·.1)) 0;have e1:B8 (c.enc.map j3.d)=0:=rfl;have e2:B8 (c.enc.map j3.d++[.map 2,.map 3,C9 2 L3 ss])=4:=rfl;simp only [HH,T5,x9.L7,h1,h2,e1,e2]
 decide
def tL {H:q8}(h:T5 ((H.take 5).drop 0) 0=true):D8 H 0 5=5:=by
 unfold D8;rw [if_neg (by decide),if_pos h]
def GS {q:Nat}(h:q<8):A.prom (fid q)=false/\A.mode (fid q)=0:=by
 match q,h with
 |0,_=>exact ⟨rfl,rfl⟩
 |1,_=>exact ⟨rfl,rfl⟩
 |2,_=>exact ⟨rfl,rfl⟩
 |3,_=>exact ⟨rfl,rfl⟩
 |4,_=>exact ⟨rfl,rfl⟩
 |5,_=>exact ⟨rfl,rfl⟩
 |6,_=>exact ⟨rfl,rfl⟩
 |7,_=>exact ⟨rfl,rfl⟩
def Ag (c:y4):S6 c 8=c.names.length:=by simp [S6,cnt,y4.names];omega
def NI (c:y4){q:Nat}(h:q<8):S6 c q+cnt c q<=c.names.length:=by
 rw [<- Ag]
 match q,h with
 |0,_=>simp only [S6];omega
 |1,_=>simp only [S6];omega
 |2,_=>simp only [S6];omega
 |3,_=>simp only [S6];omega
 |4,_=>simp only [S6];omega
 |5,_=>simp only [S6];omega
 |6,_=>simp only [S6];omega
 |7,_=>simp only [S6];omega
def NC {c:y4}{q:Nat}(h:q<8)(h2:F3 (Cb q) (cnt c q)=true):tooMany c=true:=by
 unfold tooMany CZ
 match q,h with
 |0,_=>simp only [Cb,cnt] at h2;simp [show F3 8 c.o7.length=true from h2]
 |1,_=>simp only [Cb,cnt] at h2;simp [show F3 12 c.views.length=true from h2]
 |2,_=>simp only [Cb,cnt] at h2;simp [show F3 16 c.idxs.length=true from h2]
 |3,_=>simp only [Cb,cnt] at h2;simp [show F3 16 c.qm.length=true from h2]
 |4,_=>simp only [Cb,cnt] at h2;simp [show F3 16 c.qf.length=true from h2]
 |5,_=>simp only [Cb,cnt] at h2;simp [show F3 16 c.ql.length=true from h2]
 |6,_=>simp only [Cb,cnt] at h2;simp [show F3 16 c.qn.length=true from h2]
 |7,_=>simp only [Cb,cnt] at h2;simp [show F3 16 c.qd.length=true from h2]
def SQ {c:y4}(h:∀ p,p<8->cnt c p<=Cb p):tooMany c=false:=by
 have h0:=h 0 (by omega);have h1:=h 1 (by omega);have h2:=h 2 (by omega);have h3:=h 3 (by omega);have h4:=h 4 (by omega);have h5:=h 5 (by omega);have h6:=h 6 (by omega);have h7:=h 7 (by omega);simp only [cnt,Cb] at h0 h1 h2 h3 h4 h5 h6 h7;simp only [tooMany,CZ,z8,E6,decide_eq_false_iff_not];omega
def Ei (c:y4)(ds:List L0)(ss:List eU):R7 (HH c ds ss++[.cells (U8 c)])<=6:=by
 have h1:=iM ds;have h2:=iW (ss.map (·.1)) 0;have e1:B8 (c.enc.map j3.d)=0:=rfl;have e2:B8 (c.enc.map j3.d++[.map 2,.map 3,C9 2 L3 ss])=4:=rfl;have e3:B8 (U8 c)=5:=rfl;simp only [HH,B7,B9,R7,x9.L7,h1,h2,e1,e2,e3]
 decide
def nR (c:y4)(q:Nat):B8 (P4 c q)<=6+1:=k9 rfl
def jm (c:y4)(fds:List L0)(Lm:List eU)(v:j3)(H1:q8):Prop :=
 (∃ R,H1= .cells (c.enc.map .d)::R)/\(u0 (O5 c).2 0=false->v= .tuple [.d .br,.d (num (O5 c).1),.d (num (O5 c).2)]) /\
  (u0 (O5 c).2 0=true->v= .tuple [.ptr 4 0,.d (num 0),.d (num 0)]/\H1=HH c fds Lm++[.cells (U8 c)])
def Ew {c:y4}{fds:List L0}{Lm:List eU}{v:j3}{H1:q8}(h:jm c fds Lm v H1):1<=H1.length:=by
 obtain ⟨⟨R,rfl⟩,_⟩:=h;simp
set_option maxHeartbeats 32000000 in
def al8 (c:y4)(hf:c.qA)(ST:Nat->List L0->List eU->Prop)(ag0:ST 0 [] [])(hST:∀ g ds ss ds' ss',ST g ds ss->ST g ds' ss' ->ds=ds' /\ss=ss')(fds:List L0)(Lm:List eU)(ag1:∀ ds ss,ST c.names.length ds ss->ds=fds/\ss=Lm)
  (hstep:∀ q i ds ss,q<8->i<cnt c q->tooMany c=false->kL c (S6 c q+i)->ST (S6 c q+i) ds ss->∃ dz sz,(P9 c (S6 c q+i)=0->ST (S6 c q+i+1) dz sz)/\Pm A (fid q) [.ptr 4 0,.d (num i)] (HH c ds ss) lW (.d (num (P9 c (S6 c q+i)))) (HH c dz sz)) :
  Pq A 101 [cat c] [.cells (c.enc.map .d)] Y8 (jm c fds Lm):=by
 obtain ⟨f0,f1,f2,f3,f4,f5,f6,f7⟩:=id hf;have WO:∀ q,cnt c q<=1000:=fun q=>by unfold cnt;split<;>omega
 have hlm:∀ q,Cb q<=16:=fun q=>by unfold Cb;split<;>omega
 refine Pq.run (b:=1) [cat c,.any,.any,.any,.any,.any,.any,.any,.any,.any,.any,.any,.any,.any,.any,.any,.any,.any,.any,.any] rfl rfl rfl rfl rfl ?_
 repeat' (first|refine mk (h2:= ?_)|refine uw (cs:=c.enc.map .d++[.map 2,.map 3,C9 2 L3 []]) ?_|refine uw (cs:=P4 c 0) ?_|refine uw (cs:=P4 c 1) ?_|refine uw (cs:=P4 c 2) ?_|refine uw (cs:=P4 c 3) ?_|refine uw (cs:=P4 c 4) ?_|refine uw (cs:=P4 c 5) ?_|refine uw (cs:=P4 c 6) ?_|refine uw (cs:=P4 c 7) ?_|refine gx ?_|fail)
 refine bso (U8 c) rfl ⟨by decide,rfl⟩ (h2:= ?_)
 repeat' (first|refine lrT (h2:= ?_)|refine gx ?_|fail)
 refine Ex.X8 (fun k T H=>∃ (q:Nat),T=[.any,.any,.any,.any,.any,.ptr 4 0,.B6 5 3 0 8,.any,.any,.any,.any,.any,.B6 5 3 0 8,.d (num (8:Nat)),.d (num q),.any,.any,.any,.any,.any]/\H=[.cells (c.enc.map .d),.cells (c.enc.map .d),.map [],.map [],.cells (c.enc.map .d++[.map 2,.map 3,C9 2 L3 []]),.cells (U8 c)]/\q+k=8/\∀ p,p<q->cnt c p<=Cb p) ?_ (k:=8) ⟨0,rfl,rfl,by simp,fun p h=>absurd h (by omega)⟩;rintro k _ _ ⟨q,rfl,rfl,hk,hq⟩;have b1:=WO q;have b2:=hlm q;have hbk:=nR c q;refine Ex.seq ?_;refine tb (F3 q (8:Nat)) (fun g1=> ?_) (fun g1=> ?_)
 .have g2:=C6 g1
  have EW:q<8:=by omega
  have hka:=nU c q EW ([.cells (c.enc.map .d),.cells (c.enc.map .d),.map [],.map [],.cells (c.enc.map .d++[.map 2,.map 3,C9 2 L3 []]),.cells (U8 c)]) rfl
  repeat' (first|refine ixs (i:=q) (len:=8) EW ?_|refine WV hka rfl ?_|refine soB (cs:=P4 c q) (id:=6) hbk (h2:= ?_)|refine gx ?_|fail)
  refine tb (F3 (Cb q) (cnt c q)) (fun g3=> ?_) (fun g3=> ?_)
  .have ht:=NC EW g3
   have e1:O5 c=(0,8):=by unfold O5;rw [ht];rfl
   refine gr ?_;exact ⟨_,_,rfl,⟨_,rfl⟩,fun _=>by rw [e1];rfl,fun h=>by rw [e1] at h;simp [o9] at h⟩
  .have g4:=C5 g3
   refine gr ?_;exact ⟨k - 1,by omega,_,_,rfl,q+1,rfl,rfl,by omega,fun p hp=>by
    rcases s5 p q with h|h
    .exact hq p h
    .obtain rfl:p=q:=by omega
     omega⟩
 have g2:=C5 g1;have sR:=SQ (c:=c) (fun p hp=>hq p (by omega));clear g1 g2 hk hq b1 b2 hbk
 repeat' (first|refine lrT (h2:= ?_)|refine gx ?_|fail)
 refine Ex.X8 (fun k T H=>∃ (q g:Nat) (ds:List L0) (ss:List eU),T=[.any,.any,.any,.any,.any,.ptr 4 0,.any,.any,.d (num g),.any,.any,.any,.any,.any,.any,.B6 5 3 0 8,.d (num (8:Nat)),.d (num q),.any,.any]/\H=[.cells (c.enc.map .d),.cells (c.enc.map .d),.map (dmap ds),.map (W5 (ss.map (·.1)) 0),.cells (c.enc.map .d++[.map 2,.map 3,C9 2 L3 ss]),.cells (U8 c)]/\q+k=8/\g=S6 c q/\ST g ds ss/\kL c g/\O5 c=bY c (c.names.length - g) g) ?_ (k:=8) ⟨0,0,[],[],rfl,rfl,by simp,rfl,ag0,fun m h=>absurd h (by omega),by unfold O5;rw [sR];rfl⟩;rintro k _ _ ⟨q,g,ds,ss,rfl,rfl,hk,hg,hst,hok,hch⟩;have b1:=WO q;have hbk:=nR c q;refine Ex.seq ?_;refine tb (F3 q (8:Nat)) (fun g1=> ?_) (fun g1=> ?_)
 .have g2:=C6 g1
  have EW:q<8:=by omega
  have hka:=nU c q EW ([.cells (c.enc.map .d),.cells (c.enc.map .d),.map (dmap ds),.map (W5 (ss.map (·.1)) 0),.cells (c.enc.map .d++[.map 2,.map 3,C9 2 L3 ss]),.cells (U8 c)]) rfl
  repeat' (first|refine ixs (i:=q) (len:=8) EW ?_|refine WV hka rfl ?_|refine soB (cs:=P4 c q) (id:=6) hbk (h2:= ?_)|refine gx ?_|fail)
  refine Ex.N5 (fun k T H=>∃ (i g:Nat) (ds:List L0) (ss:List eU) (w0 w1 w2 w3 w4 w6 w7 oE mM Ol VI VJ:j3),T=[w0,w1,w2,w3,w4,.ptr 4 0,w6,w7,.d (num g),.ptr 6 0,oE,mM,Ol,VI,VJ,.B6 5 3 0 8,.d (num (8:Nat)),.d (num q),.d (num (cnt c q)),.d (num i)]/\H=[.cells (c.enc.map .d),.cells (c.enc.map .d),.map (dmap ds),.map (W5 (ss.map (·.1)) 0),.cells (c.enc.map .d++[.map 2,.map 3,C9 2 L3 ss]),.cells (U8 c),.cells (P4 c q)]/\i+k=cnt c q/\g=S6 c q+i/\ST g ds ss/\kL c g/\O5 c=bY c (c.names.length - g) g) (by rintro _ _ _ ⟨_,_,_,_,_,_,_,_,_,_,_,_,_,_,_,_,_,rfl,_⟩;rfl) ?_ (k:=cnt c q) ⟨0,g,ds,ss,_,_,_,_,_,_,_,_,_,_,_,_,rfl,rfl,by simp,by omega,hst,hok,hch⟩;clear hst hok hch hka;rintro k2 _ _ ⟨i,g,ds,ss,w0,w1,w2,w3,w4,w6,w7,oE,mM,Ol,VI,VJ,rfl,rfl,hk2,hg2,hst,hok,hch⟩;have hol:=NI c EW;have hnl:c.names.length<=8000:=by simp [y4.names];omega
  refine Ex.nT ?_;refine Ex.seq ?_;refine tb (F3 i (cnt c q)) (fun g3=> ?_) (fun g3=> ?_)
  .have g4:=C6 g3
   have QB:=yA c ds ss;have XH:=si c ds ss;subst hg2;obtain ⟨dz,sz,hz,QH⟩:=hstep q i ds ss EW (by omega) sR hok hst;unfold HH at QH QB XH;obtain ⟨N,hN⟩:∃ N,c.names.length - (S6 c q+i)=N+1:=⟨c.names.length - (S6 c q+i) - 1,by omega⟩;rw [hN,bY] at hch;have hfp:=GS EW;refine gr ?_;have hs5:D8 ([.cells (c.enc.map .d),.cells (c.enc.map .d),.map (dmap ds),.map (W5 (ss.map (·.1)) 0),.cells (c.enc.map j3.d++[.map 2,.map 3,C9 2 L3 ss]),.cells (U8 c),.cells (P4 c q)]) 0 5=5:=tL (H:=[.cells (c.enc.map .d),.cells (c.enc.map .d),.map (dmap ds),.map (W5 (ss.map (·.1)) 0),.cells (c.enc.map j3.d++[.map 2,.map 3,C9 2 L3 ss]),.cells (U8 c),.cells (P4 c q)]) XH;refine cv0 (gI:=hfp.1) (hm:=hfp.2) QH rfl QB (iq QB) rfl (mK:=by show F2.mk 0 0 5 (D8 _ 0 5)=lW;rw [hs5];rfl) (h2:= ?_);refine gr ?_;refine tb (!u0 (P9 c (S6 c q+i)) 0) (fun g5=> ?_) (fun g5=> ?_)
   .have e1:O5 c=(((S6 c q+i:Nat):Int),P9 c (S6 c q+i)):=by rw [hch,g5];rfl
    have e2:u0 (P9 c (S6 c q+i)) 0=false:=by simpa using g5
    refine gr ?_;exact ⟨_,_,rfl,⟨_,rfl⟩,fun _=>by rw [e1];rfl,fun h=>by rw [e1] at h;simp only [e2] at h;cases h⟩
   .have e2:P9 c (S6 c q+i)=0:=bz (by simpa using g5)
    rw [g5,if_neg (by simp)] at hch;have ai2 :=hz e2;refine gr ?_;refine ⟨k2 - 1,by omega,i+1,S6 c q+i+1,dz,sz,_,_,_,_,_,_,_,_,_,_,_,_,rfl,rfl,by omega,by omega,ai2,fun m hm=> ?_,?_⟩
    .rcases s5 m (S6 c q+i) with h|h
     .exact hok m h
     .obtain rfl:m=S6 c q+i:=by omega
      exact e2
    .have:c.names.length - (S6 c q+i+1)=N:=by omega
     rw [this];exact hch
  .have g4:=C5 g3
   refine gr ?_;refine ⟨k - 1,by omega,_,_,R8 ?_ ?_,q+1,g,ds,ss,rfl,rfl,by omega,?_,hst,hok,hch⟩
   .exact k9 rfl
   .exact Ei c ds ss
   .simp only [S6];omega
 have g2:=C5 g1;obtain rfl:q=8:=by omega
 rw [Ag] at hg;subst hg;rw [Nat.sub_self] at hch;obtain ⟨rfl,rfl⟩:=ag1 ds ss hst;refine gr ?_;have e1:O5 c=(0,0):=hch;exact ⟨_,_,rfl,⟨_,rfl⟩,fun h=>by rw [e1] at h;simp [o9] at h,fun _=>⟨rfl,rfl⟩⟩
end Go.Proofs.YtibjocmpkoepoaaGreat


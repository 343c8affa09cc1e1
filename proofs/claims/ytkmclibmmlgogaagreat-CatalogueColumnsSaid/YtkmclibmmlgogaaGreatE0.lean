/- Texts D28 D29 D30 (made short by a program) -/
import Derived.Test.YtkmclibmmlgogaaGreatD8
import Derived.Test.YtkmclibmmlgogaaGreatD5
set_option linter.unusedVariables false
set_option linter.unusedSimpArgs false
open Bool renaming eq_false_or_eq_true → y5, false_eq_true → b7
open List renaming drop_of_length_le → m7, length_append → C1, take_of_length_le → s6
namespace Go.Proofs.YtkmclibmmlgogaaGreat
open Go.u7 Go.u7.S
attribute [local irreducible] Rx Ry Rn Ex Pf
def vw' (v:Vw):b6:= .agg (v.enc.map .d)
def gf (v:Vw):Bool :=
 if o8 v.kind 2 then !I9 v.right []&&o8 v.on.length 0&&o8 v.wh.length 0&&o8 v.items.length 0&&o8 v.B3.length 0&& !v.distinct
 else if (C2 0 v.on.length&&I9 v.right [])||C2 8 v.on.length then false
 else if o8 v.kind 0&&(o8 v.items.length 0||C2 0 v.B3.length) then false
 else if o8 v.kind 1&&(o8 v.B3.length 0||v.distinct) then false
 else X4 (v.items.length+v.B3.length) 8
set_option maxHeartbeats 8000000 in
theorem Sn (v:Vw)(h0:v.items.length<=1000)(h1:v.B3.length<=1000):Pf A 116 [vw' v] (.d (.bool (gf v))):=by
 refine Pf.run [vw' v,.any,.any] rfl rfl rfl rfl ?_;refine gr ?_;refine tb (o8 v.kind 2) (fun g1=> ?_) (fun g1=> ?_)
 ·repeat' (first|refine gx ?_|refine fk (h1:=fun hw=> ?_) (h2:=fun hw=> ?_)|refine M8 (h1:=fun hw=> ?_) (h2:=fun hw=> ?_)|refine Ex.J6 ?_|refine Ex.J8 ?_|refine Ex.cond rfl (fun ht=> ?_) (fun ht=> ?_)|refine Ex.test (Rn.text ?_)|refine Ex.test (Rn.draw ?_)|refine ⟨_,rfl,fun ht=> ?_,fun ht=> ?_⟩|refine ⟨_,rfl,?_⟩|fail)
  all_goals unfold gf
  all_goals rw [g1]
  all_goals simp [*,b9]
 refine gr ?_;refine tb ((C2 0 v.on.length&&I9 v.right [])||C2 8 v.on.length) (fun g2=> ?_) (fun g2=> ?_)
 ·refine gr ?_
  exact ⟨_,rfl,by unfold gf;rw [g1,g2];rfl⟩
 refine gr ?_;refine tb (o8 v.kind 0&&(o8 v.items.length 0||C2 0 v.B3.length)) (fun g3=> ?_) (fun g3=> ?_)
 ·refine gr ?_
  exact ⟨_,rfl,by unfold gf;rw [g1,g2,g3];rfl⟩
 refine gr ?_;refine tb (o8 v.kind 1&&(o8 v.B3.length 0||v.distinct)) (fun g4=> ?_) (fun g4=> ?_)
 ·refine gr ?_
  exact ⟨_,rfl,by unfold gf;rw [g1,g2,g3,g4];rfl⟩
 refine gr ?_;exact ⟨_,rfl,by unfold gf;rw [g1,g2,g3,g4];rfl⟩
theorem nS {A:Go.u7.Prog}{l:F9}{b:Nat}{dr:Bool}{j4 ops:List n8}{T:List b6}{H:o6}{n:Nat}{rl:List b6}{n5:List u7.Touch}{Q:List b6->o6->List b6->Prop}{α:Type}{enc:α->List u7.Data}{xs:List α}{neg:Bool}{x:r8}{u:List Nat}
  (h0:0<xs.length) (h2:Ry A l b dr j4 ops T H (n+1) (.d (.bool neg)::rl) n5 Q) (hx:rq T n rl x= .d (y7 enc xs):=by rfl):Ry A l b dr j4 (⟨.Bl neg x,none,none,u⟩::ops) T H n rl n5 Q :=
 Ry.pure (rs:=[]) rfl (by simp [k9,hx,y7,h0]) h2
theorem Sq (xs:List C7)(h0:0<xs.length)(h1:xs.length<=100000):Pf A 118 [.d (y7 (fun s=>[.str s]) xs)] (A5 1 (fun s=>[.str s]) xs):=by
 refine Pf.run [.d (y7 (fun s=>[.str s]) xs),.any] rfl rfl rfl rfl ?_;refine gr ?_;refine tB (false) ?_ (fun h2=> ?_) (fun h2=> ?_)
 ·repeat' (first|refine nS h0 ?_|refine gx ?_|refine fk (h1:=fun hw=> ?_) (h2:=fun hw=> ?_)|refine M8 (h1:=fun hw=> ?_) (h2:=fun hw=> ?_)|refine ⟨rfl,rfl,_,rfl,?_⟩|refine ⟨rfl,rfl⟩|fail)
  all_goals exact cc
 ·cases h2
 refine gr ?_;exact ⟨_,rfl,rfl⟩
theorem Sr (xs:List Int)(h0:0<xs.length)(h1:xs.length<=100000):Pf A 119 [.d (ints xs)] (A5 1 (fun n=>[num n]) xs):=by
 refine Pf.run [.d (ints xs),.any] rfl rfl rfl rfl ?_;refine gr ?_;refine tB (false) ?_ (fun h2=> ?_) (fun h2=> ?_)
 ·repeat' (first|refine nS h0 ?_|refine gx ?_|refine fk (h1:=fun hw=> ?_) (h2:=fun hw=> ?_)|refine M8 (h1:=fun hw=> ?_) (h2:=fun hw=> ?_)|refine ⟨rfl,rfl,_,rfl,?_⟩|refine ⟨rfl,rfl⟩|fail)
  all_goals exact cc
 ·cases h2
 refine gr ?_;exact ⟨_,rfl,rfl⟩
theorem YR (n:Nat)(h:n<=1000000)(l:F9):Pm A 172 [.I5,.d (num n)] [] l (.own 1 0 []) []:=by
 refine ⟨1,fun k hk=> ?_⟩;obtain ⟨k,rfl⟩:∃ j,k=j+1:=⟨k - 1,by omega⟩;have h1:A.ga 172=some vZ:=rfl;simp only [call,h1,vZ,num];rw [if_pos (by omega)]
def CF (l:List Int):List u7.Data:=[ints l]
set_option maxHeartbeats 4000000 in
theorem Sw (xss:List (List Int))(h0:xss.length<=100)(h1:∀ i,i<xss.length->(nth xss i).length<=10000):Pf A 152 [.d (y7 CF xss)] (.d (ints xss.flatten)):=by
 refine Pf.run [.d (y7 CF xss),.any,.any,.any,.any,.any,.any,.any,.any,.any,.any,.any] rfl rfl rfl rfl ?_;refine gr ?_;refine Ex.I7 (fun k T H=>∃ (i m:Nat) (w1 w3 w4 w5 w9 gm ep:b6),T=[.d (y7 CF xss),w1,.d (num m),w3,w4,w5,.d (y7 CF xss),.d (num xss.length),.d (num i),w9,gm,ep]/\H=[]/\i+k=xss.length/\m<=i * 10000) (by rintro _ _ _ ⟨_,_,_,_,_,_,_,_,_,_,rfl,_⟩;rfl) ?_ (k:=xss.length) ⟨0,0,_,_,_,_,_,_,_,rfl,rfl,by simp,by simp⟩;rintro k _ _ ⟨i,m,w1,w3,w4,w5,w9,gm,ep,rfl,rfl,hk,hm⟩;refine Ex.nT ?_;refine Ex.seq ?_;refine tb (C2 i xss.length) (fun h2=> ?_) (fun h2=> ?_)
 ·have h3:=z6 h2
  have h4:=h1 i (by omega);have h5:m<=1000000:=by omega
  refine gr ?_;refine tb (false) (fun h6=> ?_) (fun h6=> ?_)
  ·cases h6
  refine gr ?_;exact ⟨k - 1,by omega,i+1,m+(nth xss i).length,_,_,_,_,_,_,_,rfl,rfl,by omega,by omega⟩
 have h3:=z8 h2;have h5:m<=1000000:=by omega
 have p1:=YR m h5;clear h2 hm
 repeat' (first|refine c0 (p1 _) rfl (h2:= ?_)|refine gx ?_|fail)
 refine Ex.I7 (fun k T H=>∃ (i:Nat) (acc:List Int) (w0 w1 w2 w3 w5 w6 w7 w8:b6),T=[w0,w1,w2,w3,A5 1 (fun n=>[num n]) acc,w5,w6,w7,w8,.d (y7 CF xss),.d (num xss.length),.d (num i)]/\H=[]/\i+k=xss.length/\acc.length<=i * 10000/\xss.flatten=acc++(xss.drop i).flatten) (by rintro _ _ _ ⟨_,_,_,_,_,_,_,_,_,_,_,rfl,_⟩;rfl) ?_ (k:=xss.length) ⟨0,[],_,_,_,_,_,_,_,_,rfl,rfl,by simp,by simp,by simp⟩;rintro k _ _ ⟨i,acc,w0,w1,w2,w3,w5,w6,w7,w8,rfl,rfl,hk,hl,hacc⟩;refine Ex.nT ?_;refine Ex.seq ?_;refine tb (C2 i xss.length) (fun h2=> ?_) (fun h2=> ?_)
 ·have h6:=z6 h2
  have h7:=h1 i (by omega);rw [A4 (by omega)] at hacc;have h8:acc.length<=1000000:=by omega
  refine gr ?_;exact ⟨k - 1,by omega,i+1,acc++nth xss i,_,_,_,_,_,_,_,_,rfl,rfl,by omega,by simp;omega,by rw [hacc];simp⟩
 ·have h6:=z8 h2
  rw [m7 (by omega)] at hacc;refine gr ?_;exact ⟨_,rfl,by rw [hacc];simp [b9,ints,y7]⟩
def agr (a:yA):b6:= .agg (a.enc.map .d)
def aY (ty:List Int)(a:yA):Int×Int :=
 if o8 a.func 0 then (if C2 0 a.expr.length then (0,1) else (1,0))
 else if o8 a.func 1||o8 a.func 2||o8 a.func 3||o8 a.func 4 then (if !o8 (E4 a.expr ty).2 0 then (0,(E4 a.expr ty).2) else if o8 a.func 1&& !o8 (E4 a.expr ty).1 1 then (0,5) else ((E4 a.expr ty).1,0))
 else (0,1)
set_option maxHeartbeats 8000000 in
theorem Sx (ty:List Int)(a:yA)(h0:a.expr.length<=1000)(h1:ty.length<=100000):Pf A 157 [agr a,.d (ints ty)] (pair (aY ty a)):=by
 have p1:=DA a.expr ty h0 h1;unfold pair at p1;refine Pf.run [agr a,.d (ints ty),.any,.any,.any,.any,.any,.any,.any] rfl rfl rfl rfl ?_
 repeat' (first|refine cl (p1) ?_|refine gx ?_|refine fk (h1:=fun hw=> ?_) (h2:=fun hw=> ?_)|refine M8 (h1:=fun hw=> ?_) (h2:=fun hw=> ?_)|refine Ex.J6 ?_|refine Ex.J8 ?_|refine Ex.cond rfl (fun ht=> ?_) (fun ht=> ?_)|refine Ex.test (Rn.text ?_)|refine Ex.test (Rn.draw ?_)|refine ⟨_,rfl,fun ht=> ?_,fun ht=> ?_⟩|refine ⟨_,rfl,?_⟩|fail)
 all_goals unfold aY pair
 all_goals first|(simp [*,b9,b6.F2,num];done)|(simp_all [b9,b6.F2,num];done)
def l9:F9:=⟨0,0,9,9⟩
def MG:F9:=⟨0,9,9,9⟩
def jg (nm:List C7)(ty:List Int):List b6:=[A5 1 encS nm,A5 1 (fun n=>[num n]) ty]
theorem Nl (a0 a1 a2 a3 a4 a5 a7:u5)(ty:List Int)(x:FK)(h0:x.expr.length<=1000)(h1:ty.length<=100000) :
  Pm A 155 [.ptr 8 0,.ptr 6 0] [a0,a1,a2,a3,a4,a5,.cells [.d (ints ty)],a7,.cells (x.enc.map .d)] MG (pair (E4 x.expr ty)) [a0,a1,a2,a3,a4,a5,.cells [.d (ints ty)],a7,.cells (x.enc.map .d)]:=by
 have p1:=DA x.expr ty h0 h1;unfold pair at *
 suffices h:Pq A 155 [.ptr 8 0,.ptr 6 0] [a0,a1,a2,a3,a4,a5,.cells [.d (ints ty)],a7,.cells (x.enc.map .d)] MG fun v H1=>v= .tuple [.d (num (E4 x.expr ty).1),.d (num (E4 x.expr ty).2)]/\H1=[a0,a1,a2,a3,a4,a5,.cells [.d (ints ty)],a7,.cells (x.enc.map .d)] by
  obtain ⟨v,H1,⟨rfl,rfl⟩,h⟩:=h;exact h
 refine Pq.run (b:=9) [.ptr 8 0,.ptr 6 0,.any,.any] rfl rfl rfl rfl rfl ?_
 repeat' (first|refine cl (p1) ?_|refine gx ?_|fail)
 exact ⟨_,_,rfl,rfl,rfl⟩
theorem Nn (a0 a1 a2 a3 a4 a5 a7:u5)(ty:List Int)(x:yA)(h0:x.expr.length<=1000)(h1:ty.length<=100000) :
  Pm A 156 [.ptr 8 0,.ptr 6 0] [a0,a1,a2,a3,a4,a5,.cells [.d (ints ty)],a7,.cells (x.enc.map .d)] MG (pair (aY ty x)) [a0,a1,a2,a3,a4,a5,.cells [.d (ints ty)],a7,.cells (x.enc.map .d)]:=by
 have p1:=Sx ty x h0 h1;unfold pair at *
 suffices h:Pq A 156 [.ptr 8 0,.ptr 6 0] [a0,a1,a2,a3,a4,a5,.cells [.d (ints ty)],a7,.cells (x.enc.map .d)] MG fun v H1=>v= .tuple [.d (num (aY ty x).1),.d (num (aY ty x).2)]/\H1=[a0,a1,a2,a3,a4,a5,.cells [.d (ints ty)],a7,.cells (x.enc.map .d)] by
  obtain ⟨v,H1,⟨rfl,rfl⟩,h⟩:=h;exact h
 refine Pq.run (b:=9) [.ptr 8 0,.ptr 6 0,.any,.any] rfl rfl rfl rfl rfl ?_
 repeat' (first|refine cl (p1) ?_|refine gx ?_|fail)
 exact ⟨_,_,rfl,rfl,rfl⟩
def Y3 (nm:List C7)(s:C7)(r:Int×Int):Int:=if !D3 s then 3 else if nm.any fun y=>I9 y s then 4 else if !o8 r.2 0 then r.2 else 0
def iP (nm:List C7)(s:C7)(r:Int×Int):List C7:=if o8 (Y3 nm s r) 0 then nm++[s] else nm
def iQ (nm:List C7)(ty:List Int)(s:C7)(r:Int×Int):List Int:=if o8 (Y3 nm s r) 0 then ty++[r.1] else ty
set_option maxHeartbeats 8000000 in
theorem DC (f:FuncId)(hf1:A.prom f=false)(hf2:A.mode f=1)(a0 a1 a2 a3 a4 a5:u5)(ty:List Int)(nm:List C7)(tys:List Int)(cs:List u7.Data)(s:C7)(r:Int×Int)(hn:nm.length<=10000)(ht:tys.length<=10000)
  (hc:∀ a7,Pm A f [.ptr 8 0,.ptr 6 0] [a0,a1,a2,a3,a4,a5,.cells [.d (ints ty)],a7,.cells (cs.map .d)] MG (pair r) [a0,a1,a2,a3,a4,a5,.cells [.d (ints ty)],a7,.cells (cs.map .d)]) :
  Pm A 154 [.ptr 7 0,.d (.str s),.func f [] [.ptr 8 0,.ptr 6 0]] [a0,a1,a2,a3,a4,a5,.cells [.d (ints ty)],.cells (jg nm tys),.cells (cs.map .d)] l9 (.d (num (Y3 nm s r)))
   [a0,a1,a2,a3,a4,a5,.cells [.d (ints ty)],.cells (jg (iP nm s r) (iQ nm tys s r)),.cells (cs.map .d)]:=by
 have p1:=hc (.cells (jg nm tys));have p2:=Ir nm s (by omega);unfold pair at p1
 suffices h:Pq A 154 [.ptr 7 0,.d (.str s),.func f [] [.ptr 8 0,.ptr 6 0]] [a0,a1,a2,a3,a4,a5,.cells [.d (ints ty)],.cells (jg nm tys),.cells (cs.map .d)] l9 fun v H1=>v= .d (num (Y3 nm s r))/\H1=[a0,a1,a2,a3,a4,a5,.cells [.d (ints ty)],.cells (jg (iP nm s r) (iQ nm tys s r)),.cells (cs.map .d)] by
  obtain ⟨v,H1,⟨rfl,rfl⟩,h⟩:=h;exact h
 have same:∀ e,Y3 nm s r=e->o8 e 0=false->iP nm s r=nm/\iQ nm tys s r=tys:=fun e h1 h2=>by unfold iP iQ;rw [h1,h2];exact ⟨rfl,rfl⟩
 have VL:roomFor (nm.length+1) 16=true:=by simp only [roomFor,decide_eq_true_eq];omega
 have Sf:roomFor (tys.length+1) 8=true:=by simp only [roomFor,decide_eq_true_eq];omega
 refine Pq.run (b:=9) [.ptr 7 0,.d (.str s),.func f [] [.ptr 8 0,.ptr 6 0],.any,.any,.any] rfl rfl rfl rfl rfl ?_;refine gr ?_;refine tB (!D3 s) ?_ (fun h1=> ?_) (fun h1=> ?_)
 ·repeat' (first|refine cl (zj _) ?_|refine gx ?_|refine fk (h1:=fun hw=> ?_) (h2:=fun hw=> ?_)|refine M8 (h1:=fun hw=> ?_) (h2:=fun hw=> ?_)|refine ⟨rfl,rfl,_,rfl,?_⟩|refine ⟨rfl,rfl⟩|fail)
  all_goals exact cc
 ·have e1:Y3 nm s r=3:=by unfold Y3;rw [h1];rfl
  have e2:=same 3 e1 (by simp [j5]);refine gr ?_;exact ⟨_,_,rfl,by rw [e1];rfl,by rw [e2.1,e2.2];rfl⟩
 unfold jg;refine gr ?_;refine tB (nm.any fun y=>I9 y s) ?_ (fun h2=> ?_) (fun h2=> ?_)
 ·repeat' (first|refine cl (p2) ?_|refine gx ?_|refine fk (h1:=fun hw=> ?_) (h2:=fun hw=> ?_)|refine M8 (h1:=fun hw=> ?_) (h2:=fun hw=> ?_)|refine ⟨rfl,rfl,_,rfl,?_⟩|refine ⟨rfl,rfl⟩|fail)
  all_goals exact cc
 ·have e1:Y3 nm s r=4:=by unfold Y3;rw [h1,h2];rfl
  have e2:=same 4 e1 (by simp [j5]);refine gr ?_;exact ⟨_,_,rfl,by rw [e1];rfl,by rw [e2.1,e2.2];rfl⟩
 unfold jg at p1
 repeat' (first|refine WY (dc:=hf1) (hm:=hf2) p1 rfl ?_|refine gx ?_|fail)
 refine tb (!o8 r.2 0) (fun h3=> ?_) (fun h3=> ?_)
 ·have e1:Y3 nm s r=r.2:=by unfold Y3;rw [h1,h2,h3];rfl
  have e2:=same _ e1 (by simpa using h3);refine gr ?_;exact ⟨_,_,rfl,by rw [e1];rfl,by rw [e2.1,e2.2];rfl⟩
 have e1:Y3 nm s r=0:=by unfold Y3;rw [h1,h2,h3];rfl
 have e2:iP nm s r=nm++[s]:=by unfold iP;rw [e1];simp [j5]
 have e3:iQ nm tys s r=tys++[r.1]:=by unfold iQ;rw [e1];simp [j5]
 refine gr ?_;refine ZU (a:=s) (xs:=nm) (enc:=encS) VL rfl (h2:= ?_);refine gr ?_;refine ZU (a:=r.1) (xs:=tys) (enc:=fun n=>[num n]) Sf rfl (h2:= ?_)
 repeat' (first|refine Zq (h2:= ?_)|refine gx ?_|fail)
 exact ⟨_,_,rfl,by rw [e1];rfl,by rw [e2,e3];rfl⟩
theorem Ex.IM {A:Go.u7.Prog}{l:F9}{b:Nat}{c:p5}{st:St}{R:D2->St->Prop}{go:St->Prop}(P:St->Prop)(h1:Ex A l b c st (rJ R P))(h2:∀ s,P s->go s):Ex A l b c st (rJ R go):=by
 refine h1.mono fun x s h=> ?_
 cases x with
 |normal=>exact h2 s h
 |exit i=>exact h
 |ret=>exact h
def W1 (v:Vw)(L R:List Int):Int :=
 if !o8 (G6 L R v.on) 0 then G6 L R v.on
 else if C2 0 v.wh.length&& !o8 (E4 v.wh (L++R)).2 0 then (E4 v.wh (L++R)).2
 else if C2 0 v.wh.length&& !o8 (E4 v.wh (L++R)).1 1 then 5
 else U4 (L++R) [] (W9 v)
def kE (ss:List W5)(v:Vw)(L R:List Int):List W5:=if o8 (W1 v L R) 0 then ss++[(v.name,(W9 v).map FA.name,V2 v (L++R))] else ss
theorem kS {ty:List Int}{seen:List C7}{x:FK}{r:List FA}:U4 ty seen (⟨false,x.name, -1,x.expr⟩::r)=if !o8 (Y3 seen x.name (E4 x.expr ty)) 0 then Y3 seen x.name (E4 x.expr ty) else U4 ty (seen++[x.name]) r:=by
 have h3:o8 3 0=false:=by simp [j5]
 have h4:o8 4 0=false:=by simp [j5]
 have h0:o8 0 0=true:=by simp [j5]
 simp only [U4,Y3,Bool.false_and,b7,if_false]
 rcases y5 (D3 x.name) with c1|c1
 ·rcases y5 (seen.any fun y=>I9 y x.name) with c2|c2
  ·simp only [c1,c2,Bool.not_true,b7,if_false,if_true,h4,Bool.not_false]
  ·rcases y5 (o8 (E4 x.expr ty).2 0) with c3|c3
   ·simp only [c1,c2,c3,Bool.not_true,b7,if_false,h0]
   ·simp only [c1,c2,c3,Bool.not_true,Bool.not_false,b7,if_false,if_true]
 ·simp only [c1,Bool.not_false,if_true,h3]
theorem nB {ty:List Int}{seen:List C7}{x:yA}{r:List FA}:U4 ty seen (⟨true,x.name,x.func,x.expr⟩::r)=if !o8 (Y3 seen x.name (aY ty x)) 0 then Y3 seen x.name (aY ty x) else U4 ty (seen++[x.name]) r:=by
 have h1:o8 1 0=false:=by simp [j5]
 have h3:o8 3 0=false:=by simp [j5]
 have h4:o8 4 0=false:=by simp [j5]
 have h6:o8 5 0=false:=by simp [j5]
 have h0:o8 0 0=true:=by simp [j5]
 simp only [U4,Y3,Bool.true_and]
 rcases y5 (D3 x.name) with c1|c1
 ·rcases y5 (seen.any fun y=>I9 y x.name) with c2|c2
  ·simp only [c1,c2,Bool.not_true,b7,if_false,if_true,h4,Bool.not_false]
  ·simp only [c1,c2,Bool.not_true,b7,if_false,aY]
   rcases y5 (o8 x.func 0) with f0|f0
   ·have hw:n7 x.func 0 4=true:=by have:=X2 f0;simp [n7,o5];omega
    rcases y5 (C2 0 x.expr.length) with c5|c5
    ·simp only [f0,hw,c5,Bool.not_true,Bool.and_self,Bool.or_true,if_true,h1,Bool.not_false]
    ·simp only [f0,hw,c5,Bool.not_true,Bool.and_false,Bool.or_self,b7,if_false,if_true,h0]
   ·rcases y5 (n7 x.func 0 4) with hw|hw
    ·have hf:(o8 x.func 1||o8 x.func 2||o8 x.func 3||o8 x.func 4)=true:=by
      have:=sM f0;simp [n7,o5] at hw;simp [j5];omega
     simp only [f0,hw,hf,Bool.not_true,Bool.false_and,Bool.or_self,b7,if_false,if_true]
     rcases y5 (o8 (E4 x.expr ty).2 0) with c5|c5
     ·rcases y5 (o8 x.func 1&& !o8 (E4 x.expr ty).1 1) with c6|c6
      ·simp only [c5,c6,Bool.not_true,Bool.not_false,b7,if_false,if_true,h6]
      ·simp only [c5,c6,Bool.not_true,b7,if_false,h0]
     ·simp only [c5,Bool.not_false,if_true]
    ·have hf:(o8 x.func 1||o8 x.func 2||o8 x.func 3||o8 x.func 4)=false:=by
      simp [n7,o5] at hw;simp [j5];omega
     simp only [f0,hw,hf,Bool.not_false,Bool.true_or,b7,if_false,if_true,h1]
 ·simp only [c1,Bool.not_false,if_true,h3]
theorem Hz {ty:List Int}{x:yA}(h:o8 (aY ty x).2 0=true):(aY ty x).1=oO ty x:=by
 have h1:o8 1 0=false:=by simp [j5]
 have h6:o8 5 0=false:=by simp [j5]
 unfold aY at h ⊢;unfold oO;cases f0:o8 x.func 0 with
 |true =>
  rw [f0] at h;cases h5:C2 0 x.expr.length with
  |true=>rw [h5] at h;simp [h1] at h
  |false=>simp
 |false =>
  rw [f0] at h;simp only [b7,if_false,Bool.false_or] at h ⊢;cases h2:(o8 x.func 1||o8 x.func 2||o8 x.func 3||o8 x.func 4) with
  |false=>rw [h2] at h;simp [h1] at h
  |true =>
   rw [h2] at h;simp only [if_true] at h ⊢;cases h3:o8 (E4 x.expr ty).2 0 with
   |false=>rw [h3] at h;simp [h3] at h
   |true =>
    rw [h3] at h;simp only [Bool.not_true,b7,if_false] at h ⊢;cases f1:o8 x.func 1 with
    |false=>simp
    |true =>
     rw [f1] at h;cases h4:o8 (E4 x.expr ty).1 1 with
     |false=>rw [h4] at h;simp [h6] at h
     |true=>simpa using X2 h4
set_option maxHeartbeats 32000000 in
theorem Ni (c:m9)(ds:List C7)(ss:List W5)(v:Vw)(L R:List Int)(hL:L.length<=5000)(hR:R.length<=5000)(h0:v.on.length<=1000)(h1:v.wh.length<=1000)(h2:v.items.length<=1000)(h3:v.B3.length<=1000)(h4:∀ i,i<v.items.length->(nth v.items i).expr.length<=1000)(h5:∀ i,i<v.B3.length->(nth v.B3 i).expr.length<=1000)
  (hs:((ss.map (·.1)).any fun y=>I9 y v.name)=false) (Da:ss.length<=1000):Pm A 120 [.ptr 4 0,vw v,.d (ints L),.d (ints R)] (HH c ds ss) lW (.d (num (W1 v L R))) (HH c ds (kE ss v L R)):=by
 suffices h:Pq A 120 [.ptr 4 0,vw v,.d (ints L),.d (ints R)] (HH c ds ss) lW fun w H1=>w= .d (num (W1 v L R))/\H1=HH c ds (kE ss v L R) by
  obtain ⟨w,H1,⟨rfl,rfl⟩,h⟩:=h;exact h
 have same:∀ e,W1 v L R=e->o8 e 0=false->kE ss v L R=ss:=fun e g1 g2=>by unfold kE;rw [g1,g2];rfl
 have vX:=wm c ds ss v.name ((W9 v).map FA.name) (V2 v (L++R)) hs Da;have MY:=Sw [L,R] (by simp) (by
  intro i hi
  match i,hi with
  |0,_=>rw [S7];omega
  |1,_=>rw [lI,S7];omega)
 have pW:=DA v.wh (L++R) h1 (by simp;omega);unfold pair at pW;have hfl:[L,R].flatten=L++R:=by simp
 rw [hfl] at MY;have Xg:(L++R).length<=100000:=by simp;omega
 unfold HH at *
 refine Pq.run (b:=5) [.ptr 4 0,vw v,.d (ints L),.d (ints R),.any,.any,.any,.any,.any,.any,.any,.any,.any,.any,.any,.any,.any,.any,.any,.any,.any,.any,.any,.any] rfl rfl rfl rfl rfl ?_;refine gr ?_;refine Ex.ff (fun k T H=>∃ (i:Nat),T=[.ptr 4 0,.any,.d (ints L),.d (ints R),.ptr 5 0,.any,.any,.any,.any,.any,.any,.any,.any,.any,.any,.d (y7 (fun p=>[num p.1,num p.2]) v.on),.d (num v.on.length),.d (num i),.any,.any,.any,.any,.any,.any]/\H=[.cells (c.enc.map .d),.cells (c.enc.map .d),.map (dmap ds),.map (R1 (ss.map (·.1)) 0),.cells (c.enc.map .d++[.map 2,.map 3,A5 2 E9 ss]),.cells (v.enc.map .d)]/\i+k=v.on.length/\G6 L R v.on=G6 L R (v.on.drop i)) ?_ (k:=v.on.length) ⟨0,rfl,rfl,by simp,by simp⟩;rintro k _ _ ⟨i,rfl,rfl,hk,hi⟩;refine Ex.seq ?_;refine tb (C2 i v.on.length) (fun g1=> ?_) (fun g1=> ?_)
 ·have g2:=z6 g1
  rw [A4 (by omega)] at hi;refine gr ?_;refine tB (!n7 (nth v.on i).1 0 (L.length - 1)|| !n7 (nth v.on i).2 0 (R.length - 1)) ?_ (fun g3=> ?_) (fun g3=> ?_)
  ·repeat' (first|refine cl (bu _ _ _) ?_|refine gx ?_|refine fk (h1:=fun hw=> ?_) (h2:=fun hw=> ?_)|refine M8 (h1:=fun hw=> ?_) (h2:=fun hw=> ?_)|refine ⟨rfl,rfl,_,rfl,?_⟩|refine ⟨rfl,rfl⟩|fail)
   all_goals exact cc
  ·have e1:G6 L R v.on=3:=by rw [hi,G6,g3];rfl
   have e2:W1 v L R=3:=by unfold W1;rw [e1];simp [j5]
   refine gr ?_;exact ⟨_,_,rfl,by rw [e2];rfl,by rw [same 3 e2 (by simp [j5])];rfl⟩
  have g4:=g3;simp [n7,o5] at g4;refine gr ?_;refine tb (!o8 (nth L (nth v.on i).1.toNat) (nth R (nth v.on i).2.toNat)) (fun g5=> ?_) (fun g5=> ?_)
  ·have e1:G6 L R v.on=5:=by rw [hi,G6,g3,g5];rfl
   have e2:W1 v L R=5:=by unfold W1;rw [e1];simp [j5]
   refine gr ?_;exact ⟨_,_,rfl,by rw [e2];rfl,by rw [same 5 e2 (by simp [j5])];rfl⟩
  ·refine gr ?_
   exact ⟨k - 1,by omega,_,_,rfl,i+1,rfl,rfl,by omega,by rw [hi,G6,g3,g5];rfl⟩
 have g2:=z8 g1;rw [m7 (by omega)] at hi;have e0:(!o8 (G6 L R v.on) 0)=false:=by rw [hi];simp [G6,j5]
 clear g1 g2 hk hi
 repeat' (first|refine cl (MY) ?_|refine gx ?_|fail)
 refine Ex.IM (fun s=>∃ (w1 w2 w3 w5 w6 w8 w9 gm ep xX Oo Ot Zv Zw Zx Zy Zz ZA ZB ZC ZD:b6),s=⟨[.ptr 4 0,w1,w2,w3,.ptr 5 0,w5,w6,.ptr 6 0,w8,w9,gm,ep,xX,Oo,Ot,Zv,Zw,Zx,Zy,Zz,ZA,ZB,ZC,ZD],[.cells (c.enc.map .d),.cells (c.enc.map .d),.map (dmap ds),.map (R1 (ss.map (·.1)) 0),.cells (c.enc.map .d++[.map 2,.map 3,A5 2 E9 ss]),.cells (v.enc.map .d),.cells [.d (ints (L++R))]]⟩/\W1 v L R=U4 (L++R) [] (W9 v)) ?_ ?_
 ·skip
  refine tb (C2 0 v.wh.length) (fun g6=> ?_) (fun g6=> ?_)
  ·repeat' (first|refine cl (pW) ?_|refine gx ?_|fail)
   refine tb (!o8 (E4 v.wh (L++R)).2 0) (fun g7=> ?_) (fun g7=> ?_)
   ·have e1:W1 v L R=(E4 v.wh (L++R)).2:=by unfold W1;rw [e0,g6,g7];rfl
    refine gr ?_;exact ⟨_,_,rfl,by rw [e1];rfl,by rw [same _ e1 (by simpa using g7)];rfl⟩
   refine gr ?_;refine tb (!o8 (E4 v.wh (L++R)).1 1) (fun g8=> ?_) (fun g8=> ?_)
   ·have e1:W1 v L R=5:=by unfold W1;rw [e0,g6,g7,g8];rfl
    refine gr ?_;exact ⟨_,_,rfl,by rw [e1];rfl,by rw [same 5 e1 (by simp [j5])];rfl⟩
   ·have e1:W1 v L R=U4 (L++R) [] (W9 v):=by unfold W1;rw [e0,g6,g7,g8];rfl
    refine gr ?_;exact ⟨_,_,_,_,_,_,_,_,_,_,_,_,_,_,_,_,_,_,_,_,_,rfl,e1⟩
  ·have e1:W1 v L R=U4 (L++R) [] (W9 v):=by unfold W1;rw [e0,g6];rfl
   refine gr ?_;exact ⟨_,_,_,_,_,_,_,_,_,_,_,_,_,_,_,_,_,_,_,_,_,rfl,e1⟩
 rintro _ ⟨w1,w2,w3,w5,w6,w8,w9,gm,ep,xX,Oo,Ot,Zv,Zw,Zx,Zy,Zz,ZA,ZB,ZC,ZD,rfl,hin⟩;refine gr ?_;refine Ex.ff (fun k T H=>∃ (i:Nat) (nm:List C7) (tys:List Int),T=[.ptr 4 0,.any,.any,.any,.ptr 5 0,.any,.any,.ptr 6 0,.any,.any,.ptr 7 0,.any,.any,.any,.any,.any,.any,.any,.d (y7 FK.enc v.items),.d (num v.items.length),.d (num i),.any,.any,.any]/\H=[.cells (c.enc.map .d),.cells (c.enc.map .d),.map (dmap ds),.map (R1 (ss.map (·.1)) 0),.cells (c.enc.map .d++[.map 2,.map 3,A5 2 E9 ss]),.cells (v.enc.map .d),.cells [.d (ints (L++R))],.cells (jg nm tys)]/\i+k=v.items.length/\nm=(v.items.take i).map FK.name/\tys=(v.items.take i).map (fun x=>(E4 x.expr (L++R)).1)/\W1 v L R=U4 (L++R) nm ((W9 v).drop i)) ?_ (k:=v.items.length) ⟨0,[],[],rfl,rfl,by simp,by simp,by simp,by simpa using hin⟩;rintro k _ _ ⟨i,nm,tys,rfl,rfl,hk,hnm,dy,hi⟩;have VJ:nm.length=i:=by rw [hnm];simp;omega
 have kU:tys.length=i:=by rw [dy];simp;omega
 refine Ex.seq ?_;refine tb (C2 i v.items.length) (fun g1=> ?_) (fun g1=> ?_)
 ·have g2:=z6 g1
  have hel:=eC v;rw [A4 (by omega),mQ v (by omega),kS] at hi;have GQ:=DC 155 rfl rfl (.cells (c.enc.map .d)) (.cells (c.enc.map .d)) (.map (dmap ds)) (.map (R1 (ss.map (·.1)) 0)) (.cells (c.enc.map .d++[.map 2,.map 3,A5 2 E9 ss])) (.cells (v.enc.map .d)) (L++R) nm tys (nth v.items i).enc (nth v.items i).name (E4 (nth v.items i).expr (L++R)) (by omega) (by omega) (fun a7=>Nl (.cells (c.enc.map .d)) (.cells (c.enc.map .d)) (.map (dmap ds)) (.map (R1 (ss.map (·.1)) 0)) (.cells (c.enc.map .d++[.map 2,.map 3,A5 2 E9 ss])) (.cells (v.enc.map .d)) a7 (L++R) (nth v.items i) (h4 i (by omega)) Xg)
  repeat' (first|refine c0 GQ rfl (h2:= ?_)|refine gx ?_|fail)
  refine tb (!o8 (Y3 nm (nth v.items i).name (E4 (nth v.items i).expr (L++R))) 0) (fun g3=> ?_) (fun g3=> ?_)
  ·rw [g3,if_pos rfl] at hi
   refine gr ?_;exact ⟨_,_,rfl,by rw [hi];rfl,by rw [same _ hi (by simpa using g3)];rfl⟩
  ·rw [g3,if_neg (by simp)] at hi
   have e1:o8 (Y3 nm (nth v.items i).name (E4 (nth v.items i).expr (L++R))) 0=true:=by simpa using g3
   have e2:iP nm (nth v.items i).name (E4 (nth v.items i).expr (L++R))=nm++[(nth v.items i).name]:=by unfold iP;rw [e1];rfl
   have e3:iQ nm tys (nth v.items i).name (E4 (nth v.items i).expr (L++R))=tys++[(E4 (nth v.items i).expr (L++R)).1]:=by unfold iQ;rw [e1];rfl
   rw [e2,e3];refine gr ?_;exact ⟨k - 1,by omega,_,_,rfl,i+1,nm++[(nth v.items i).name],tys++[(E4 (nth v.items i).expr (L++R)).1],rfl,rfl,by omega,by rw [I6 (by omega),hnm];simp,by rw [I6 (by omega),dy];simp,hi⟩
 have g2:=z8 g1;rw [s6 (by omega)] at hnm dy;have Kz:i=v.items.length:=by omega
 subst Kz;clear g1 g2 hk;refine gr ?_;refine Ex.ff (fun k T H=>∃ (i:Nat) (pX:List C7) (jZ:List Int),T=[.ptr 4 0,.any,.any,.any,.ptr 5 0,.any,.any,.ptr 6 0,.any,.any,.ptr 7 0,.any,.any,.any,.any,.any,.any,.any,.any,.any,.any,.d (y7 yA.enc v.B3),.d (num v.B3.length),.d (num i)]/\H=[.cells (c.enc.map .d),.cells (c.enc.map .d),.map (dmap ds),.map (R1 (ss.map (·.1)) 0),.cells (c.enc.map .d++[.map 2,.map 3,A5 2 E9 ss]),.cells (v.enc.map .d),.cells [.d (ints (L++R))],.cells (jg pX jZ)]/\i+k=v.B3.length/\pX=nm++(v.B3.take i).map yA.name/\jZ=tys++(v.B3.take i).map (oO (L++R))/\W1 v L R=U4 (L++R) pX ((W9 v).drop (v.items.length+i))) ?_ (k:=v.B3.length) ⟨0,nm,tys,rfl,rfl,by simp,by simp,by simp,hi⟩;clear hi;rintro k _ _ ⟨i,pX,jZ,rfl,rfl,hk,Ba,vD,hi⟩;have hl3:pX.length=v.items.length+i:=by rw [Ba,C1,VJ];simp;omega
 have hl4:jZ.length=v.items.length+i:=by rw [vD,C1,kU];simp;omega
 refine Ex.seq ?_;have hel:=eC v;refine tb (C2 i v.B3.length) (fun g1=> ?_) (fun g1=> ?_)
 ·have g2:=z6 g1
  rw [A4 (by omega),pE v (by omega) (by omega),Nat.add_sub_cancel_left,nB] at hi;have GQ:=DC 156 rfl rfl (.cells (c.enc.map .d)) (.cells (c.enc.map .d)) (.map (dmap ds)) (.map (R1 (ss.map (·.1)) 0)) (.cells (c.enc.map .d++[.map 2,.map 3,A5 2 E9 ss])) (.cells (v.enc.map .d)) (L++R) pX jZ (nth v.B3 i).enc (nth v.B3 i).name (aY (L++R) (nth v.B3 i)) (by omega) (by omega) (fun a7=>Nn (.cells (c.enc.map .d)) (.cells (c.enc.map .d)) (.map (dmap ds)) (.map (R1 (ss.map (·.1)) 0)) (.cells (c.enc.map .d++[.map 2,.map 3,A5 2 E9 ss])) (.cells (v.enc.map .d)) a7 (L++R) (nth v.B3 i) (h5 i (by omega)) Xg)
  repeat' (first|refine c0 GQ rfl (h2:= ?_)|refine gx ?_|fail)
  refine tb (!o8 (Y3 pX (nth v.B3 i).name (aY (L++R) (nth v.B3 i))) 0) (fun g3=> ?_) (fun g3=> ?_)
  ·rw [g3,if_pos rfl] at hi
   refine gr ?_;exact ⟨_,_,rfl,by rw [hi];rfl,by rw [same _ hi (by simpa using g3)];rfl⟩
  ·rw [g3,if_neg (by simp)] at hi
   have e1:o8 (Y3 pX (nth v.B3 i).name (aY (L++R) (nth v.B3 i))) 0=true:=by simpa using g3
   have e2:iP pX (nth v.B3 i).name (aY (L++R) (nth v.B3 i))=pX++[(nth v.B3 i).name]:=by unfold iP;rw [e1];rfl
   have e3:iQ pX jZ (nth v.B3 i).name (aY (L++R) (nth v.B3 i))=jZ++[(aY (L++R) (nth v.B3 i)).1]:=by unfold iQ;rw [e1];rfl
   have e4:o8 (aY (L++R) (nth v.B3 i)).2 0=true:=by
    have e5:=X2 e1;unfold Y3 at e5;cases c1:(!D3 (nth v.B3 i).name) with
    |true=>rw [c1] at e5;simp at e5
    |false =>
     rw [c1] at e5;cases c2:pX.any fun y=>I9 y (nth v.B3 i).name with
     |true=>rw [c2] at e5;simp at e5
     |false =>
      rw [c2] at e5;cases c3:o8 (aY (L++R) (nth v.B3 i)).2 0 with
      |true=>rfl
      |false=>rw [c3] at e5;simp at e5;rw [e5] at c3;simp [j5] at c3
   rw [e2,e3];refine gr ?_;exact ⟨k - 1,by omega,_,_,rfl,i+1,pX++[(nth v.B3 i).name],jZ++[(aY (L++R) (nth v.B3 i)).1],rfl,rfl,by omega,by rw [I6 (by omega),Ba];simp,by rw [I6 (by omega),vD,Hz e4];simp,hi⟩
 ·have g2:=z8 g1
  rw [s6 (by omega)] at Ba vD;rw [m7 (by omega)] at hi;have e1:W1 v L R=0:=hi;have e2:kE ss v L R=ss++[(v.name,(W9 v).map FA.name,V2 v (L++R))]:=by unfold kE;rw [e1];simp [j5]
  have e3:pX=(W9 v).map FA.name:=by rw [Ba,hnm];simp [W9,Function.comp_def]
  have e4:jZ=V2 v (L++R):=by rw [vD,dy];rfl
  rw [e2,e3,e4];refine gr ?_;unfold jg
  repeat' (first|refine c0 vX rfl (h2:= ?_)|refine gx ?_|fail)
  exact ⟨_,_,rfl,by rw [e1];rfl,rfl⟩
end Go.Proofs.YtkmclibmmlgogaaGreat


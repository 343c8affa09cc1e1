import Derived.Test.YtibjocmpkoepoaaGreatD7
import Derived.Test.YtibjocmpkoepoaaGreatD5
set_option linter.all false
open Bool renaming eq_false_or_eq_true → B7, false_eq_true → j4, not_eq_false' → C8, not_eq_true' → o7, or_eq_false_iff → G8
open List renaming cons_append → F8, drop_of_length_le → l6, length_append → k9, nil_append → E0, take_of_length_le → y6
open Nat renaming le_of_ble_eq_true → j5, lt_or_ge → A5
namespace Go.Proofs.YtibjocmpkoepoaaGreat
open Go.A2 Go.A2.S
attribute [local irreducible] Rx Ry Rn Ex Pf
def vw' (v:Vw):c8:= .agg (v.enc.map .d)
def lK (v:Vw):Bool :=
 if s9 v.kind 2 then !O1 v.right []&&s9 v.on.length 0&&s9 v.wh.length 0&&s9 v.items.length 0&&s9 v.D5.length 0&& !v.distinct
 else if (E4 0 v.on.length&&O1 v.right [])||E4 8 v.on.length then false
 else if s9 v.kind 0&&(s9 v.items.length 0||E4 0 v.D5.length) then false
 else if s9 v.kind 1&&(s9 v.D5.length 0||v.distinct) then false
 else bV (v.items.length+v.D5.length) 8
set_option maxHeartbeats 8000000 in
def aX1 (v:Vw)(h0:v.items.length<=1000)(h1:v.D5.length<=1000):Pf A 217 [vw' v] (.d (.bool (lK v))):=by
 refine Pf.run [vw' v,.any,.any] rfl rfl rfl rfl ?_;refine gr ?_;refine tb (s9 v.kind 2) (fun g1=> ?_) (fun g1=> ?_)
 .repeat' (first|refine gx ?_|refine fk (h1:=fun hw=> ?_) (h2:=fun hw=> ?_)|refine U1 (h1:=fun hw=> ?_) (h2:=fun hw=> ?_)|refine Ex.M8 ?_|refine Ex.N6 ?_|refine Ex.cond rfl (fun ht=> ?_) (fun ht=> ?_)|refine Ex.test (Rn.text ?_)|refine Ex.test (Rn.draw ?_)|refine ⟨_,rfl,fun ht=> ?_,fun ht=> ?_⟩|refine ⟨_,rfl,?_⟩|fail)
  all_goals unfold lK
  all_goals rw [g1]
  all_goals simp [*,j3]
 refine gr ?_;refine tb ((E4 0 v.on.length&&O1 v.right [])||E4 8 v.on.length) (fun g2=> ?_) (fun g2=> ?_)
 .refine gr ?_
  exact ⟨_,rfl,by unfold lK;rw [g1,g2];rfl⟩
 refine gr ?_;refine tb (s9 v.kind 0&&(s9 v.items.length 0||E4 0 v.D5.length)) (fun g3=> ?_) (fun g3=> ?_)
 .refine gr ?_
  exact ⟨_,rfl,by unfold lK;rw [g1,g2,g3];rfl⟩
 refine gr ?_;refine tb (s9 v.kind 1&&(s9 v.D5.length 0||v.distinct)) (fun g4=> ?_) (fun g4=> ?_)
 .refine gr ?_
  exact ⟨_,rfl,by unfold lK;rw [g1,g2,g3,g4];rfl⟩
 refine gr ?_;exact ⟨_,rfl,by unfold lK;rw [g1,g2,g3,g4];rfl⟩
def nS {A:Go.A2.Prog}{l:H7}{b:Nat}{dr:Bool}{l5 ops:List o9}{T:List c8}{H:p9}{n:Nat}{rl:List c8}{p7:List A2.Touch}{Q:List c8->p9->List c8->Prop}{α:Type}{enc:α->List A2.Data}{xs:List α}{neg:Bool}{x:y5}{u:List Nat}
  (h0:0<xs.length) (h2:Ry A l b dr l5 ops T H (n+1) (.d (.bool neg)::rl) p7 Q) (hx:rq T n rl x= .d (B0 enc xs):=by rfl):Ry A l b dr l5 (⟨.BB neg x,none,none,u⟩::ops) T H n rl p7 Q :=
 Ry.pure (rs:=[]) rfl (by simp [o6,hx,B0,h0]) h2
def aX3 (xs:List K4)(h0:0<xs.length)(h1:xs.length<=100000):Pf A 219 [.d (B0 (fun s=>[.str s]) xs)] (E7 1 (fun s=>[.str s]) xs):=by
 refine Pf.run [.d (B0 (fun s=>[.str s]) xs),.any] rfl rfl rfl rfl ?_;refine gr ?_;refine tB (false) ?_ (fun h2=> ?_) (fun h2=> ?_)
 .repeat' (first|refine nS h0 ?_|refine gx ?_|refine fk (h1:=fun hw=> ?_) (h2:=fun hw=> ?_)|refine U1 (h1:=fun hw=> ?_) (h2:=fun hw=> ?_)|refine ⟨rfl,rfl,_,rfl,?_⟩|refine ⟨rfl,rfl⟩|fail)
  all_goals exact cc
 .cases h2
 refine gr ?_;exact ⟨_,rfl,rfl⟩
def aX4 (xs:List Int)(h0:0<xs.length)(h1:xs.length<=100000):Pf A 220 [.d (ints xs)] (E7 1 (fun n=>[num n]) xs):=by
 refine Pf.run [.d (ints xs),.any] rfl rfl rfl rfl ?_;refine gr ?_;refine tB (false) ?_ (fun h2=> ?_) (fun h2=> ?_)
 .repeat' (first|refine nS h0 ?_|refine gx ?_|refine fk (h1:=fun hw=> ?_) (h2:=fun hw=> ?_)|refine U1 (h1:=fun hw=> ?_) (h2:=fun hw=> ?_)|refine ⟨rfl,rfl,_,rfl,?_⟩|refine ⟨rfl,rfl⟩|fail)
  all_goals exact cc
 .cases h2
 refine gr ?_;exact ⟨_,rfl,rfl⟩
def bb3 (n:Nat)(h:n<=1000000)(l:H7):Pm A 279 [.O2,.d (num n)] [] l (.own 1 0 []) []:=by
 refine ⟨1,fun k hk=> ?_⟩;obtain ⟨k,rfl⟩:∃ j,k=j+1:=⟨k - 1,by omega⟩;have h1:A.fP 279=some EH:=rfl;simp only [call,h1,EH,num];rw [if_pos (by omega)]
def Jk (l:List Int):List A2.Data:=[ints l]
set_option maxHeartbeats 4000000 in
def aY1 (xss:List (List Int))(h0:xss.length<=100)(h1:∀ i,i<xss.length->(nth xss i).length<=10000):Pf A 254 [.d (B0 Jk xss)] (.d (ints xss.flatten)):=by
 refine Pf.run [.d (B0 Jk xss),.any,.any,.any,.any,.any,.any,.any,.any,.any,.any,.any] rfl rfl rfl rfl ?_;refine gr ?_;refine Ex.I7 (fun k T H=>∃ (i m:Nat) (w1 w3 w4 w5 w9 iL iM:c8),T=[.d (B0 Jk xss),w1,.d (num m),w3,w4,w5,.d (B0 Jk xss),.d (num xss.length),.d (num i),w9,iL,iM]/\H=[]/\i+k=xss.length/\m<=i * 10000) (by rintro _ _ _ ⟨_,_,_,_,_,_,_,_,_,_,rfl,_⟩;rfl) ?_ (k:=xss.length) ⟨0,0,_,_,_,_,_,_,_,rfl,rfl,by simp,by simp⟩;rintro k _ _ ⟨i,m,w1,w3,w4,w5,w9,iL,iM,rfl,rfl,hk,hm⟩;refine Ex.nT ?_;refine Ex.seq ?_;refine tb (E4 i xss.length) (fun h2=> ?_) (fun h2=> ?_)
 .have h3:=A6 h2
  have h4:=h1 i (by omega);have h5:m<=1000000:=by omega
  refine gr ?_;refine tb (false) (fun h6=> ?_) (fun h6=> ?_)
  .cases h6
  refine gr ?_;exact ⟨k - 1,by omega,i+1,m+(nth xss i).length,_,_,_,_,_,_,_,rfl,rfl,by omega,by omega⟩
 have h3:=A3 h2;have h5:m<=1000000:=by omega
 have p1:=bb3 m h5;clear h2 hm
 repeat' (first|refine c1 (p1 _) rfl ?_|refine gx ?_|fail)
 refine Ex.I7 (fun k T H=>∃ (i:Nat) (acc:List Int) (w0 w1 w2 w3 w5 w6 w7 w8:c8),T=[w0,w1,w2,w3,E7 1 (fun n=>[num n]) acc,w5,w6,w7,w8,.d (B0 Jk xss),.d (num xss.length),.d (num i)]/\H=[]/\i+k=xss.length/\acc.length<=i * 10000/\xss.flatten=acc++(xss.drop i).flatten) (by rintro _ _ _ ⟨_,_,_,_,_,_,_,_,_,_,_,rfl,_⟩;rfl) ?_ (k:=xss.length) ⟨0,[],_,_,_,_,_,_,_,_,rfl,rfl,by simp,by simp,by simp⟩;rintro k _ _ ⟨i,acc,w0,w1,w2,w3,w5,w6,w7,w8,rfl,rfl,hk,hl,hacc⟩;refine Ex.nT ?_;refine Ex.seq ?_;refine tb (E4 i xss.length) (fun h2=> ?_) (fun h2=> ?_)
 .have h6:=A6 h2
  have h7:=h1 i (by omega);rw [D3 (by omega)] at hacc;have h8:acc.length<=1000000:=by omega
  refine gr ?_;exact ⟨k - 1,by omega,i+1,acc++nth xss i,_,_,_,_,_,_,_,_,rfl,rfl,by omega,by simp;omega,by rw [hacc];simp⟩
 .have h6:=A3 h2
  rw [l6 (by omega)] at hacc;refine gr ?_;exact ⟨_,rfl,by rw [hacc];simp [j3,ints,B0]⟩
def agr (a:Io):c8:= .agg (a.enc.map .d)
def mc (ty:List Int)(a:Io):Int×Int :=
 if s9 a.func 0 then (if E4 0 a.expr.length then (0,1) else (1,0))
 else if s9 a.func 1||s9 a.func 2||s9 a.func 3||s9 a.func 4 then (if !s9 (M5 a.expr ty).2 0 then (0,(M5 a.expr ty).2) else if s9 a.func 1&& !s9 (M5 a.expr ty).1 1 then (0,5) else ((M5 a.expr ty).1,0))
 else (0,1)
set_option maxHeartbeats 8000000 in
def aY2 (ty:List Int)(a:Io)(h0:a.expr.length<=1000)(h1:ty.length<=100000):Pf A 259 [agr a,.d (ints ty)] (pair (mc ty a)):=by
 have p1:=WZ a.expr ty h0 h1;unfold pair at p1;refine Pf.run [agr a,.d (ints ty),.any,.any,.any,.any,.any,.any,.any] rfl rfl rfl rfl ?_
 repeat' (first|refine cl (p1) ?_|refine gx ?_|refine fk (h1:=fun hw=> ?_) (h2:=fun hw=> ?_)|refine U1 (h1:=fun hw=> ?_) (h2:=fun hw=> ?_)|refine Ex.M8 ?_|refine Ex.N6 ?_|refine Ex.cond rfl (fun ht=> ?_) (fun ht=> ?_)|refine Ex.test (Rn.text ?_)|refine Ex.test (Rn.draw ?_)|refine ⟨_,rfl,fun ht=> ?_,fun ht=> ?_⟩|refine ⟨_,rfl,?_⟩|fail)
 all_goals unfold mc pair
 all_goals first|(simp [*,j3,c8.J3,num];done)|(simp_all [j3,c8.J3,num];done)
def l9:H7:=⟨0,0,10,10⟩
def l9R:H7:=⟨0,10,10,10⟩
def DL (nm:List K4)(ty:List Int):List c8:=[E7 1 encS nm,E7 1 (fun n=>[num n]) ty]
def ba7 (a0 ax a1 a2 a3 a4 a5 a7:A1)(ty:List Int)(x:OK)(h0:x.expr.length<=1000)(h1:ty.length<=100000) :
  Pm A 257 [.ptr 9 0,.ptr 7 0] [a0,ax,a1,a2,a3,a4,a5,.cells [.d (ints ty)],a7,.cells (x.enc.map .d)] l9R (pair (M5 x.expr ty)) [a0,ax,a1,a2,a3,a4,a5,.cells [.d (ints ty)],a7,.cells (x.enc.map .d)]:=by
 have p1:=WZ x.expr ty h0 h1;unfold pair at *
 suffices h:Pq A 257 [.ptr 9 0,.ptr 7 0] [a0,ax,a1,a2,a3,a4,a5,.cells [.d (ints ty)],a7,.cells (x.enc.map .d)] l9R fun v H1=>v= .tuple [.d (num (M5 x.expr ty).1),.d (num (M5 x.expr ty).2)]/\H1=[a0,ax,a1,a2,a3,a4,a5,.cells [.d (ints ty)],a7,.cells (x.enc.map .d)] by
  obtain ⟨v,H1,⟨rfl,rfl⟩,h⟩:=h;exact h
 refine Pq.run (b:=10) [.ptr 9 0,.ptr 7 0,.any,.any] rfl rfl rfl rfl rfl ?_
 repeat' (first|refine cl (p1) ?_|refine gx ?_|fail)
 exact ⟨_,_,rfl,rfl,rfl⟩
def ba8 (a0 ax a1 a2 a3 a4 a5 a7:A1)(ty:List Int)(x:Io)(h0:x.expr.length<=1000)(h1:ty.length<=100000) :
  Pm A 258 [.ptr 9 0,.ptr 7 0] [a0,ax,a1,a2,a3,a4,a5,.cells [.d (ints ty)],a7,.cells (x.enc.map .d)] l9R (pair (mc ty x)) [a0,ax,a1,a2,a3,a4,a5,.cells [.d (ints ty)],a7,.cells (x.enc.map .d)]:=by
 have p1:=aY2 ty x h0 h1;unfold pair at *
 suffices h:Pq A 258 [.ptr 9 0,.ptr 7 0] [a0,ax,a1,a2,a3,a4,a5,.cells [.d (ints ty)],a7,.cells (x.enc.map .d)] l9R fun v H1=>v= .tuple [.d (num (mc ty x).1),.d (num (mc ty x).2)]/\H1=[a0,ax,a1,a2,a3,a4,a5,.cells [.d (ints ty)],a7,.cells (x.enc.map .d)] by
  obtain ⟨v,H1,⟨rfl,rfl⟩,h⟩:=h;exact h
 refine Pq.run (b:=10) [.ptr 9 0,.ptr 7 0,.any,.any] rfl rfl rfl rfl rfl ?_
 repeat' (first|refine cl (p1) ?_|refine gx ?_|fail)
 exact ⟨_,_,rfl,rfl,rfl⟩
def jk (nm:List K4)(s:K4)(r:Int×Int):Int:=if !L3 s then 3 else if nm.any fun y=>O1 y s then 4 else if !s9 r.2 0 then r.2 else 0
def Dq (nm:List K4)(s:K4)(r:Int×Int):List K4:=if s9 (jk nm s r) 0 then nm++[s] else nm
def Dr (nm:List K4)(ty:List Int)(s:K4)(r:Int×Int):List Int:=if s9 (jk nm s r) 0 then ty++[r.1] else ty
set_option maxHeartbeats 8000000 in
def ar5 (f:FuncId)(hf1:A.prom f=false)(hf2:A.mode f=1)(a0 ax a1 a2 a3 a4 a5:A1)(ty:List Int)(nm:List K4)(tys:List Int)(cs:List A2.Data)(s:K4)(r:Int×Int)(hn:nm.length<=10000)(ht:tys.length<=10000)
  (hc:∀ a7,Pm A f [.ptr 9 0,.ptr 7 0] [a0,ax,a1,a2,a3,a4,a5,.cells [.d (ints ty)],a7,.cells (cs.map .d)] l9R (pair r) [a0,ax,a1,a2,a3,a4,a5,.cells [.d (ints ty)],a7,.cells (cs.map .d)]) :
  Pm A 256 [.ptr 8 0,.d (.str s),.func f [] [.ptr 9 0,.ptr 7 0]] [a0,ax,a1,a2,a3,a4,a5,.cells [.d (ints ty)],.cells (DL nm tys),.cells (cs.map .d)] l9 (.d (num (jk nm s r)))
   [a0,ax,a1,a2,a3,a4,a5,.cells [.d (ints ty)],.cells (DL (Dq nm s r) (Dr nm tys s r)),.cells (cs.map .d)]:=by
 have p1:=hc (.cells (DL nm tys));have p2:=aq5 nm s (by omega);unfold pair at p1
 suffices h:Pq A 256 [.ptr 8 0,.d (.str s),.func f [] [.ptr 9 0,.ptr 7 0]] [a0,ax,a1,a2,a3,a4,a5,.cells [.d (ints ty)],.cells (DL nm tys),.cells (cs.map .d)] l9 fun v H1=>v= .d (num (jk nm s r))/\H1=[a0,ax,a1,a2,a3,a4,a5,.cells [.d (ints ty)],.cells (DL (Dq nm s r) (Dr nm tys s r)),.cells (cs.map .d)] by
  obtain ⟨v,H1,⟨rfl,rfl⟩,h⟩:=h;exact h
 have same:∀ e,jk nm s r=e->s9 e 0=false->Dq nm s r=nm/\Dr nm tys s r=tys:=fun e h1 h2=>by unfold Dq Dr;rw [h1,h2];exact ⟨rfl,rfl⟩
 have hr1:roomFor (nm.length+1) 16=true:=by simp only [roomFor,decide_eq_true_eq];omega
 have hr2:roomFor (tys.length+1) 8=true:=by simp only [roomFor,decide_eq_true_eq];omega
 refine Pq.run (b:=10) [.ptr 8 0,.d (.str s),.func f [] [.ptr 9 0,.ptr 7 0],.any,.any,.any] rfl rfl rfl rfl rfl ?_;refine gr ?_;refine tB (!L3 s) ?_ (fun h1=> ?_) (fun h1=> ?_)
 .repeat' (first|refine cl (WY _) ?_|refine gx ?_|refine fk (h1:=fun hw=> ?_) (h2:=fun hw=> ?_)|refine U1 (h1:=fun hw=> ?_) (h2:=fun hw=> ?_)|refine ⟨rfl,rfl,_,rfl,?_⟩|refine ⟨rfl,rfl⟩|fail)
  all_goals exact cc
 .have e1:jk nm s r=3:=by unfold jk;rw [h1];rfl
  have e2:=same 3 e1 (by simp [o8]);refine gr ?_;exact ⟨_,_,rfl,by rw [e1];rfl,by rw [e2.1,e2.2];rfl⟩
 unfold DL;refine gr ?_;refine tB (nm.any fun y=>O1 y s) ?_ (fun h2=> ?_) (fun h2=> ?_)
 .repeat' (first|refine cl (p2) ?_|refine gx ?_|refine fk (h1:=fun hw=> ?_) (h2:=fun hw=> ?_)|refine U1 (h1:=fun hw=> ?_) (h2:=fun hw=> ?_)|refine ⟨rfl,rfl,_,rfl,?_⟩|refine ⟨rfl,rfl⟩|fail)
  all_goals exact cc
 .have e1:jk nm s r=4:=by unfold jk;rw [h1,h2];rfl
  have e2:=same 4 e1 (by simp [o8]);refine gr ?_;exact ⟨_,_,rfl,by rw [e1];rfl,by rw [e2.1,e2.2];rfl⟩
 unfold DL at p1
 repeat' (first|refine cv1 (lD:=hf1) (hm:=hf2) p1 rfl ?_|refine gx ?_|fail)
 refine tb (!s9 r.2 0) (fun h3=> ?_) (fun h3=> ?_)
 .have e1:jk nm s r=r.2:=by unfold jk;rw [h1,h2,h3];rfl
  have e2:=same _ e1 (by simpa using h3);refine gr ?_;exact ⟨_,_,rfl,by rw [e1];rfl,by rw [e2.1,e2.2];rfl⟩
 have e1:jk nm s r=0:=by unfold jk;rw [h1,h2,h3];rfl
 have e2:Dq nm s r=nm++[s]:=by unfold Dq;rw [e1];simp [o8]
 have e3:Dr nm tys s r=tys++[r.1]:=by unfold Dr;rw [e1];simp [o8]
 refine gr ?_;refine ac1 (a:=s) (xs:=nm) (enc:=encS) hr1 rfl (h2:= ?_);refine gr ?_;refine ac1 (a:=r.1) (xs:=tys) (enc:=fun n=>[num n]) hr2 rfl (h2:= ?_)
 repeat' (first|refine soO (h2:= ?_)|refine gx ?_|fail)
 exact ⟨_,_,rfl,by rw [e1];rfl,by rw [e2,e3];rfl⟩
def Ex.as2 {A:Go.A2.Prog}{l:H7}{b:Nat}{c:q6}{st:St}{R:G7->St->Prop}{go:St->Prop}(P:St->Prop)(h1:Ex A l b c st (Bf R P))(h2:∀ s,P s->go s):Ex A l b c st (Bf R go):=by
 refine h1.mono fun x s h=> ?_
 cases x with
 |normal=>exact h2 s h
 |exit i=>exact h
 |ret=>exact h
def jO (v:Vw)(L R:List Int):Int :=
 if !s9 (P3 L R v.on) 0 then P3 L R v.on
 else if E4 0 v.wh.length&& !s9 (M5 v.wh (L++R)).2 0 then (M5 v.wh (L++R)).2
 else if E4 0 v.wh.length&& !s9 (M5 v.wh (L++R)).1 1 then 5
 else aa (L++R) [] (cM v)
def GP (ss:List gj)(v:Vw)(L R:List Int):List gj:=if s9 (jO v L R) 0 then ss++[(v.name,(cM v).map DW.name,aL v (L++R))] else ss
def AO {ty:List Int}{seen:List K4}{x:OK}{r:List DW}:aa ty seen (⟨false,x.name, -1,x.expr⟩::r)=if !s9 (jk seen x.name (M5 x.expr ty)) 0 then jk seen x.name (M5 x.expr ty) else aa ty (seen++[x.name]) r:=by
 have h3:s9 3 0=false:=by simp [o8]
 have h4:s9 4 0=false:=by simp [o8]
 have h0:s9 0 0=true:=by simp [o8]
 simp only [aa,jk,Bool.false_and,j4,if_false]
 rcases B7 (L3 x.name) with c1|c1
 .rcases B7 (seen.any fun y=>O1 y x.name) with c2|c2
  .simp only [c1,c2,Bool.not_true,j4,if_false,if_true,h4,Bool.not_false]
  .rcases B7 (s9 (M5 x.expr ty).2 0) with c3|c3
   .simp only [c1,c2,c3,Bool.not_true,j4,if_false,h0]
   .simp only [c1,c2,c3,Bool.not_true,Bool.not_false,j4,if_false,if_true]
 .simp only [c1,Bool.not_false,if_true,h3]
def DC {ty:List Int}{seen:List K4}{x:Io}{r:List DW}:aa ty seen (⟨true,x.name,x.func,x.expr⟩::r)=if !s9 (jk seen x.name (mc ty x)) 0 then jk seen x.name (mc ty x) else aa ty (seen++[x.name]) r:=by
 have h1:s9 1 0=false:=by simp [o8]
 have h3:s9 3 0=false:=by simp [o8]
 have h4:s9 4 0=false:=by simp [o8]
 have h6:s9 5 0=false:=by simp [o8]
 have h0:s9 0 0=true:=by simp [o8]
 simp only [aa,jk,Bool.true_and]
 rcases B7 (L3 x.name) with c1|c1
 .rcases B7 (seen.any fun y=>O1 y x.name) with c2|c2
  .simp only [c1,c2,Bool.not_true,j4,if_false,if_true,h4,Bool.not_false]
  .simp only [c1,c2,Bool.not_true,j4,if_false,mc]
   rcases B7 (s9 x.func 0) with f0|f0
   .have hw:q8 x.func 0 4=true:=by have:=fH f0;simp [q8,s6];omega
    rcases B7 (E4 0 x.expr.length) with c5|c5
    .simp only [f0,hw,c5,Bool.not_true,Bool.and_self,Bool.or_true,if_true,h1,Bool.not_false]
    .simp only [f0,hw,c5,Bool.not_true,Bool.and_false,Bool.or_self,j4,if_false,if_true,h0]
   .rcases B7 (q8 x.func 0 4) with hw|hw
    .have hf:(s9 x.func 1||s9 x.func 2||s9 x.func 3||s9 x.func 4)=true:=by
      have:=AQ f0;simp [q8,s6] at hw;simp [o8];omega
     simp only [f0,hw,hf,Bool.not_true,Bool.false_and,Bool.or_self,j4,if_false,if_true]
     rcases B7 (s9 (M5 x.expr ty).2 0) with c5|c5
     .rcases B7 (s9 x.func 1&& !s9 (M5 x.expr ty).1 1) with c6|c6
      .simp only [c5,c6,Bool.not_true,Bool.not_false,j4,if_false,if_true,h6]
      .simp only [c5,c6,Bool.not_true,j4,if_false,h0]
     .simp only [c5,Bool.not_false,if_true]
    .have hf:(s9 x.func 1||s9 x.func 2||s9 x.func 3||s9 x.func 4)=false:=by
      simp [q8,s6] at hw;simp [o8];omega
     simp only [f0,hw,hf,Bool.not_false,Bool.true_or,j4,if_false,if_true,h1]
 .simp only [c1,Bool.not_false,if_true,h3]
def ZU {ty:List Int}{x:Io}(h:s9 (mc ty x).2 0=true):(mc ty x).1=xK ty x:=by
 have h1:s9 1 0=false:=by simp [o8]
 have h6:s9 5 0=false:=by simp [o8]
 unfold mc at h ⊢;unfold xK;cases f0:s9 x.func 0 with
 |true =>
  rw [f0] at h;cases h5:E4 0 x.expr.length with
  |true=>rw [h5] at h;simp [h1] at h
  |false=>simp
 |false =>
  rw [f0] at h;simp only [j4,if_false,Bool.false_or] at h ⊢;cases h2:(s9 x.func 1||s9 x.func 2||s9 x.func 3||s9 x.func 4) with
  |false=>rw [h2] at h;simp [h1] at h
  |true =>
   rw [h2] at h;simp only [if_true] at h ⊢;cases h3:s9 (M5 x.expr ty).2 0 with
   |false=>rw [h3] at h;simp [h3] at h
   |true =>
    rw [h3] at h;simp only [Bool.not_true,j4,if_false] at h ⊢;cases f1:s9 x.func 1 with
    |false=>simp
    |true =>
     rw [f1] at h;cases h4:s9 (M5 x.expr ty).1 1 with
     |false=>rw [h4] at h;simp [h6] at h
     |true=>simpa using fH h4
set_option maxHeartbeats 32000000 in
def ba4 [Inhabited XO] (c:r9)(ds:List K4)(ss:List gj)(v:Vw)(L R:List Int)(hL:L.length<=5000)(hR:R.length<=5000)(h0:v.on.length<=1000)(h1:v.wh.length<=1000)(h2:v.items.length<=1000)(h3:v.D5.length<=1000)(h4:∀ i,i<v.items.length->(nth v.items i).expr.length<=1000)(h5:∀ i,i<v.D5.length->(nth v.D5 i).expr.length<=1000)
  (hs:((ss.map (·.1)).any fun y=>O1 y v.name)=false) (hss:ss.length<=1000):Pm A 221 [.ptr 5 0,vw v,.d (ints L),.d (ints R)] (HH c ds ss) lW (.d (num (jO v L R))) (HH c ds (GP ss v L R)):=by
 suffices h:Pq A 221 [.ptr 5 0,vw v,.d (ints L),.d (ints R)] (HH c ds ss) lW fun w H1=>w= .d (num (jO v L R))/\H1=HH c ds (GP ss v L R) by
  obtain ⟨w,H1,⟨rfl,rfl⟩,h⟩:=h;exact h
 have same:∀ e,jO v L R=e->s9 e 0=false->GP ss v L R=ss:=fun e g1 g2=>by unfold GP;rw [g1,g2];rfl
 have WO:=Xh c ds ss v.name ((cM v).map DW.name) (aL v (L++R)) hs hss;have aV7:=aY1 [L,R] (by simp) (by
  intro i hi
  match i,hi with
  |0,_=>rw [Y6];omega
  |1,_=>rw [uF,Y6];omega)
 have pW:=WZ v.wh (L++R) h1 (by simp;omega);unfold pair at pW;have hfl:[L,R].flatten=L++R:=by simp
 rw [hfl] at aV7;have hTl:(L++R).length<=100000:=by simp;omega
 unfold HH at *
 refine Pq.run (b:=6) [.ptr 5 0,vw v,.d (ints L),.d (ints R),.any,.any,.any,.any,.any,.any,.any,.any,.any,.any,.any,.any,.any,.any,.any,.any,.any,.any,.any,.any] rfl rfl rfl rfl rfl ?_;refine gr ?_;refine Ex.cV (fun k T H=>∃ (i:Nat),T=[.ptr 5 0,.any,.d (ints L),.d (ints R),.ptr 6 0,.any,.any,.any,.any,.any,.any,.any,.any,.any,.any,.d (B0 (fun p=>[num p.1,num p.2]) v.on),.d (num v.on.length),.d (num i),.any,.any,.any,.any,.any,.any]/\H=[xa,xo,.cells (c.enc.map .d),.map (dmap ds),.map (fO (ss.map (·.1)) 0),.cells (c.enc.map .d++[.map 3,.map 4,E7 2 Z2 ss]),.cells (v.enc.map .d)]/\i+k=v.on.length/\P3 L R v.on=P3 L R (v.on.drop i)) ?_ (k:=v.on.length) ⟨0,rfl,rfl,by simp,by simp⟩;rintro k _ _ ⟨i,rfl,rfl,hk,hi⟩;refine Ex.seq ?_;refine tb (E4 i v.on.length) (fun g1=> ?_) (fun g1=> ?_)
 .have g2:=A6 g1
  rw [D3 (by omega)] at hi;refine gr ?_;refine tB (!q8 (nth v.on i).1 0 (L.length - 1)|| !q8 (nth v.on i).2 0 (R.length - 1)) ?_ (fun g3=> ?_) (fun g3=> ?_)
  .repeat' (first|refine cl (pX _ _ _) ?_|refine gx ?_|refine fk (h1:=fun hw=> ?_) (h2:=fun hw=> ?_)|refine U1 (h1:=fun hw=> ?_) (h2:=fun hw=> ?_)|refine ⟨rfl,rfl,_,rfl,?_⟩|refine ⟨rfl,rfl⟩|fail)
   all_goals exact cc
  .have e1:P3 L R v.on=3:=by rw [hi,P3,g3];rfl
   have e2:jO v L R=3:=by unfold jO;rw [e1];simp [o8]
   refine gr ?_;exact ⟨_,_,rfl,by rw [e2];rfl,by rw [same 3 e2 (by simp [o8])];rfl⟩
  have g4:=g3;simp [q8,s6] at g4;refine gr ?_;refine tb (!s9 (nth L (nth v.on i).1.toNat) (nth R (nth v.on i).2.toNat)) (fun g5=> ?_) (fun g5=> ?_)
  .have e1:P3 L R v.on=5:=by rw [hi,P3,g3,g5];rfl
   have e2:jO v L R=5:=by unfold jO;rw [e1];simp [o8]
   refine gr ?_;exact ⟨_,_,rfl,by rw [e2];rfl,by rw [same 5 e2 (by simp [o8])];rfl⟩
  .refine gr ?_
   exact ⟨k - 1,by omega,_,_,rfl,i+1,rfl,rfl,by omega,by rw [hi,P3,g3,g5];rfl⟩
 have g2:=A3 g1;rw [l6 (by omega)] at hi;have e0:(!s9 (P3 L R v.on) 0)=false:=by rw [hi];simp [P3,o8]
 clear g1 g2 hk hi
 repeat' (first|refine cl (aV7) ?_|refine gx ?_|fail)
 refine Ex.as2 (fun s=>∃ (w1 w2 w3 w5 w6 w8 w9 iL iM Lu Qu Lv YA w16 w17 w18 w19 w20 w21 w22 w23:c8),s=⟨[.ptr 5 0,w1,w2,w3,.ptr 6 0,w5,w6,.ptr 7 0,w8,w9,iL,iM,Lu,Qu,Lv,YA,w16,w17,w18,w19,w20,w21,w22,w23],[xa,xo,.cells (c.enc.map .d),.map (dmap ds),.map (fO (ss.map (·.1)) 0),.cells (c.enc.map .d++[.map 3,.map 4,E7 2 Z2 ss]),.cells (v.enc.map .d),.cells [.d (ints (L++R))]]⟩/\jO v L R=aa (L++R) [] (cM v)) ?_ ?_
 .skip
  refine tb (E4 0 v.wh.length) (fun g6=> ?_) (fun g6=> ?_)
  .repeat' (first|refine cl (pW) ?_|refine gx ?_|fail)
   refine tb (!s9 (M5 v.wh (L++R)).2 0) (fun g7=> ?_) (fun g7=> ?_)
   .have e1:jO v L R=(M5 v.wh (L++R)).2:=by unfold jO;rw [e0,g6,g7];rfl
    refine gr ?_;exact ⟨_,_,rfl,by rw [e1];rfl,by rw [same _ e1 (by simpa using g7)];rfl⟩
   refine gr ?_;refine tb (!s9 (M5 v.wh (L++R)).1 1) (fun g8=> ?_) (fun g8=> ?_)
   .have e1:jO v L R=5:=by unfold jO;rw [e0,g6,g7,g8];rfl
    refine gr ?_;exact ⟨_,_,rfl,by rw [e1];rfl,by rw [same 5 e1 (by simp [o8])];rfl⟩
   .have e1:jO v L R=aa (L++R) [] (cM v):=by unfold jO;rw [e0,g6,g7,g8];rfl
    refine gr ?_;exact ⟨_,_,_,_,_,_,_,_,_,_,_,_,_,_,_,_,_,_,_,_,_,rfl,e1⟩
  .have e1:jO v L R=aa (L++R) [] (cM v):=by unfold jO;rw [e0,g6];rfl
   refine gr ?_;exact ⟨_,_,_,_,_,_,_,_,_,_,_,_,_,_,_,_,_,_,_,_,_,rfl,e1⟩
 rintro _ ⟨w1,w2,w3,w5,w6,w8,w9,iL,iM,Lu,Qu,Lv,YA,w16,w17,w18,w19,w20,w21,w22,w23,rfl,hin⟩;refine gr ?_;refine Ex.cV (fun k T H=>∃ (i:Nat) (nm:List K4) (tys:List Int),T=[.ptr 5 0,.any,.any,.any,.ptr 6 0,.any,.any,.ptr 7 0,.any,.any,.ptr 8 0,.any,.any,.any,.any,.any,.any,.any,.d (B0 OK.enc v.items),.d (num v.items.length),.d (num i),.any,.any,.any]/\H=[xa,xo,.cells (c.enc.map .d),.map (dmap ds),.map (fO (ss.map (·.1)) 0),.cells (c.enc.map .d++[.map 3,.map 4,E7 2 Z2 ss]),.cells (v.enc.map .d),.cells [.d (ints (L++R))],.cells (DL nm tys)]/\i+k=v.items.length/\nm=(v.items.take i).map OK.name/\tys=(v.items.take i).map (fun x=>(M5 x.expr (L++R)).1)/\jO v L R=aa (L++R) nm ((cM v).drop i)) ?_ (k:=v.items.length) ⟨0,[],[],rfl,rfl,by simp,by simp,by simp,by simpa using hin⟩;rintro k _ _ ⟨i,nm,tys,rfl,rfl,hk,hnm,tu,hi⟩;have Tt:nm.length=i:=by rw [hnm];simp;omega
 have qU:tys.length=i:=by rw [tu];simp;omega
 refine Ex.seq ?_;refine tb (E4 i v.items.length) (fun g1=> ?_) (fun g1=> ?_)
 .have g2:=A6 g1
  have hel:=mz v;rw [D3 (by omega),wI v (by omega),AO] at hi;have aF1:=ar5 257 rfl rfl xa xo (.cells (c.enc.map .d)) (.map (dmap ds)) (.map (fO (ss.map (·.1)) 0)) (.cells (c.enc.map .d++[.map 3,.map 4,E7 2 Z2 ss])) (.cells (v.enc.map .d)) (L++R) nm tys (nth v.items i).enc (nth v.items i).name (M5 (nth v.items i).expr (L++R)) (by omega) (by omega) (fun a7=>ba7 xa xo (.cells (c.enc.map .d)) (.map (dmap ds)) (.map (fO (ss.map (·.1)) 0)) (.cells (c.enc.map .d++[.map 3,.map 4,E7 2 Z2 ss])) (.cells (v.enc.map .d)) a7 (L++R) (nth v.items i) (h4 i (by omega)) hTl)
  repeat' (first|refine c0 aF1 rfl (h2:= ?_)|refine gx ?_|fail)
  refine tb (!s9 (jk nm (nth v.items i).name (M5 (nth v.items i).expr (L++R))) 0) (fun g3=> ?_) (fun g3=> ?_)
  .rw [g3,if_pos rfl] at hi
   refine gr ?_;exact ⟨_,_,rfl,by rw [hi];rfl,by rw [same _ hi (by simpa using g3)];rfl⟩
  .rw [g3,if_neg (by simp)] at hi
   have e1:s9 (jk nm (nth v.items i).name (M5 (nth v.items i).expr (L++R))) 0=true:=by simpa using g3
   have e2:Dq nm (nth v.items i).name (M5 (nth v.items i).expr (L++R))=nm++[(nth v.items i).name]:=by unfold Dq;rw [e1];rfl
   have e3:Dr nm tys (nth v.items i).name (M5 (nth v.items i).expr (L++R))=tys++[(M5 (nth v.items i).expr (L++R)).1]:=by unfold Dr;rw [e1];rfl
   rw [e2,e3];refine gr ?_;exact ⟨k - 1,by omega,_,_,rfl,i+1,nm++[(nth v.items i).name],tys++[(M5 (nth v.items i).expr (L++R)).1],rfl,rfl,by omega,by rw [H9 (by omega),hnm];simp,by rw [H9 (by omega),tu];simp,hi⟩
 have g2:=A3 g1;rw [y6 (by omega)] at hnm tu;have hie:i=v.items.length:=by omega
 subst hie;clear g1 g2 hk;refine gr ?_;refine Ex.cV (fun k T H=>∃ (i:Nat) (PN:List K4) (Ia:List Int),T=[.ptr 5 0,.any,.any,.any,.ptr 6 0,.any,.any,.ptr 7 0,.any,.any,.ptr 8 0,.any,.any,.any,.any,.any,.any,.any,.any,.any,.any,.d (B0 Io.enc v.D5),.d (num v.D5.length),.d (num i)]/\H=[xa,xo,.cells (c.enc.map .d),.map (dmap ds),.map (fO (ss.map (·.1)) 0),.cells (c.enc.map .d++[.map 3,.map 4,E7 2 Z2 ss]),.cells (v.enc.map .d),.cells [.d (ints (L++R))],.cells (DL PN Ia)]/\i+k=v.D5.length/\PN=nm++(v.D5.take i).map Io.name/\Ia=tys++(v.D5.take i).map (xK (L++R))/\jO v L R=aa (L++R) PN ((cM v).drop (v.items.length+i))) ?_ (k:=v.D5.length) ⟨0,nm,tys,rfl,rfl,by simp,by simp,by simp,hi⟩;clear hi;rintro k _ _ ⟨i,PN,Ia,rfl,rfl,hk,ac9,Tz,hi⟩;have hl3:PN.length=v.items.length+i:=by rw [ac9,k9,Tt];simp;omega
 have hl4:Ia.length=v.items.length+i:=by rw [Tz,k9,qU];simp;omega
 refine Ex.seq ?_;have hel:=mz v;refine tb (E4 i v.D5.length) (fun g1=> ?_) (fun g1=> ?_)
 .have g2:=A6 g1
  rw [D3 (by omega),AN v (by omega) (by omega),Nat.add_sub_cancel_left,DC] at hi;have aF1:=ar5 258 rfl rfl xa xo (.cells (c.enc.map .d)) (.map (dmap ds)) (.map (fO (ss.map (·.1)) 0)) (.cells (c.enc.map .d++[.map 3,.map 4,E7 2 Z2 ss])) (.cells (v.enc.map .d)) (L++R) PN Ia (nth v.D5 i).enc (nth v.D5 i).name (mc (L++R) (nth v.D5 i)) (by omega) (by omega) (fun a7=>ba8 xa xo (.cells (c.enc.map .d)) (.map (dmap ds)) (.map (fO (ss.map (·.1)) 0)) (.cells (c.enc.map .d++[.map 3,.map 4,E7 2 Z2 ss])) (.cells (v.enc.map .d)) a7 (L++R) (nth v.D5 i) (h5 i (by omega)) hTl)
  repeat' (first|refine c0 aF1 rfl (h2:= ?_)|refine gx ?_|fail)
  refine tb (!s9 (jk PN (nth v.D5 i).name (mc (L++R) (nth v.D5 i))) 0) (fun g3=> ?_) (fun g3=> ?_)
  .rw [g3,if_pos rfl] at hi
   refine gr ?_;exact ⟨_,_,rfl,by rw [hi];rfl,by rw [same _ hi (by simpa using g3)];rfl⟩
  .rw [g3,if_neg (by simp)] at hi
   have e1:s9 (jk PN (nth v.D5 i).name (mc (L++R) (nth v.D5 i))) 0=true:=by simpa using g3
   have e2:Dq PN (nth v.D5 i).name (mc (L++R) (nth v.D5 i))=PN++[(nth v.D5 i).name]:=by unfold Dq;rw [e1];rfl
   have e3:Dr PN Ia (nth v.D5 i).name (mc (L++R) (nth v.D5 i))=Ia++[(mc (L++R) (nth v.D5 i)).1]:=by unfold Dr;rw [e1];rfl
   have e4:s9 (mc (L++R) (nth v.D5 i)).2 0=true:=by
    have e5:=fH e1;unfold jk at e5;cases c1:(!L3 (nth v.D5 i).name) with
    |true=>rw [c1] at e5;simp at e5
    |false =>
     rw [c1] at e5;cases c2:PN.any fun y=>O1 y (nth v.D5 i).name with
     |true=>rw [c2] at e5;simp at e5
     |false =>
      rw [c2] at e5;cases c3:s9 (mc (L++R) (nth v.D5 i)).2 0 with
      |true=>rfl
      |false=>rw [c3] at e5;simp at e5;rw [e5] at c3;simp [o8] at c3
   rw [e2,e3];refine gr ?_;exact ⟨k - 1,by omega,_,_,rfl,i+1,PN++[(nth v.D5 i).name],Ia++[(mc (L++R) (nth v.D5 i)).1],rfl,rfl,by omega,by rw [H9 (by omega),ac9];simp,by rw [H9 (by omega),Tz,ZU e4];simp,hi⟩
 .have g2:=A3 g1
  rw [y6 (by omega)] at ac9 Tz;rw [l6 (by omega)] at hi;have e1:jO v L R=0:=hi;have e2:GP ss v L R=ss++[(v.name,(cM v).map DW.name,aL v (L++R))]:=by unfold GP;rw [e1];simp [o8]
  have e3:PN=(cM v).map DW.name:=by rw [ac9,hnm];simp [cM,Function.comp_def]
  have e4:Ia=aL v (L++R):=by rw [Tz,tu];rfl
  rw [e2,e3,e4];refine gr ?_;unfold DL
  repeat' (first|refine c0 WO rfl (h2:= ?_)|refine gx ?_|fail)
  exact ⟨_,_,rfl,by rw [e1];rfl,rfl⟩
def Ex.nH {A:Go.A2.Prog}{l:H7}{b:Nat}{c:q6}{T:List c8}{H:p9}{Q:G7->St->Prop}(H2:p9)(hH:H=H2)(h:Ex A l b c ⟨T,H2⟩ Q):Ex A l b c ⟨T,H⟩ Q:=hH ▸ h
def Rn.z {A:Go.A2.Prog}{l:H7}{b:Nat}{ops:List o9}{Q:List c8->p9->List c8->Prop}{T:List c8}{H:p9}(s na:Nat)(H' :p9)(ya:aN ops=[.dead])(tQ:slotsOf ops=[.slot s])(hu:∀ i,i ∈ ops->∀ e,e ∈ i.cD->e<ops.length)(hH:H++[.dead]=H')(hna:H.length=na)(h:Rz A l b ops ops T H' 0 [] [.slot s] na Q):Rn A l b ops true T H Q:=by
 subst hH hna;exact Rn.bB9 ya tQ hu h
def lpA {A:Go.A2.Prog}{l:H7}{b:Nat}{dr:Bool}{l5 ops:List o9}{T:List c8}{H:p9}{n:Nat}{rl:List c8}{p7:List A2.Touch}{Q:List c8->p9->List c8->Prop}{x:y5}{u:List Nat}{id o:Nat}{w v:c8}(hv:w.J3=v)(h2:Ry A l b dr l5 ops T H (n+1) (v::rl) p7 Q)(hx:rq T n rl x= .ptr id o:=by rfl)(hr:rd H id o 1=some [w]:=by rfl) :
  Ry A l b dr l5 (⟨.load none x,none,none,u⟩::ops) T H n rl p7 Q:=Ry.pure (rs:=[id]) rfl (by simp only [o6,hx,hr,hv]) h2
def bt (ss:List gj)(s:K4):gj:=nth ss (I9 s (ss.map (·.1)) 0).toNat
def Is (ss:List gj)(v:Vw):gj:=if O1 v.right [] then ([],[],[]) else bt ss v.right
def eZ (ss:List gj)(ds:List K4)(v:Vw):Int :=
 if !s9 (R7 ds v.name) 0 then R7 ds v.name
 else if !s9 v.kind 0&& !s9 v.kind 1&& !s9 v.kind 2 then 1
 else if E4 (I9 v.left (ss.map (·.1)) 0) 0||(!O1 v.right []&&E4 (I9 v.right (ss.map (·.1)) 0) 0) then 7
 else if !lK v then 1
 else if s9 v.kind 2 then (if !fR s9 (bt ss v.left).2.2 (Is ss v).2.2 then 5 else 0)
 else jO v (bt ss v.left).2.2 (Is ss v).2.2
def sj (ss:List gj)(ds:List K4)(v:Vw):List gj :=
 if s9 (eZ ss ds v) 0 then (if s9 v.kind 2 then ss++[(v.name,(bt ss v.left).2.1,(bt ss v.left).2.2)] else ss++[(v.name,(cM v).map DW.name,aL v ((bt ss v.left).2.2++(Is ss v).2.2))]) else ss
set_option maxHeartbeats 32000000 in
def bF0 [Inhabited XO] (c:r9)(ds:List K4)(ss:List gj)(i:Nat)(hi:i<c.views.length)(h0:(nth c.views i).on.length<=1000)(h1:(nth c.views i).wh.length<=1000)(h2:(nth c.views i).items.length<=1000)(h3:(nth c.views i).D5.length<=1000)(h4:∀ j,j<(nth c.views i).items.length->(nth (nth c.views i).items j).expr.length<=1000)(h5:∀ j,j<(nth c.views i).D5.length->(nth (nth c.views i).D5 j).expr.length<=1000)
  (hss:ss.length<=1000) (ht:∀ k,k<ss.length->0<(nth ss k).2.1.length/\(nth ss k).2.1.length<=5000/\0<(nth ss k).2.2.length/\(nth ss k).2.2.length<=5000) (hsub:∀ s,(ds.any fun y=>O1 y s)=false->((ss.map (·.1)).any fun y=>O1 y s)=false) :
  Pm A 150 [.ptr 5 0,.d (num i)] (HH c ds ss) lW (.d (num (eZ ss ds (nth c.views i)))) (HH c (P7 ds (nth c.views i).name) (sj ss ds (nth c.views i))):=by
 generalize hx:nth c.views i=v at *
 have tF:=yw c ds ss v.name;have pL:=NW c (P7 ds v.name) ss v.left;have pR:=NW c (P7 ds v.name) ss v.right;have bL:=Bk ss v.left;have bR:=Bk ss v.right;have bC3:=aX1 v h2 h3;have hno:R7 ds v.name=0->((ss.map (·.1)).any fun y=>O1 y v.name)=false:=fun h=>by
  refine hsub _ ?_;unfold R7 at h;cases c1:(!L3 v.name) with
  |true=>rw [c1] at h;simp at h
  |false =>
   rw [c1] at h;cases c2:ds.any fun y=>O1 y v.name with
   |false=>rfl
   |true=>rw [c2] at h;simp at h
 suffices h:Pq A 150 [.ptr 5 0,.d (num i)] (HH c ds ss) lW fun w H1=>w= .d (num (eZ ss ds v))/\H1=HH c (P7 ds v.name) (sj ss ds v) by
  obtain ⟨w,H1,⟨rfl,rfl⟩,h⟩:=h;exact h
 have same:∀ e,eZ ss ds v=e->s9 e 0=false->sj ss ds v=ss:=fun e g1 g2=>by unfold sj;rw [g1,g2];rfl
 have bC5:∀ L R:List Int,L.length<=5000->R.length<=5000->R7 ds v.name=0->Pm A 221 [.ptr 5 0,vw v,.d (ints L),.d (ints R)] (HH c (P7 ds v.name) ss) lW (.d (num (jO v L R))) (HH c (P7 ds v.name) (GP ss v L R)):=fun L R hL hR hd=>ba4 c (P7 ds v.name) ss v L R hL hR h0 h1 h2 h3 h4 h5 (hno hd) hss
 have WO:∀ nm ty,R7 ds v.name=0->Pm A 212 [.ptr 5 0,.d (.str v.name),Jc nm ty] (HH c (P7 ds v.name) ss) lW (.tuple []) (HH c (P7 ds v.name) (ss++[(v.name,nm,ty)])):=fun nm ty hd=>Xh c (P7 ds v.name) ss v.name nm ty (hno hd) hss
 unfold HH at *
 refine Pq.run (b:=6) [.ptr 5 0,.d (num i),.any,.any,.any,.any,.any] rfl rfl rfl rfl rfl ?_;refine gr ?_;rw [hx]
 repeat' (first|refine c0 tF rfl (h2:= ?_)|refine gx ?_|fail)
 refine tb (!s9 (R7 ds v.name) 0) (fun g1=> ?_) (fun g1=> ?_)
 .have e1:eZ ss ds v=R7 ds v.name:=by unfold eZ;rw [g1];rfl
  refine gr ?_;exact ⟨_,_,rfl,by rw [e1];rfl,by rw [same _ e1 (by simpa using g1)];rfl⟩
 have hd0:R7 ds v.name=0:=fH (by simpa using g1);refine gr ?_;refine tb (!s9 v.kind 0&& !s9 v.kind 1&& !s9 v.kind 2) (fun g2=> ?_) (fun g2=> ?_)
 .have e1:eZ ss ds v=1:=by unfold eZ;rw [g1,g2];rfl
  refine gr ?_;exact ⟨_,_,rfl,by rw [e1];rfl,by rw [same 1 e1 (by simp [o8])];rfl⟩
 refine gr ?_;refine tB (E4 (I9 v.left (ss.map (·.1)) 0) 0||(!O1 v.right []&&E4 (I9 v.right (ss.map (·.1)) 0) 0)) ?_ (fun g3=> ?_) (fun g3=> ?_)
 .repeat' (first|refine c1 pL rfl ?_|refine c1 pR rfl ?_|refine gx ?_|refine fk (h1:=fun hw=> ?_) (h2:=fun hw=> ?_)|refine U1 (h1:=fun hw=> ?_) (h2:=fun hw=> ?_)|refine ⟨rfl,rfl,_,rfl,?_⟩|refine ⟨rfl,rfl⟩|fail)
  all_goals exact cc
 .have e1:eZ ss ds v=7:=by unfold eZ;rw [g1,g2,g3];rfl
  refine gr ?_;exact ⟨_,_,rfl,by rw [e1];rfl,by rw [same 7 e1 (by simp [o8])];rfl⟩
 have g3' :=g3;simp only [G8] at g3';have f1:=A3 g3'.1;have f2:O1 v.right []=false->0<=I9 v.right (ss.map (·.1)) 0:=fun h=>by
  have:=g3'.2;simp only [h,Bool.not_false,Bool.true_and] at this;exact A3 this
 have htL:=ht (I9 v.left (ss.map (·.1)) 0).toNat (by omega);have hsL:nth ss (I9 v.left (ss.map (·.1)) 0).toNat=bt ss v.left:=rfl;rw [hsL] at htL;refine gr ?_;refine tB (!lK v) ?_ (fun g4=> ?_) (fun g4=> ?_)
 .repeat' (first|refine cl (bC3) ?_|refine gx ?_|refine fk (h1:=fun hw=> ?_) (h2:=fun hw=> ?_)|refine U1 (h1:=fun hw=> ?_) (h2:=fun hw=> ?_)|refine ⟨rfl,rfl,_,rfl,?_⟩|refine ⟨rfl,rfl⟩|fail)
  all_goals exact cc
 .have e1:eZ ss ds v=1:=by unfold eZ;rw [g1,g2,g3,g4];rfl
  refine gr ?_;exact ⟨_,_,rfl,by rw [e1];rfl,by rw [same 1 e1 (by simp [o8])];rfl⟩
 refine gr ?_;refine Ex.nH [xa,xo,.cells (c.enc.map .d),.map (dmap (P7 ds v.name)),.map (fO (ss.map (·.1)) 0),.cells (c.enc.map .d++[.map 3,.map 4,E7 2 Z2 ss]),.cells (v.enc.map .d)] rfl ?_;refine Ex.region (Rn.z 5 7 [xa,xo,.cells (c.enc.map .d),.map (dmap (P7 ds v.name)),.map (fO (ss.map (·.1)) 0),.cells (c.enc.map .d++[.map 3,.map 4,E7 2 Z2 ss]),.cells (v.enc.map .d),.dead] rfl rfl (by decide) rfl rfl ?_);refine zm ?_;refine zp (rs:=[]) (.ptr 5 0) rfl ?_;refine zp (rs:=[]) (.ptr 5 10) rfl ?_;refine zp (rs:=[5]) (.d (B0 Z2 ss)) rfl ?_;refine zm ?_;refine zp (rs:=[]) (.ptr 6 2) rfl ?_;refine zp (rs:=[6]) (.d (.str v.left)) rfl ?_;refine zc pL rfl ?_ (hmn:=j5 rfl);refine zix (xs:=ss) (enc:=Z2) (e:=I9 v.left (ss.map (·.1)) 0) (by omega) ?_;refine zle ?_;rw [hsL];refine za (h2:= ?_);refine zs (h2:= ?_);refine zn ?_;refine gr ?_;refine Ex.as2 (fun s=>∃ (w0 w1 w2 w4 wa wb:c8),s=⟨[.ptr 5 0,w1,w2,.ptr 6 0,w4,.ptr 7 0,.ptr 8 0],[xa,xo,.cells (c.enc.map .d),.map (dmap (P7 ds v.name)),.map (fO (ss.map (·.1)) 0),.cells (c.enc.map .d++[.map 3,.map 4,E7 2 Z2 ss]),.cells (v.enc.map .d),.cells ((Z2 (bt ss v.left)).map .d),.cells [wa,wb]]⟩/\wa.J3= .d (B0 encS (Is ss v).2.1)/\wb.J3= .d (ints (Is ss v).2.2)/\(Is ss v).2.2.length<=5000) ?_ ?_
 .skip
  refine tb (!O1 v.right []) (fun g6=> ?_) (fun g6=> ?_)
  .simp only [o7] at g6
   have f3:=f2 g6;have htR:=ht (I9 v.right (ss.map (·.1)) 0).toNat (by omega);have hsR:nth ss (I9 v.right (ss.map (·.1)) 0).toNat=Is ss v:=by unfold Is;rw [g6];rfl
   rw [hsR] at htR
   repeat' (first|refine c1 pR rfl ?_|refine soD (h2:= ?_)|refine gx ?_|fail)
   rw [hsR];exact ⟨.any,_,_,_,_,_,rfl,rfl,rfl,by omega⟩
  .simp only [C8] at g6
   have hsR:Is ss v=([],[],[]):=by unfold Is;rw [g6];rfl
   refine gr ?_;exact ⟨.any,_,_,_,_,_,rfl,by rw [hsR];rfl,by rw [hsR];rfl,by rw [hsR];simp⟩
 rintro _ ⟨w0,w1,w2,w4,wa,wb,rfl,ha,hb,hrl⟩;have bG8:=aX2 (bt ss v.left).2.2 (Is ss v).2.2 (by omega);have Xs:=aX3 (bt ss v.left).2.1 (by omega) (by omega);have bG9:=aX4 (bt ss v.left).2.2 (by omega) (by omega);have aF0:=WO (bt ss v.left).2.1 (bt ss v.left).2.2 hd0;have bH0:=bC5 (bt ss v.left).2.2 (Is ss v).2.2 (by omega) hrl hd0;refine gr ?_;refine tb (s9 v.kind 2) (fun g7=> ?_) (fun g7=> ?_)
 .refine gr ?_
  refine tB (!fR s9 (bt ss v.left).2.2 (Is ss v).2.2) ?_ (fun g8=> ?_) (fun g8=> ?_)
  .repeat' (first|refine lpA hb ?_|refine cl (bG8) ?_|refine gx ?_|refine fk (h1:=fun hw=> ?_) (h2:=fun hw=> ?_)|refine U1 (h1:=fun hw=> ?_) (h2:=fun hw=> ?_)|refine ⟨rfl,rfl,_,rfl,?_⟩|refine ⟨rfl,rfl⟩|fail)
   all_goals exact cc
  .have e1:eZ ss ds v=5:=by unfold eZ;rw [g1,g2,g3,g4,g7,g8];rfl
   refine gr ?_;exact ⟨_,_,rfl,by rw [e1];rfl,by rw [same 5 e1 (by simp [o8])];rfl⟩
  have e1:eZ ss ds v=0:=by unfold eZ;rw [g1,g2,g3,g4,g7,g8];rfl
  have e2:sj ss ds v=ss++[(v.name,(bt ss v.left).2.1,(bt ss v.left).2.2)]:=by unfold sj;rw [e1,g7];simp [o8]
  rw [e2]
  repeat' (first|refine cl (Xs) ?_|refine cl (bG9) ?_|refine c0 aF0 rfl (h2:= ?_)|refine gx ?_|fail)
  exact ⟨_,_,rfl,by rw [e1];rfl,rfl⟩
 .have e1:eZ ss ds v=jO v (bt ss v.left).2.2 (Is ss v).2.2:=by unfold eZ;rw [g1,g2,g3,g4,g7];rfl
  have e2:sj ss ds v=GP ss v (bt ss v.left).2.2 (Is ss v).2.2:=by unfold sj GP;rw [e1,g7];rfl
  rw [e2]
  repeat' (first|refine lpA hb ?_|refine c0 bH0 rfl (h2:= ?_)|refine gx ?_|fail)
  exact ⟨_,_,rfl,by rw [e1];rfl,rfl⟩
def cnt (c:r9):Nat->Nat
 |0=>c.j9.length
 |1=>c.views.length
 |2=>c.idxs.length
 |3=>c.M3.length
 |4=>c.N5.length
 |5=>c.R3.length
 |6=>c.S0.length
 |_=>c.V3.length
def MJ:Nat->Nat
 |0=>8
 |1=>12
 |_=>16
def fid (q:Nat):FuncId:=149+q
def aC (c:r9):Nat->Nat
 |0=>0
 |q+1=>aC c q+cnt c q
def ct (c:r9)(q:Nat):List c8:=[.d (num (cnt c q)),.d (num (MJ q)),.func (fid q) [.ptr 5 0] []]
def iS (c:r9):List c8:=ct c 0++ct c 1++ct c 2++ct c 3++ct c 4++ct c 5++ct c 6++ct c 7
def JQ (c:r9)(q:Nat)(h:q<8)(H:p9)(hH:H[6]? =some (.cells (iS c))):rd H 6 (0+q * 3) 3=some (ct c q):=by
 simp only [rd,hH]
 match q,h with
 |0,_=>rfl
 |1,_=>rfl
 |2,_=>rfl
 |3,_=>rfl
 |4,_=>rfl
 |5,_=>rfl
 |6,_=>rfl
 |7,_=>rfl
def wz (l:List c8):(A1.cells l).O5=C5 l:=rfl
def Gp (es:List (Key×c8)):(A1.map es).O5=C5 (es.map (·.2)):=rfl
def UI [Inhabited XO] (c:r9)(ds:List K4)(ss:List gj):Z9 (HH c ds ss)<=6:=by
 have h1:=uq ds;have h2:=uE (ss.map (·.1)) 0;have ha:=(default:XO).ha;have hb:=(default:XO).hb;have e1:C5 (c.enc.map c8.d)=0:=rfl;have e2:C5 (c.enc.map c8.d++[.map 3,.map 4,E7 2 Z2 ss])=5:=rfl;simp only [HH,Z9,xa,xo,ha,hb,wz,Gp,h1,h2,e1,e2]
 decide
def OI [Inhabited XO] (c:r9)(ds:List K4)(ss:List gj):ah (HH c ds ss) 0=true:=by
 have h1:=uq ds;have h2:=uE (ss.map (·.1)) 0;have ha:=(default:XO).ha;have hb:=(default:XO).hb;have e1:C5 (c.enc.map c8.d)=0:=rfl;have e2:C5 (c.enc.map c8.d++[.map 3,.map 4,E7 2 Z2 ss])=5:=rfl;simp only [HH,ah,xa,xo,ha,hb,wz,Gp,h1,h2,e1,e2]
 decide
def Qj {H:p9}(h:ah ((H.take 6).drop 0) 0=true):F7 H 0 6=6:=by
 unfold F7;rw [if_neg (by decide),if_pos h]
def Vx {q:Nat}(h:q<8):A.prom (fid q)=false/\A.mode (fid q)=0:=by
 match q,h with
 |0,_=>exact ⟨rfl,rfl⟩
 |1,_=>exact ⟨rfl,rfl⟩
 |2,_=>exact ⟨rfl,rfl⟩
 |3,_=>exact ⟨rfl,rfl⟩
 |4,_=>exact ⟨rfl,rfl⟩
 |5,_=>exact ⟨rfl,rfl⟩
 |6,_=>exact ⟨rfl,rfl⟩
 |7,_=>exact ⟨rfl,rfl⟩
def Kk (c:r9):aC c 8=c.names.length:=by simp [aC,cnt,r9.names];omega
def ag2 (c:r9){q:Nat}(h:q<8):aC c q+cnt c q<=c.names.length:=by
 rw [<- Kk]
 match q,h with
 |0,_=>simp only [aC];omega
 |1,_=>simp only [aC];omega
 |2,_=>simp only [aC];omega
 |3,_=>simp only [aC];omega
 |4,_=>simp only [aC];omega
 |5,_=>simp only [aC];omega
 |6,_=>simp only [aC];omega
 |7,_=>simp only [aC];omega
def ae7 {c:r9}{q:Nat}(h:q<8)(h2:E4 (MJ q) (cnt c q)=true):tooMany c=true:=by
 unfold tooMany EC
 match q,h with
 |0,_=>simp only [MJ,cnt] at h2;simp [show E4 8 c.j9.length=true from h2]
 |1,_=>simp only [MJ,cnt] at h2;simp [show E4 12 c.views.length=true from h2]
 |2,_=>simp only [MJ,cnt] at h2;simp [show E4 16 c.idxs.length=true from h2]
 |3,_=>simp only [MJ,cnt] at h2;simp [show E4 16 c.M3.length=true from h2]
 |4,_=>simp only [MJ,cnt] at h2;simp [show E4 16 c.N5.length=true from h2]
 |5,_=>simp only [MJ,cnt] at h2;simp [show E4 16 c.R3.length=true from h2]
 |6,_=>simp only [MJ,cnt] at h2;simp [show E4 16 c.S0.length=true from h2]
 |7,_=>simp only [MJ,cnt] at h2;simp [show E4 16 c.V3.length=true from h2]
def aw6 {c:r9}(h:∀ p,p<8->cnt c p<=MJ p):tooMany c=false:=by
 have h0:=h 0 (by omega);have h1:=h 1 (by omega);have h2:=h 2 (by omega);have h3:=h 3 (by omega);have h4:=h 4 (by omega);have h5:=h 5 (by omega);have h6:=h 6 (by omega);have h7:=h 7 (by omega);simp only [cnt,MJ] at h0 h1 h2 h3 h4 h5 h6 h7;simp only [tooMany,EC,u0,G8,decide_eq_false_iff_not];omega
def OJ [Inhabited XO] (c:r9)(ds:List K4)(ss:List gj):Z9 (HH c ds ss++[.cells (iS c)])<=7:=by
 have h1:=uq ds;have h2:=uE (ss.map (·.1)) 0;have ha:=(default:XO).ha;have hb:=(default:XO).hb;have e1:C5 (c.enc.map c8.d)=0:=rfl;have e2:C5 (c.enc.map c8.d++[.map 3,.map 4,E7 2 Z2 ss])=5:=rfl;have e3:C5 (iS c)=6:=rfl;simp only [HH,F8,E0,Z9,xa,xo,ha,hb,wz,Gp,h1,h2,e1,e2,e3]
 decide
def JP (c:r9)(q:Nat):C5 (ct c q)<=7+1:=by
 exact j5 rfl
def zM [Inhabited XO] (c:r9)(fds:List K4)(fss:List gj)(v:c8)(H1:p9):Prop :=
 (∃ R,H1=xa::xo::R)/\(s9 (V7 c).2 0=false->v= .tuple [.d .cu,.d (num (V7 c).1),.d (num (V7 c).2)]) /\
  (s9 (V7 c).2 0=true->v= .tuple [.ptr 5 0,.d (num 0),.d (num 0)]/\H1=HH c fds fss++[.cells (iS c)])
def Nc [Inhabited XO] {c:r9}{fds:List K4}{fss:List gj}{v:c8}{H1:p9}(h:zM c fds fss v H1):2<=H1.length:=by
 obtain ⟨⟨R,rfl⟩,_⟩:=h;simp
set_option maxHeartbeats 32000000 in
def bG2 [Inhabited XO] (c:r9)(hf:c.oB)(ST:Nat->List K4->List gj->Prop)(bv1:ST 0 [] [])(hST:∀ g ds ss ds' ss',ST g ds ss->ST g ds' ss' ->ds=ds' /\ss=ss')(fds:List K4)(fss:List gj)(bv2:∀ ds ss,ST c.names.length ds ss->ds=fds/\ss=fss)
  (hstep:∀ q i ds ss,q<8->i<cnt c q->tooMany c=false->lG c (aC c q+i)->ST (aC c q+i) ds ss->∃ dz sz,(Q6 c (aC c q+i)=0->ST (aC c q+i+1) dz sz)/\Pm A (fid q) [.ptr 5 0,.d (num i)] (HH c ds ss) lW (.d (num (Q6 c (aC c q+i)))) (HH c dz sz)) :
  Pq A 101 [cat c] [xa,xo] an (zM c fds fss):=by
 obtain ⟨f0,f1,f2,f3,f4,f5,f6,f7⟩:=id hf;have hcn:∀ q,cnt c q<=1000:=fun q=>by unfold cnt;split<;>assumption
 have hlm:∀ q,MJ q<=16:=fun q=>by unfold MJ;split<;>omega
 refine Pq.run (b:=2) [cat c,.any,.any,.any,.any,.any,.any,.any,.any,.any,.any,.any,.any,.any,.any,.any,.any,.any,.any,.any] rfl rfl rfl rfl rfl ?_
 repeat' (first|refine mk (h2:= ?_)|refine Dv (cs:=c.enc.map .d++[.map 3,.map 4,E7 2 Z2 []]) ?_|refine Dv (cs:=ct c 0) ?_|refine Dv (cs:=ct c 1) ?_|refine Dv (cs:=ct c 2) ?_|refine Dv (cs:=ct c 3) ?_|refine Dv (cs:=ct c 4) ?_|refine Dv (cs:=ct c 5) ?_|refine Dv (cs:=ct c 6) ?_|refine Dv (cs:=ct c 7) ?_|refine gx ?_|fail)
 refine bso (iS c) rfl ⟨by decide,rfl⟩ (h2:= ?_)
 repeat' (first|refine lrT (h2:= ?_)|refine gx ?_|fail)
 refine Ex.cV (fun k T H=>∃ (q:Nat),T=[.any,.any,.any,.any,.any,.ptr 5 0,.B4 6 3 0 8,.any,.any,.any,.any,.any,.B4 6 3 0 8,.d (num (8:Nat)),.d (num q),.any,.any,.any,.any,.any]/\H=[xa,xo,.cells (c.enc.map .d),.map [],.map [],.cells (c.enc.map .d++[.map 3,.map 4,E7 2 Z2 []]),.cells (iS c)]/\q+k=8/\∀ p,p<q->cnt c p<=MJ p) ?_ (k:=8) ⟨0,rfl,rfl,by simp,fun p h=>absurd h (by omega)⟩;rintro k _ _ ⟨q,rfl,rfl,hk,hq⟩;have b1:=hcn q;have b2:=hlm q;have hbk:=JP c q;refine Ex.seq ?_;refine tb (E4 q (8:Nat)) (fun g1=> ?_) (fun g1=> ?_)
 .have g2:=A6 g1
  have hq8:q<8:=by omega
  have hka:=JQ c q hq8 ([xa,xo,.cells (c.enc.map .d),.map [],.map [],.cells (c.enc.map .d++[.map 3,.map 4,E7 2 Z2 []]),.cells (iS c)]) rfl
  repeat' (first|refine ixs (i:=q) (len:=8) hq8 ?_|refine lqV hka rfl ?_|refine soB (cs:=ct c q) (id:=7) hbk (h2:= ?_)|refine gx ?_|fail)
  refine tb (E4 (MJ q) (cnt c q)) (fun g3=> ?_) (fun g3=> ?_)
  .have ht:=ae7 hq8 g3
   have e1:V7 c=(0,8):=by unfold V7;rw [ht];rfl
   refine gr ?_;exact ⟨_,_,rfl,⟨_,rfl⟩,fun _=>by rw [e1];rfl,fun h=>by rw [e1] at h;simp [o8] at h⟩
  .have g4:=A3 g3
   refine gr ?_;exact ⟨k - 1,by omega,_,_,V8 (j5 rfl) (OJ c [] []),q+1,rfl,rfl,by omega,fun p hp=>by
    rcases A5 p q with h|h
    .exact hq p h
    .obtain rfl:p=q:=by omega
     omega⟩
 have g2:=A3 g1;have Pw:=aw6 (c:=c) (fun p hp=>hq p (by omega));clear g1 g2 hk hq b1 b2 hbk
 repeat' (first|refine lrT (h2:= ?_)|refine gx ?_|fail)
 refine Ex.cV (fun k T H=>∃ (q g:Nat) (ds:List K4) (ss:List gj),T=[.any,.any,.any,.any,.any,.ptr 5 0,.any,.any,.d (num g),.any,.any,.any,.any,.any,.any,.B4 6 3 0 8,.d (num (8:Nat)),.d (num q),.any,.any]/\H=[xa,xo,.cells (c.enc.map .d),.map (dmap ds),.map (fO (ss.map (·.1)) 0),.cells (c.enc.map .d++[.map 3,.map 4,E7 2 Z2 ss]),.cells (iS c)]/\q+k=8/\g=aC c q/\ST g ds ss/\lG c g/\V7 c=gY c (c.names.length - g) g) ?_ (k:=8) ⟨0,0,[],[],rfl,rfl,by simp,rfl,bv1,fun m h=>absurd h (by omega),by unfold V7;rw [Pw];rfl⟩;rintro k _ _ ⟨q,g,ds,ss,rfl,rfl,hk,hg,hst,hok,hch⟩;have b1:=hcn q;have hbk:=JP c q;refine Ex.seq ?_;refine tb (E4 q (8:Nat)) (fun g1=> ?_) (fun g1=> ?_)
 .have g2:=A6 g1
  have hq8:q<8:=by omega
  have hka:=JQ c q hq8 ([xa,xo,.cells (c.enc.map .d),.map (dmap ds),.map (fO (ss.map (·.1)) 0),.cells (c.enc.map .d++[.map 3,.map 4,E7 2 Z2 ss]),.cells (iS c)]) rfl
  repeat' (first|refine ixs (i:=q) (len:=8) hq8 ?_|refine lqV hka rfl ?_|refine soB (cs:=ct c q) (id:=7) hbk (h2:= ?_)|refine gx ?_|fail)
  refine Ex.I7 (fun k T H=>∃ (i g:Nat) (ds:List K4) (ss:List gj) (w0 w1 w2 w3 w4 w6 w7 iL iM Lu Qu Lv:c8),T=[w0,w1,w2,w3,w4,.ptr 5 0,w6,w7,.d (num g),.ptr 7 0,iL,iM,Lu,Qu,Lv,.B4 6 3 0 8,.d (num (8:Nat)),.d (num q),.d (num (cnt c q)),.d (num i)]/\H=[xa,xo,.cells (c.enc.map .d),.map (dmap ds),.map (fO (ss.map (·.1)) 0),.cells (c.enc.map .d++[.map 3,.map 4,E7 2 Z2 ss]),.cells (iS c),.cells (ct c q)]/\i+k=cnt c q/\g=aC c q+i/\ST g ds ss/\lG c g/\V7 c=gY c (c.names.length - g) g) (by rintro _ _ _ ⟨_,_,_,_,_,_,_,_,_,_,_,_,_,_,_,_,_,rfl,_⟩;rfl) ?_ (k:=cnt c q) ⟨0,g,ds,ss,_,_,_,_,_,_,_,_,_,_,_,_,rfl,rfl,by simp,by omega,hst,hok,hch⟩;clear hst hok hch hka;rintro k2 _ _ ⟨i,g,ds,ss,w0,w1,w2,w3,w4,w6,w7,iL,iM,Lu,Qu,Lv,rfl,rfl,hk2,hg2,hst,hok,hch⟩;have hol:=ag2 c hq8;have hnl:c.names.length<=8000:=by simp [r9.names];omega
  refine Ex.nT ?_;refine Ex.seq ?_;refine tb (E4 i (cnt c q)) (fun g3=> ?_) (fun g3=> ?_)
  .have g4:=A6 g3
   have hb5:=UI c ds ss;have hd5:=OI c ds ss;subst hg2;obtain ⟨dz,sz,hz,Py⟩:=hstep q i ds ss hq8 (by omega) Pw hok hst;unfold HH at Py hb5 hd5;obtain ⟨N,hN⟩:∃ N,c.names.length - (aC c q+i)=N+1:=⟨c.names.length - (aC c q+i) - 1,by omega⟩;rw [hN,gY] at hch;have hfp:=Vx hq8;refine gr ?_;have hs5:F7 ([xa,xo,.cells (c.enc.map .d),.map (dmap ds),.map (fO (ss.map (·.1)) 0),.cells (c.enc.map c8.d++[.map 3,.map 4,E7 2 Z2 ss]),.cells (iS c),.cells (ct c q)]) 0 6=6:=Qj (H:=[xa,xo,.cells (c.enc.map .d),.map (dmap ds),.map (fO (ss.map (·.1)) 0),.cells (c.enc.map c8.d++[.map 3,.map 4,E7 2 Z2 ss]),.cells (iS c),.cells (ct c q)]) hd5;refine cv0 (lD:=hfp.1) (hm:=hfp.2) Py rfl hb5 (wE hb5) rfl (qU:=by show H7.mk 0 0 6 (F7 _ 0 6)=lW;rw [hs5];rfl) (h2:= ?_);refine gr ?_;refine tb (!s9 (Q6 c (aC c q+i)) 0) (fun g5=> ?_) (fun g5=> ?_)
   .have e1:V7 c=(((aC c q+i:Nat):Int),Q6 c (aC c q+i)):=by rw [hch,g5];rfl
    have e2:s9 (Q6 c (aC c q+i)) 0=false:=by simpa using g5
    refine gr ?_;exact ⟨_,_,rfl,⟨_,rfl⟩,fun _=>by rw [e1];rfl,fun h=>by rw [e1] at h;simp only [e2] at h;cases h⟩
   .have e2:Q6 c (aC c q+i)=0:=fH (by simpa using g5)
    rw [g5,if_neg (by simp)] at hch;have by5 :=hz e2;refine gr ?_;refine ⟨k2 - 1,by omega,i+1,aC c q+i+1,dz,sz,_,_,_,_,_,_,_,_,_,_,_,_,rfl,rfl,by omega,by omega,by5,fun m hm=> ?_,?_⟩
    .rcases A5 m (aC c q+i) with h|h
     .exact hok m h
     .obtain rfl:m=aC c q+i:=by omega
      exact e2
    .have:c.names.length - (aC c q+i+1)=N:=by omega
     rw [this];exact hch
  .have g4:=A3 g3
   refine gr ?_;refine ⟨k - 1,by omega,_,_,V8 ?_ ?_,q+1,g,ds,ss,rfl,rfl,by omega,?_,hst,hok,hch⟩
   .exact j5 rfl
   .exact OJ c ds ss
   .simp only [aC];omega
 have g2:=A3 g1;obtain rfl:q=8:=by omega
 rw [Kk] at hg;subst hg;rw [Nat.sub_self] at hch;obtain ⟨rfl,rfl⟩:=bv2 ds ss hst;refine gr ?_;have e1:V7 c=(0,0):=hch;exact ⟨_,_,rfl,⟨_,rfl⟩,fun h=>by rw [e1] at h;simp [o8] at h,fun _=>⟨rfl,rfl⟩⟩
end Go.Proofs.YtibjocmpkoepoaaGreat


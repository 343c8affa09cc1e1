/-
  The program's views: shape, copies, aggregates.; The program's views: columns gathered one by one.; The program's views: the inputs.
  (Put together by a small program out of several texts; blanks left out to keep the folder small.)
-/
import Derived.Test.YtkmclibmmlgogaaGreatD4
import Derived.Test.YtkmclibmmlgogaaGreatB6
import Derived.Test.YtkmclibmmlgogaaGreatD8
import Derived.Test.YtkmclibmmlgogaaGreatD5
set_option linter.unusedVariables false
set_option linter.unusedSimpArgs false
namespace Go.Proofs.YtkmclibmmlgogaaGreat
open Go.Abs Go.Abs.S
attribute [local irreducible] Rx Ry Rn Ex Pf
def vw' (v:Vw):AVal:= .agg (v.enc.map .d)
def shapeP (v:Vw):Bool :=
 if eqB v.kind 2 then !seB v.right []&&eqB v.on.length 0&&eqB v.wh.length 0&&eqB v.items.length 0&&eqB v.aggs.length 0&& !v.distinct
 else if (ltB 0 v.on.length&&seB v.right [])||ltB 8 v.on.length then false
 else if eqB v.kind 0&&(eqB v.items.length 0||ltB 0 v.aggs.length) then false
 else if eqB v.kind 1&&(eqB v.aggs.length 0||v.distinct) then false
 else leB (v.items.length+v.aggs.length) 8
set_option maxHeartbeats 8000000 in
theorem pf116 (v:Vw)(h0:v.items.length≤1000)(h1:v.aggs.length≤1000):Pf A 116 [vw' v] (.d (.bool (shapeP v))):=by
 refine Pf.run [vw' v,.any,.any] rfl rfl rfl rfl ?_
 repeat' (first|refine gx ?_|fail)
 refine tb (eqB v.kind 2) (fun g1=> ?_) (fun g1=> ?_)
 ·repeat' (first|refine gx ?_|refine fk (h1:=fun hw=> ?_) (h2:=fun hw=> ?_)|refine fpk (h1:=fun hw=> ?_) (h2:=fun hw=> ?_)|refine Ex.condP ?_|refine Ex.condN ?_|refine Ex.cond rfl (fun ht=> ?_) (fun ht=> ?_)|refine Ex.test (Rn.text ?_)|refine Ex.test (Rn.draw ?_)|refine ⟨_,rfl,fun ht=> ?_,fun ht=> ?_⟩|refine ⟨_,rfl,?_⟩|fail)
  all_goals unfold shapeP
  all_goals rw [g1]
  all_goals simp [*,oneOrTuple]
 repeat' (first|refine gx ?_|fail)
 refine tb ((ltB 0 v.on.length&&seB v.right [])||ltB 8 v.on.length) (fun g2=> ?_) (fun g2=> ?_)
 ·repeat' (first|refine gx ?_|fail)
  exact ⟨_,rfl,by unfold shapeP;rw [g1,g2];rfl⟩
 repeat' (first|refine gx ?_|fail)
 refine tb (eqB v.kind 0&&(eqB v.items.length 0||ltB 0 v.aggs.length)) (fun g3=> ?_) (fun g3=> ?_)
 ·repeat' (first|refine gx ?_|fail)
  exact ⟨_,rfl,by unfold shapeP;rw [g1,g2,g3];rfl⟩
 repeat' (first|refine gx ?_|fail)
 refine tb (eqB v.kind 1&&(eqB v.aggs.length 0||v.distinct)) (fun g4=> ?_) (fun g4=> ?_)
 ·repeat' (first|refine gx ?_|fail)
  exact ⟨_,rfl,by unfold shapeP;rw [g1,g2,g3,g4];rfl⟩
 repeat' (first|refine gx ?_|fail)
 exact ⟨_,rfl,by unfold shapeP;rw [g1,g2,g3,g4];rfl⟩
theorem nS {A:Go.Abs.Prog}{l:Lim}{b:Nat}{dr:Bool}{ais ops:List AIns}{T:List AVal}{H:Heap}{n:Nat}{rl:List AVal}{tch:List Abs.Touch}{Q:List AVal→Heap→List AVal→Prop}{α:Type}{enc:α→List Abs.Data}{xs:List α}{neg:Bool}{x:Opd}{u:List Nat}
  (h0:0<xs.length) (h2:Ry A l b dr ais ops T H (n+1) (.d (.bool neg)::rl) tch Q) (hx:rq T n rl x= .d (encL enc xs):=by rfl):Ry A l b dr ais (⟨.nilS neg x,none,none,u⟩::ops) T H n rl tch Q :=
 Ry.pure (rs:=[]) rfl (by simp [pureOp,hx,encL,h0]) h2
theorem pf118 (xs:List Str)(h0:0<xs.length)(h1:xs.length≤100000):Pf A 118 [.d (encL (fun s=>[.str s]) xs)] (ownL 1 (fun s=>[.str s]) xs):=by
 refine Pf.run [.d (encL (fun s=>[.str s]) xs),.any] rfl rfl rfl rfl ?_
 repeat' (first|refine gx ?_|fail)
 first|refine Ex.testB (false) (Rn.text ?_) (fun h2=> ?_) (fun h2=> ?_)|refine Ex.testB (false) (Rn.draw ?_) (fun h2=> ?_) (fun h2=> ?_)
 ·repeat' (first|refine nS h0 ?_|refine gx ?_|refine fk (h1:=fun hw=> ?_) (h2:=fun hw=> ?_)|refine fpk (h1:=fun hw=> ?_) (h2:=fun hw=> ?_)|refine ⟨rfl,rfl,_,rfl,?_⟩|refine ⟨rfl,rfl⟩|fail)
  all_goals first|(simp [*,oneOrTuple];done)|(simp_all [oneOrTuple];done)|(simp_all [oneOrTuple,ltB_eq,leB_eq,eqB_eq,seB_eq];done)|(simp_all [oneOrTuple,ltB_eq,leB_eq,eqB_eq,seB_eq]<;>omega)
 ·cases h2
 repeat' (first|refine gx ?_|fail)
 exact ⟨_,rfl,rfl⟩
theorem pf119 (xs:List Int)(h0:0<xs.length)(h1:xs.length≤100000):Pf A 119 [.d (ints xs)] (ownL 1 (fun n=>[num n]) xs):=by
 refine Pf.run [.d (ints xs),.any] rfl rfl rfl rfl ?_
 repeat' (first|refine gx ?_|fail)
 first|refine Ex.testB (false) (Rn.text ?_) (fun h2=> ?_) (fun h2=> ?_)|refine Ex.testB (false) (Rn.draw ?_) (fun h2=> ?_) (fun h2=> ?_)
 ·repeat' (first|refine nS h0 ?_|refine gx ?_|refine fk (h1:=fun hw=> ?_) (h2:=fun hw=> ?_)|refine fpk (h1:=fun hw=> ?_) (h2:=fun hw=> ?_)|refine ⟨rfl,rfl,_,rfl,?_⟩|refine ⟨rfl,rfl⟩|fail)
  all_goals first|(simp [*,oneOrTuple];done)|(simp_all [oneOrTuple];done)|(simp_all [oneOrTuple,ltB_eq,leB_eq,eqB_eq,seB_eq];done)|(simp_all [oneOrTuple,ltB_eq,leB_eq,eqB_eq,seB_eq]<;>omega)
 ·cases h2
 repeat' (first|refine gx ?_|fail)
 exact ⟨_,rfl,rfl⟩
theorem pm172 (n:Nat)(h:n≤1000000)(l:Lim):Pm A 172 [.nils,.d (num n)] [] l (.own 1 0 []) []:=by
 refine ⟨1,fun k hk=> ?_⟩
 obtain ⟨k,rfl⟩:∃ j,k=j+1:=⟨k - 1,by omega⟩
 have h1:A.prim 172=some pGrow:=rfl
 simp only [call,h1,pGrow,num]
 rw [if_pos (by omega)]
def encIs (l:List Int):List Abs.Data:=[ints l]
set_option maxHeartbeats 4000000 in
theorem pf152 (xss:List (List Int))(h0:xss.length≤100)(h1:∀ i,i<xss.length→(nth xss i).length≤10000):Pf A 152 [.d (encL encIs xss)] (.d (ints xss.flatten)):=by
 refine Pf.run [.d (encL encIs xss),.any,.any,.any,.any,.any,.any,.any,.any,.any,.any,.any] rfl rfl rfl rfl ?_
 repeat' (first|refine gx ?_|fail)
 refine Ex.loopS (fun k T H=>∃ (i m:Nat) (w1 w3 w4 w5 w9 w10 w11:AVal),T=[.d (encL encIs xss),w1,.d (num m),w3,w4,w5,.d (encL encIs xss),.d (num xss.length),.d (num i),w9,w10,w11]∧H=[]∧i+k=xss.length∧m≤i * 10000) (by rintro _ _ _ ⟨_,_,_,_,_,_,_,_,_,_,rfl,_⟩;rfl) ?_ (k:=xss.length) ⟨0,0,_,_,_,_,_,_,_,rfl,rfl,by simp,by simp⟩
 rintro k _ _ ⟨i,m,w1,w3,w4,w5,w9,w10,w11,rfl,rfl,hk,hm⟩
 refine Ex.nT ?_
 refine Ex.seq ?_
 refine tb (ltB i xss.length) (fun h2=> ?_) (fun h2=> ?_)
 ·have h3:=ltB_t h2
  have h4:=h1 i (by omega)
  have h5:m≤1000000:=by omega
  repeat' (first|refine gx ?_|fail)
  refine tb (false) (fun h6=> ?_) (fun h6=> ?_)
  ·cases h6
  repeat' (first|refine gx ?_|fail)
  exact ⟨k - 1,by omega,i+1,m+(nth xss i).length,_,_,_,_,_,_,_,rfl,rfl,by omega,by omega⟩
 have h3:=ltB_f h2
 have h5:m≤1000000:=by omega
 have p1:=pm172 m h5
 clear h2 hm
 repeat' (first|refine c0 (p1 _) rfl (h2:= ?_)|refine gx ?_|fail)
 refine Ex.loopS (fun k T H=>∃ (i:Nat) (acc:List Int) (w0 w1 w2 w3 w5 w6 w7 w8:AVal),T=[w0,w1,w2,w3,ownL 1 (fun n=>[num n]) acc,w5,w6,w7,w8,.d (encL encIs xss),.d (num xss.length),.d (num i)]∧H=[]∧i+k=xss.length∧acc.length≤i * 10000∧xss.flatten=acc++(xss.drop i).flatten) (by rintro _ _ _ ⟨_,_,_,_,_,_,_,_,_,_,_,rfl,_⟩;rfl) ?_ (k:=xss.length) ⟨0,[],_,_,_,_,_,_,_,_,rfl,rfl,by simp,by simp,by simp⟩
 rintro k _ _ ⟨i,acc,w0,w1,w2,w3,w5,w6,w7,w8,rfl,rfl,hk,hl,hacc⟩
 refine Ex.nT ?_
 refine Ex.seq ?_
 refine tb (ltB i xss.length) (fun h2=> ?_) (fun h2=> ?_)
 ·have h6:=ltB_t h2
  have h7:=h1 i (by omega)
  rw [drop_nth (by omega)] at hacc
  have h8:acc.length≤1000000:=by omega
  repeat' (first|refine gx ?_|fail)
  exact ⟨k - 1,by omega,i+1,acc++nth xss i,_,_,_,_,_,_,_,_,rfl,rfl,by omega,by simp;omega,by rw [hacc];simp⟩
 ·have h6:=ltB_f h2
  rw [List.drop_of_length_le (by omega)] at hacc
  repeat' (first|refine gx ?_|fail)
  exact ⟨_,rfl,by rw [hacc];simp [oneOrTuple,ints,encL]⟩
def agr (a:Agr):AVal:= .agg (a.enc.map .d)
def aggP (ty:List Int)(a:Agr):Int×Int :=
 if eqB a.func 0 then (if ltB 0 a.expr.length then (0,1) else (1,0))
 else if eqB a.func 1||eqB a.func 2||eqB a.func 3||eqB a.func 4 then (if !eqB (typeS a.expr ty).2 0 then (0,(typeS a.expr ty).2) else if eqB a.func 1&& !eqB (typeS a.expr ty).1 1 then (0,5) else ((typeS a.expr ty).1,0))
 else (0,1)
set_option maxHeartbeats 8000000 in
theorem pf157 (ty:List Int)(a:Agr)(h0:a.expr.length≤1000)(h1:ty.length≤100000):Pf A 157 [agr a,.d (ints ty)] (pair (aggP ty a)):=by
 have p1:=pf153 a.expr ty h0 h1
 unfold pair at p1
 refine Pf.run [agr a,.d (ints ty),.any,.any,.any,.any,.any,.any,.any] rfl rfl rfl rfl ?_
 repeat' (first|refine cl (p1) ?_|refine gx ?_|refine fk (h1:=fun hw=> ?_) (h2:=fun hw=> ?_)|refine fpk (h1:=fun hw=> ?_) (h2:=fun hw=> ?_)|refine Ex.condP ?_|refine Ex.condN ?_|refine Ex.cond rfl (fun ht=> ?_) (fun ht=> ?_)|refine Ex.test (Rn.text ?_)|refine Ex.test (Rn.draw ?_)|refine ⟨_,rfl,fun ht=> ?_,fun ht=> ?_⟩|refine ⟨_,rfl,?_⟩|fail)
 all_goals unfold aggP pair
 all_goals first|(simp [*,oneOrTuple,AVal.asD,num];done)|(simp_all [oneOrTuple,AVal.asD,num];done)
end Go.Proofs.YtkmclibmmlgogaaGreat
namespace Go.Proofs.YtkmclibmmlgogaaGreat
open Go.Abs Go.Abs.S
attribute [local irreducible] Rx Ry Rn Ex Pf
def l9:Lim:=⟨0,0,9,9⟩
def l9R:Lim:=⟨0,9,9,9⟩
def own2 (nm:List Str)(ty:List Int):List AVal:=[ownL 1 encS nm,ownL 1 (fun n=>[num n]) ty]
theorem pm155 (a0 a1 a2 a3 a4 a5 a7:AObj)(ty:List Int)(x:Itm)(h0:x.expr.length≤1000)(h1:ty.length≤100000) :
  Pm A 155 [.ptr 8 0,.ptr 6 0] [a0,a1,a2,a3,a4,a5,.cells [.d (ints ty)],a7,.cells (x.enc.map .d)] l9R (pair (typeS x.expr ty)) [a0,a1,a2,a3,a4,a5,.cells [.d (ints ty)],a7,.cells (x.enc.map .d)]:=by
 have p1:=pf153 x.expr ty h0 h1
 unfold pair at *
 suffices h:Pq A 155 [.ptr 8 0,.ptr 6 0] [a0,a1,a2,a3,a4,a5,.cells [.d (ints ty)],a7,.cells (x.enc.map .d)] l9R fun v H1=>v= .tuple [.d (num (typeS x.expr ty).1),.d (num (typeS x.expr ty).2)]∧H1=[a0,a1,a2,a3,a4,a5,.cells [.d (ints ty)],a7,.cells (x.enc.map .d)] by
  obtain ⟨v,H1,⟨rfl,rfl⟩,h⟩:=h;exact h
 refine Pq.run (b:=9) [.ptr 8 0,.ptr 6 0,.any,.any] rfl rfl rfl rfl rfl ?_
 repeat' (first|refine cl (p1) ?_|refine gx ?_|fail)
 exact ⟨_,_,rfl,rfl,rfl⟩
theorem pm156 (a0 a1 a2 a3 a4 a5 a7:AObj)(ty:List Int)(x:Agr)(h0:x.expr.length≤1000)(h1:ty.length≤100000) :
  Pm A 156 [.ptr 8 0,.ptr 6 0] [a0,a1,a2,a3,a4,a5,.cells [.d (ints ty)],a7,.cells (x.enc.map .d)] l9R (pair (aggP ty x)) [a0,a1,a2,a3,a4,a5,.cells [.d (ints ty)],a7,.cells (x.enc.map .d)]:=by
 have p1:=pf157 ty x h0 h1
 unfold pair at *
 suffices h:Pq A 156 [.ptr 8 0,.ptr 6 0] [a0,a1,a2,a3,a4,a5,.cells [.d (ints ty)],a7,.cells (x.enc.map .d)] l9R fun v H1=>v= .tuple [.d (num (aggP ty x).1),.d (num (aggP ty x).2)]∧H1=[a0,a1,a2,a3,a4,a5,.cells [.d (ints ty)],a7,.cells (x.enc.map .d)] by
  obtain ⟨v,H1,⟨rfl,rfl⟩,h⟩:=h;exact h
 refine Pq.run (b:=9) [.ptr 8 0,.ptr 6 0,.any,.any] rfl rfl rfl rfl rfl ?_
 repeat' (first|refine cl (p1) ?_|refine gx ?_|fail)
 exact ⟨_,_,rfl,rfl,rfl⟩
def addE (nm:List Str)(s:Str)(r:Int×Int):Int:=if !isNameB s then 3 else if nm.any fun y=>seB y s then 4 else if !eqB r.2 0 then r.2 else 0
def addN (nm:List Str)(s:Str)(r:Int×Int):List Str:=if eqB (addE nm s r) 0 then nm++[s] else nm
def addT (nm:List Str)(ty:List Int)(s:Str)(r:Int×Int):List Int:=if eqB (addE nm s r) 0 then ty++[r.1] else ty
set_option maxHeartbeats 8000000 in
theorem pm154 (f:FuncId)(hf1:A.prom f=false)(hf2:A.mode f=1)(a0 a1 a2 a3 a4 a5:AObj)(ty:List Int)(nm:List Str)(tys:List Int)(cs:List Abs.Data)(s:Str)(r:Int×Int)(hn:nm.length≤10000)(ht:tys.length≤10000)
  (hc:∀ a7,Pm A f [.ptr 8 0,.ptr 6 0] [a0,a1,a2,a3,a4,a5,.cells [.d (ints ty)],a7,.cells (cs.map .d)] l9R (pair r) [a0,a1,a2,a3,a4,a5,.cells [.d (ints ty)],a7,.cells (cs.map .d)]) :
  Pm A 154 [.ptr 7 0,.d (.str s),.func f [] [.ptr 8 0,.ptr 6 0]] [a0,a1,a2,a3,a4,a5,.cells [.d (ints ty)],.cells (own2 nm tys),.cells (cs.map .d)] l9 (.d (num (addE nm s r)))
   [a0,a1,a2,a3,a4,a5,.cells [.d (ints ty)],.cells (own2 (addN nm s r) (addT nm tys s r)),.cells (cs.map .d)]:=by
 have p1:=hc (.cells (own2 nm tys))
 have p2:=pf123 nm s (by omega)
 unfold pair at p1
 suffices h:Pq A 154 [.ptr 7 0,.d (.str s),.func f [] [.ptr 8 0,.ptr 6 0]] [a0,a1,a2,a3,a4,a5,.cells [.d (ints ty)],.cells (own2 nm tys),.cells (cs.map .d)] l9 fun v H1=>v= .d (num (addE nm s r))∧H1=[a0,a1,a2,a3,a4,a5,.cells [.d (ints ty)],.cells (own2 (addN nm s r) (addT nm tys s r)),.cells (cs.map .d)] by
  obtain ⟨v,H1,⟨rfl,rfl⟩,h⟩:=h;exact h
 have same:∀ e,addE nm s r=e→eqB e 0=false→addN nm s r=nm∧addT nm tys s r=tys:=fun e h1 h2=>by unfold addN addT;rw [h1,h2];exact ⟨rfl,rfl⟩
 have hr1:roomFor (nm.length+1) 16=true:=by simp only [roomFor,decide_eq_true_eq];omega
 have hr2:roomFor (tys.length+1) 8=true:=by simp only [roomFor,decide_eq_true_eq];omega
 refine Pq.run (b:=9) [.ptr 7 0,.d (.str s),.func f [] [.ptr 8 0,.ptr 6 0],.any,.any,.any] rfl rfl rfl rfl rfl ?_
 repeat' (first|refine gx ?_|fail)
 first|refine Ex.testB (!isNameB s) (Rn.text ?_) (fun h1=> ?_) (fun h1=> ?_)|refine Ex.testB (!isNameB s) (Rn.draw ?_) (fun h1=> ?_) (fun h1=> ?_)
 ·repeat' (first|refine cl (pf146 _) ?_|refine gx ?_|refine fk (h1:=fun hw=> ?_) (h2:=fun hw=> ?_)|refine fpk (h1:=fun hw=> ?_) (h2:=fun hw=> ?_)|refine ⟨rfl,rfl,_,rfl,?_⟩|refine ⟨rfl,rfl⟩|fail)
  all_goals first|(simp [*,oneOrTuple];done)|(simp_all [oneOrTuple];done)|(simp_all [oneOrTuple,ltB_eq,leB_eq,eqB_eq,seB_eq];done)|(simp_all [oneOrTuple,ltB_eq,leB_eq,eqB_eq,seB_eq]<;>omega)
 ·have e1:addE nm s r=3:=by unfold addE;rw [h1];rfl
  have e2:=same 3 e1 (by simp [eqB_eq])
  repeat' (first|refine gx ?_|fail)
  exact ⟨_,_,rfl,by rw [e1];rfl,by rw [e2.1,e2.2];rfl⟩
 unfold own2
 repeat' (first|refine gx ?_|fail)
 first|refine Ex.testB (nm.any fun y=>seB y s) (Rn.text ?_) (fun h2=> ?_) (fun h2=> ?_)|refine Ex.testB (nm.any fun y=>seB y s) (Rn.draw ?_) (fun h2=> ?_) (fun h2=> ?_)
 ·repeat' (first|refine cl (p2) ?_|refine gx ?_|refine fk (h1:=fun hw=> ?_) (h2:=fun hw=> ?_)|refine fpk (h1:=fun hw=> ?_) (h2:=fun hw=> ?_)|refine ⟨rfl,rfl,_,rfl,?_⟩|refine ⟨rfl,rfl⟩|fail)
  all_goals first|(simp [*,oneOrTuple];done)|(simp_all [oneOrTuple];done)|(simp_all [oneOrTuple,ltB_eq,leB_eq,eqB_eq,seB_eq];done)|(simp_all [oneOrTuple,ltB_eq,leB_eq,eqB_eq,seB_eq]<;>omega)
 ·have e1:addE nm s r=4:=by unfold addE;rw [h1,h2];rfl
  have e2:=same 4 e1 (by simp [eqB_eq])
  repeat' (first|refine gx ?_|fail)
  exact ⟨_,_,rfl,by rw [e1];rfl,by rw [e2.1,e2.2];rfl⟩
 unfold own2 at p1
 repeat' (first|refine cv1 (hpr:=hf1) (hm:=hf2) p1 rfl ?_|refine gx ?_|fail)
 refine tb (!eqB r.2 0) (fun h3=> ?_) (fun h3=> ?_)
 ·have e1:addE nm s r=r.2:=by unfold addE;rw [h1,h2,h3];rfl
  have e2:=same _ e1 (by simpa using h3)
  repeat' (first|refine gx ?_|fail)
  exact ⟨_,_,rfl,by rw [e1];rfl,by rw [e2.1,e2.2];rfl⟩
 have e1:addE nm s r=0:=by unfold addE;rw [h1,h2,h3];rfl
 have e2:addN nm s r=nm++[s]:=by unfold addN;rw [e1];simp [eqB_eq]
 have e3:addT nm tys s r=tys++[r.1]:=by unfold addT;rw [e1];simp [eqB_eq]
 repeat' (first|refine gx ?_|fail)
 refine ac1 (a:=s) (xs:=nm) (enc:=encS) hr1 rfl (h2:= ?_)
 repeat' (first|refine gx ?_|fail)
 refine ac1 (a:=r.1) (xs:=tys) (enc:=fun n=>[num n]) hr2 rfl (h2:= ?_)
 repeat' (first|refine soO (h2:= ?_)|refine gx ?_|fail)
 exact ⟨_,_,rfl,by rw [e1];rfl,by rw [e2,e3];rfl⟩
end Go.Proofs.YtkmclibmmlgogaaGreat
namespace Go.Proofs.YtkmclibmmlgogaaGreat
open Go.Abs Go.Abs.S
attribute [local irreducible] Rx Ry Rn Ex Pf
theorem Ex.thruR {A:Go.Abs.Prog}{l:Lim}{b:Nat}{c:ACode}{st:St}{R:AExit→St→Prop}{go:St→Prop}(P:St→Prop)(h1:Ex A l b c st (goOn R P))(h2:∀ s,P s→go s):Ex A l b c st (goOn R go):=by
 refine h1.mono fun x s h=> ?_
 cases x with
 |normal=>exact h2 s h
 |exit i=>exact h
 |ret=>exact h
def inpM (v:Vw)(L R:List Int):Int :=
 if !eqB (pairsErr L R v.on) 0 then pairsErr L R v.on
 else if ltB 0 v.wh.length&& !eqB (typeS v.wh (L++R)).2 0 then (typeS v.wh (L++R)).2
 else if ltB 0 v.wh.length&& !eqB (typeS v.wh (L++R)).1 1 then 5
 else colsE (L++R) [] (ents v)
def inpS (ss:List Sto)(v:Vw)(L R:List Int):List Sto:=if eqB (inpM v L R) 0 then ss++[(v.name,(ents v).map Ent.name,viewTys v (L++R))] else ss
theorem ents_item_step {ty:List Int}{seen:List Str}{x:Itm}{r:List Ent}:colsE ty seen (⟨false,x.name, -1,x.expr⟩::r)=if !eqB (addE seen x.name (typeS x.expr ty)) 0 then addE seen x.name (typeS x.expr ty) else colsE ty (seen++[x.name]) r:=by
 have h3:eqB 3 0=false:=by simp [eqB_eq]
 have h4:eqB 4 0=false:=by simp [eqB_eq]
 have h0:eqB 0 0=true:=by simp [eqB_eq]
 simp only [colsE,addE,Bool.false_and,Bool.false_eq_true,if_false]
 rcases Bool.eq_false_or_eq_true (isNameB x.name) with c1|c1
 ·rcases Bool.eq_false_or_eq_true (seen.any fun y=>seB y x.name) with c2|c2
  ·simp only [c1,c2,Bool.not_true,Bool.false_eq_true,if_false,if_true,h4,Bool.not_false]
  ·rcases Bool.eq_false_or_eq_true (eqB (typeS x.expr ty).2 0) with c3|c3
   ·simp only [c1,c2,c3,Bool.not_true,Bool.false_eq_true,if_false,h0]
   ·simp only [c1,c2,c3,Bool.not_true,Bool.not_false,Bool.false_eq_true,if_false,if_true]
 ·simp only [c1,Bool.not_false,if_true,h3]
theorem ents_agg_step {ty:List Int}{seen:List Str}{x:Agr}{r:List Ent}:colsE ty seen (⟨true,x.name,x.func,x.expr⟩::r)=if !eqB (addE seen x.name (aggP ty x)) 0 then addE seen x.name (aggP ty x) else colsE ty (seen++[x.name]) r:=by
 have h1:eqB 1 0=false:=by simp [eqB_eq]
 have h3:eqB 3 0=false:=by simp [eqB_eq]
 have h4:eqB 4 0=false:=by simp [eqB_eq]
 have h6:eqB 5 0=false:=by simp [eqB_eq]
 have h0:eqB 0 0=true:=by simp [eqB_eq]
 simp only [colsE,addE,Bool.true_and]
 rcases Bool.eq_false_or_eq_true (isNameB x.name) with c1|c1
 ·rcases Bool.eq_false_or_eq_true (seen.any fun y=>seB y x.name) with c2|c2
  ·simp only [c1,c2,Bool.not_true,Bool.false_eq_true,if_false,if_true,h4,Bool.not_false]
  ·simp only [c1,c2,Bool.not_true,Bool.false_eq_true,if_false,aggP]
   rcases Bool.eq_false_or_eq_true (eqB x.func 0) with f0|f0
   ·have hw:withinB x.func 0 4=true:=by have:=eqB_t f0;simp [withinB,leB_eq];omega
    rcases Bool.eq_false_or_eq_true (ltB 0 x.expr.length) with c5|c5
    ·simp only [f0,hw,c5,Bool.not_true,Bool.and_self,Bool.or_true,if_true,h1,Bool.not_false]
    ·simp only [f0,hw,c5,Bool.not_true,Bool.and_false,Bool.or_self,Bool.false_eq_true,if_false,if_true,h0]
   ·rcases Bool.eq_false_or_eq_true (withinB x.func 0 4) with hw|hw
    ·have hf:(eqB x.func 1||eqB x.func 2||eqB x.func 3||eqB x.func 4)=true:=by
      have:=eqB_f f0
      simp [withinB,leB_eq] at hw
      simp [eqB_eq]
      omega
     simp only [f0,hw,hf,Bool.not_true,Bool.false_and,Bool.or_self,Bool.false_eq_true,if_false,if_true]
     rcases Bool.eq_false_or_eq_true (eqB (typeS x.expr ty).2 0) with c5|c5
     ·rcases Bool.eq_false_or_eq_true (eqB x.func 1&& !eqB (typeS x.expr ty).1 1) with c6|c6
      ·simp only [c5,c6,Bool.not_true,Bool.not_false,Bool.false_eq_true,if_false,if_true,h6]
      ·simp only [c5,c6,Bool.not_true,Bool.false_eq_true,if_false,h0]
     ·simp only [c5,Bool.not_false,if_true]
    ·have hf:(eqB x.func 1||eqB x.func 2||eqB x.func 3||eqB x.func 4)=false:=by
      simp [withinB,leB_eq] at hw
      simp [eqB_eq]
      omega
     simp only [f0,hw,hf,Bool.not_false,Bool.true_or,Bool.false_eq_true,if_false,if_true,h1]
 ·simp only [c1,Bool.not_false,if_true,h3]
theorem aggP_ty {ty:List Int}{x:Agr}(h:eqB (aggP ty x).2 0=true):(aggP ty x).1=aggTy ty x:=by
 have h1:eqB 1 0=false:=by simp [eqB_eq]
 have h6:eqB 5 0=false:=by simp [eqB_eq]
 unfold aggP at h ⊢
 unfold aggTy
 cases f0:eqB x.func 0 with
 |true =>
  rw [f0] at h
  cases h5:ltB 0 x.expr.length with
  |true=>rw [h5] at h;simp [h1] at h
  |false=>simp
 |false =>
  rw [f0] at h
  simp only [Bool.false_eq_true,if_false,Bool.false_or] at h ⊢
  cases h2:(eqB x.func 1||eqB x.func 2||eqB x.func 3||eqB x.func 4) with
  |false=>rw [h2] at h;simp [h1] at h
  |true =>
   rw [h2] at h
   simp only [if_true] at h ⊢
   cases h3:eqB (typeS x.expr ty).2 0 with
   |false=>rw [h3] at h;simp [h3] at h
   |true =>
    rw [h3] at h
    simp only [Bool.not_true,Bool.false_eq_true,if_false] at h ⊢
    cases f1:eqB x.func 1 with
    |false=>simp
    |true =>
     rw [f1] at h
     cases h4:eqB (typeS x.expr ty).1 1 with
     |false=>rw [h4] at h;simp [h6] at h
     |true=>simpa using eqB_t h4
set_option maxHeartbeats 32000000 in
theorem pm120 (c:Cat)(ds:List Str)(ss:List Sto)(v:Vw)(L R:List Int)(hL:L.length≤5000)(hR:R.length≤5000)(h0:v.on.length≤1000)(h1:v.wh.length≤1000)(h2:v.items.length≤1000)(h3:v.aggs.length≤1000)(h4:∀ i,i<v.items.length→(nth v.items i).expr.length≤1000)(h5:∀ i,i<v.aggs.length→(nth v.aggs i).expr.length≤1000)
  (hs:((ss.map (·.1)).any fun y=>seB y v.name)=false) (hss:ss.length≤1000):Pm A 120 [.ptr 4 0,vw v,.d (ints L),.d (ints R)] (HH c ds ss) lW (.d (num (inpM v L R))) (HH c ds (inpS ss v L R)):=by
 suffices h:Pq A 120 [.ptr 4 0,vw v,.d (ints L),.d (ints R)] (HH c ds ss) lW fun w H1=>w= .d (num (inpM v L R))∧H1=HH c ds (inpS ss v L R) by
  obtain ⟨w,H1,⟨rfl,rfl⟩,h⟩:=h;exact h
 have same:∀ e,inpM v L R=e→eqB e 0=false→inpS ss v L R=ss:=fun e g1 g2=>by unfold inpS;rw [g1,g2];rfl
 have p111:=pm111 c ds ss v.name ((ents v).map Ent.name) (viewTys v (L++R)) hs hss
 have p152:=pf152 [L,R] (by simp) (by
  intro i hi
  match i,hi with
  |0,_=>rw [nth_zero];omega
  |1,_=>rw [nth_succ,nth_zero];omega)
 have pW:=pf153 v.wh (L++R) h1 (by simp;omega)
 unfold pair at pW
 have hfl:[L,R].flatten=L++R:=by simp
 rw [hfl] at p152
 have hTl:(L++R).length≤100000:=by simp;omega
 unfold HH at *
 refine Pq.run (b:=5) [.ptr 4 0,vw v,.d (ints L),.d (ints R),.any,.any,.any,.any,.any,.any,.any,.any,.any,.any,.any,.any,.any,.any,.any,.any,.any,.any,.any,.any] rfl rfl rfl rfl rfl ?_
 repeat' (first|refine gx ?_|fail)
 refine Ex.loopC (fun k T H=>∃ (i:Nat),T=[.ptr 4 0,.any,.d (ints L),.d (ints R),.ptr 5 0,.any,.any,.any,.any,.any,.any,.any,.any,.any,.any,.d (encL (fun p=>[num p.1,num p.2]) v.on),.d (num v.on.length),.d (num i),.any,.any,.any,.any,.any,.any]∧H=[.cells (c.enc.map .d),.cells (c.enc.map .d),.map (dmap ds),.map (nmap (ss.map (·.1)) 0),.cells (c.enc.map .d++[.map 2,.map 3,ownL 2 encSt ss]),.cells (v.enc.map .d)]∧i+k=v.on.length∧pairsErr L R v.on=pairsErr L R (v.on.drop i)) ?_ (k:=v.on.length) ⟨0,rfl,rfl,by simp,by simp⟩
 rintro k _ _ ⟨i,rfl,rfl,hk,hi⟩
 refine Ex.seq ?_
 refine tb (ltB i v.on.length) (fun g1=> ?_) (fun g1=> ?_)
 ·have g2:=ltB_t g1
  rw [drop_nth (by omega)] at hi
  repeat' (first|refine gx ?_|fail)
  first|refine Ex.testB (!withinB (nth v.on i).1 0 (L.length - 1)|| !withinB (nth v.on i).2 0 (R.length - 1)) (Rn.text ?_) (fun g3=> ?_) (fun g3=> ?_)|refine Ex.testB (!withinB (nth v.on i).1 0 (L.length - 1)|| !withinB (nth v.on i).2 0 (R.length - 1)) (Rn.draw ?_) (fun g3=> ?_) (fun g3=> ?_)
  ·repeat' (first|refine cl (pf109 _ _ _) ?_|refine gx ?_|refine fk (h1:=fun hw=> ?_) (h2:=fun hw=> ?_)|refine fpk (h1:=fun hw=> ?_) (h2:=fun hw=> ?_)|refine ⟨rfl,rfl,_,rfl,?_⟩|refine ⟨rfl,rfl⟩|fail)
   all_goals first|(simp [*,oneOrTuple];done)|(simp_all [oneOrTuple];done)|(simp_all [oneOrTuple,ltB_eq,leB_eq,eqB_eq,seB_eq];done)|(simp_all [oneOrTuple,ltB_eq,leB_eq,eqB_eq,seB_eq]<;>omega)
  ·have e1:pairsErr L R v.on=3:=by rw [hi,pairsErr,g3];rfl
   have e2:inpM v L R=3:=by unfold inpM;rw [e1];simp [eqB_eq]
   repeat' (first|refine gx ?_|fail)
   exact ⟨_,_,rfl,by rw [e2];rfl,by rw [same 3 e2 (by simp [eqB_eq])];rfl⟩
  have g4:=g3
  simp [withinB,leB_eq] at g4
  repeat' (first|refine gx ?_|fail)
  refine tb (!eqB (nth L (nth v.on i).1.toNat) (nth R (nth v.on i).2.toNat)) (fun g5=> ?_) (fun g5=> ?_)
  ·have e1:pairsErr L R v.on=5:=by rw [hi,pairsErr,g3,g5];rfl
   have e2:inpM v L R=5:=by unfold inpM;rw [e1];simp [eqB_eq]
   repeat' (first|refine gx ?_|fail)
   exact ⟨_,_,rfl,by rw [e2];rfl,by rw [same 5 e2 (by simp [eqB_eq])];rfl⟩
  ·repeat' (first|refine gx ?_|fail)
   exact ⟨k - 1,by omega,_,_,rfl,i+1,rfl,rfl,by omega,by rw [hi,pairsErr,g3,g5];rfl⟩
 have g2:=ltB_f g1
 rw [List.drop_of_length_le (by omega)] at hi
 have e0:(!eqB (pairsErr L R v.on) 0)=false:=by rw [hi];simp [pairsErr,eqB_eq]
 clear g1 g2 hk hi
 repeat' (first|refine cl (p152) ?_|refine gx ?_|fail)
 refine Ex.thruR (fun s=>∃ (w1 w2 w3 w5 w6 w8 w9 w10 w11 w12 w13 w14 w15 w16 w17 w18 w19 w20 w21 w22 w23:AVal),s=⟨[.ptr 4 0,w1,w2,w3,.ptr 5 0,w5,w6,.ptr 6 0,w8,w9,w10,w11,w12,w13,w14,w15,w16,w17,w18,w19,w20,w21,w22,w23],[.cells (c.enc.map .d),.cells (c.enc.map .d),.map (dmap ds),.map (nmap (ss.map (·.1)) 0),.cells (c.enc.map .d++[.map 2,.map 3,ownL 2 encSt ss]),.cells (v.enc.map .d),.cells [.d (ints (L++R))]]⟩∧inpM v L R=colsE (L++R) [] (ents v)) ?_ ?_
 ·skip
  refine tb (ltB 0 v.wh.length) (fun g6=> ?_) (fun g6=> ?_)
  ·repeat' (first|refine cl (pW) ?_|refine gx ?_|fail)
   refine tb (!eqB (typeS v.wh (L++R)).2 0) (fun g7=> ?_) (fun g7=> ?_)
   ·have e1:inpM v L R=(typeS v.wh (L++R)).2:=by unfold inpM;rw [e0,g6,g7];rfl
    repeat' (first|refine gx ?_|fail)
    exact ⟨_,_,rfl,by rw [e1];rfl,by rw [same _ e1 (by simpa using g7)];rfl⟩
   repeat' (first|refine gx ?_|fail)
   refine tb (!eqB (typeS v.wh (L++R)).1 1) (fun g8=> ?_) (fun g8=> ?_)
   ·have e1:inpM v L R=5:=by unfold inpM;rw [e0,g6,g7,g8];rfl
    repeat' (first|refine gx ?_|fail)
    exact ⟨_,_,rfl,by rw [e1];rfl,by rw [same 5 e1 (by simp [eqB_eq])];rfl⟩
   ·have e1:inpM v L R=colsE (L++R) [] (ents v):=by unfold inpM;rw [e0,g6,g7,g8];rfl
    repeat' (first|refine gx ?_|fail)
    exact ⟨_,_,_,_,_,_,_,_,_,_,_,_,_,_,_,_,_,_,_,_,_,rfl,e1⟩
  ·have e1:inpM v L R=colsE (L++R) [] (ents v):=by unfold inpM;rw [e0,g6];rfl
   repeat' (first|refine gx ?_|fail)
   exact ⟨_,_,_,_,_,_,_,_,_,_,_,_,_,_,_,_,_,_,_,_,_,rfl,e1⟩
 rintro _ ⟨w1,w2,w3,w5,w6,w8,w9,w10,w11,w12,w13,w14,w15,w16,w17,w18,w19,w20,w21,w22,w23,rfl,hin⟩
 repeat' (first|refine gx ?_|fail)
 refine Ex.loopC (fun k T H=>∃ (i:Nat) (nm:List Str) (tys:List Int),T=[.ptr 4 0,.any,.any,.any,.ptr 5 0,.any,.any,.ptr 6 0,.any,.any,.ptr 7 0,.any,.any,.any,.any,.any,.any,.any,.d (encL Itm.enc v.items),.d (num v.items.length),.d (num i),.any,.any,.any]∧H=[.cells (c.enc.map .d),.cells (c.enc.map .d),.map (dmap ds),.map (nmap (ss.map (·.1)) 0),.cells (c.enc.map .d++[.map 2,.map 3,ownL 2 encSt ss]),.cells (v.enc.map .d),.cells [.d (ints (L++R))],.cells (own2 nm tys)]∧i+k=v.items.length∧nm=(v.items.take i).map Itm.name∧tys=(v.items.take i).map (fun x=>(typeS x.expr (L++R)).1)∧inpM v L R=colsE (L++R) nm ((ents v).drop i)) ?_ (k:=v.items.length) ⟨0,[],[],rfl,rfl,by simp,by simp,by simp,by simpa using hin⟩
 rintro k _ _ ⟨i,nm,tys,rfl,rfl,hk,hnm,hty,hi⟩
 have hl1:nm.length=i:=by rw [hnm];simp;omega
 have hl2:tys.length=i:=by rw [hty];simp;omega
 refine Ex.seq ?_
 refine tb (ltB i v.items.length) (fun g1=> ?_) (fun g1=> ?_)
 ·have g2:=ltB_t g1
  have hel:=ents_len v
  rw [drop_nth (by omega),ents_item v (by omega),ents_item_step] at hi
  have q154:=pm154 155 rfl rfl (.cells (c.enc.map .d)) (.cells (c.enc.map .d)) (.map (dmap ds)) (.map (nmap (ss.map (·.1)) 0)) (.cells (c.enc.map .d++[.map 2,.map 3,ownL 2 encSt ss])) (.cells (v.enc.map .d)) (L++R) nm tys (nth v.items i).enc (nth v.items i).name (typeS (nth v.items i).expr (L++R)) (by omega) (by omega) (fun a7=>pm155 (.cells (c.enc.map .d)) (.cells (c.enc.map .d)) (.map (dmap ds)) (.map (nmap (ss.map (·.1)) 0)) (.cells (c.enc.map .d++[.map 2,.map 3,ownL 2 encSt ss])) (.cells (v.enc.map .d)) a7 (L++R) (nth v.items i) (h4 i (by omega)) hTl)
  repeat' (first|refine c0 q154 rfl (h2:= ?_)|refine gx ?_|fail)
  refine tb (!eqB (addE nm (nth v.items i).name (typeS (nth v.items i).expr (L++R))) 0) (fun g3=> ?_) (fun g3=> ?_)
  ·rw [g3,if_pos rfl] at hi
   repeat' (first|refine gx ?_|fail)
   exact ⟨_,_,rfl,by rw [hi];rfl,by rw [same _ hi (by simpa using g3)];rfl⟩
  ·rw [g3,if_neg (by simp)] at hi
   have e1:eqB (addE nm (nth v.items i).name (typeS (nth v.items i).expr (L++R))) 0=true:=by simpa using g3
   have e2:addN nm (nth v.items i).name (typeS (nth v.items i).expr (L++R))=nm++[(nth v.items i).name]:=by unfold addN;rw [e1];rfl
   have e3:addT nm tys (nth v.items i).name (typeS (nth v.items i).expr (L++R))=tys++[(typeS (nth v.items i).expr (L++R)).1]:=by unfold addT;rw [e1];rfl
   rw [e2,e3]
   repeat' (first|refine gx ?_|fail)
   exact ⟨k - 1,by omega,_,_,rfl,i+1,nm++[(nth v.items i).name],tys++[(typeS (nth v.items i).expr (L++R)).1],rfl,rfl,by omega,by rw [take_nth (by omega),hnm];simp,by rw [take_nth (by omega),hty];simp,hi⟩
 have g2:=ltB_f g1
 rw [List.take_of_length_le (by omega)] at hnm hty
 have hie:i=v.items.length:=by omega
 subst hie
 clear g1 g2 hk
 repeat' (first|refine gx ?_|fail)
 refine Ex.loopC (fun k T H=>∃ (i:Nat) (nm2:List Str) (tys2:List Int),T=[.ptr 4 0,.any,.any,.any,.ptr 5 0,.any,.any,.ptr 6 0,.any,.any,.ptr 7 0,.any,.any,.any,.any,.any,.any,.any,.any,.any,.any,.d (encL Agr.enc v.aggs),.d (num v.aggs.length),.d (num i)]∧H=[.cells (c.enc.map .d),.cells (c.enc.map .d),.map (dmap ds),.map (nmap (ss.map (·.1)) 0),.cells (c.enc.map .d++[.map 2,.map 3,ownL 2 encSt ss]),.cells (v.enc.map .d),.cells [.d (ints (L++R))],.cells (own2 nm2 tys2)]∧i+k=v.aggs.length∧nm2=nm++(v.aggs.take i).map Agr.name∧tys2=tys++(v.aggs.take i).map (aggTy (L++R))∧inpM v L R=colsE (L++R) nm2 ((ents v).drop (v.items.length+i))) ?_ (k:=v.aggs.length) ⟨0,nm,tys,rfl,rfl,by simp,by simp,by simp,hi⟩
 clear hi
 rintro k _ _ ⟨i,nm2,tys2,rfl,rfl,hk,hnm2,hty2,hi⟩
 have hl3:nm2.length=v.items.length+i:=by rw [hnm2,List.length_append,hl1];simp;omega
 have hl4:tys2.length=v.items.length+i:=by rw [hty2,List.length_append,hl2];simp;omega
 refine Ex.seq ?_
 have hel:=ents_len v
 refine tb (ltB i v.aggs.length) (fun g1=> ?_) (fun g1=> ?_)
 ·have g2:=ltB_t g1
  rw [drop_nth (by omega),ents_agg v (by omega) (by omega),Nat.add_sub_cancel_left,ents_agg_step] at hi
  have q154:=pm154 156 rfl rfl (.cells (c.enc.map .d)) (.cells (c.enc.map .d)) (.map (dmap ds)) (.map (nmap (ss.map (·.1)) 0)) (.cells (c.enc.map .d++[.map 2,.map 3,ownL 2 encSt ss])) (.cells (v.enc.map .d)) (L++R) nm2 tys2 (nth v.aggs i).enc (nth v.aggs i).name (aggP (L++R) (nth v.aggs i)) (by omega) (by omega) (fun a7=>pm156 (.cells (c.enc.map .d)) (.cells (c.enc.map .d)) (.map (dmap ds)) (.map (nmap (ss.map (·.1)) 0)) (.cells (c.enc.map .d++[.map 2,.map 3,ownL 2 encSt ss])) (.cells (v.enc.map .d)) a7 (L++R) (nth v.aggs i) (h5 i (by omega)) hTl)
  repeat' (first|refine c0 q154 rfl (h2:= ?_)|refine gx ?_|fail)
  refine tb (!eqB (addE nm2 (nth v.aggs i).name (aggP (L++R) (nth v.aggs i))) 0) (fun g3=> ?_) (fun g3=> ?_)
  ·rw [g3,if_pos rfl] at hi
   repeat' (first|refine gx ?_|fail)
   exact ⟨_,_,rfl,by rw [hi];rfl,by rw [same _ hi (by simpa using g3)];rfl⟩
  ·rw [g3,if_neg (by simp)] at hi
   have e1:eqB (addE nm2 (nth v.aggs i).name (aggP (L++R) (nth v.aggs i))) 0=true:=by simpa using g3
   have e2:addN nm2 (nth v.aggs i).name (aggP (L++R) (nth v.aggs i))=nm2++[(nth v.aggs i).name]:=by unfold addN;rw [e1];rfl
   have e3:addT nm2 tys2 (nth v.aggs i).name (aggP (L++R) (nth v.aggs i))=tys2++[(aggP (L++R) (nth v.aggs i)).1]:=by unfold addT;rw [e1];rfl
   have e4:eqB (aggP (L++R) (nth v.aggs i)).2 0=true:=by
    have e5:=eqB_t e1
    unfold addE at e5
    cases c1:(!isNameB (nth v.aggs i).name) with
    |true=>rw [c1] at e5;simp at e5
    |false =>
     rw [c1] at e5
     cases c2:nm2.any fun y=>seB y (nth v.aggs i).name with
     |true=>rw [c2] at e5;simp at e5
     |false =>
      rw [c2] at e5
      cases c3:eqB (aggP (L++R) (nth v.aggs i)).2 0 with
      |true=>rfl
      |false=>rw [c3] at e5;simp at e5;rw [e5] at c3;simp [eqB_eq] at c3
   rw [e2,e3]
   repeat' (first|refine gx ?_|fail)
   exact ⟨k - 1,by omega,_,_,rfl,i+1,nm2++[(nth v.aggs i).name],tys2++[(aggP (L++R) (nth v.aggs i)).1],rfl,rfl,by omega,by rw [take_nth (by omega),hnm2];simp,by rw [take_nth (by omega),hty2,aggP_ty e4];simp,hi⟩
 ·have g2:=ltB_f g1
  rw [List.take_of_length_le (by omega)] at hnm2 hty2
  rw [List.drop_of_length_le (by omega)] at hi
  have e1:inpM v L R=0:=hi
  have e2:inpS ss v L R=ss++[(v.name,(ents v).map Ent.name,viewTys v (L++R))]:=by unfold inpS;rw [e1];simp [eqB_eq]
  have e3:nm2=(ents v).map Ent.name:=by rw [hnm2,hnm];simp [ents,Function.comp_def]
  have e4:tys2=viewTys v (L++R):=by rw [hty2,hty];rfl
  rw [e2,e3,e4]
  repeat' (first|refine gx ?_|fail)
  unfold own2
  repeat' (first|refine c0 p111 rfl (h2:= ?_)|refine gx ?_|fail)
  exact ⟨_,_,rfl,by rw [e1];rfl,rfl⟩
end Go.Proofs.YtkmclibmmlgogaaGreat

/- Texts D14 D15 (made short by a program) -/
import Derived.Test.YtkmclibmmlgogaaGreatD1
import Derived.Test.YtkmclibmmlgogaaGreatD3
set_option linter.unusedVariables false
set_option linter.unusedSimpArgs false
open Bool renaming false_eq_true → b7, not_eq_false' → A9, not_eq_true' → j5
open List renaming drop_of_length_le → k9, take_of_length_le → q5
open Nat renaming lt_or_ge → u9
namespace Go.Proofs.YtkmclibmmlgogaaGreat
open Go.y3 Go.y3.S
attribute [local irreducible] Rx Ry Rn Ex Pf
structure B6 (c:m8):Prop where
 sm:m8.small c
 items:∀ k,k<c.views.length->(nth c.views k).items.length<=1000
 C1:∀ k,k<c.views.length->(nth c.views k).C1.length<=1000
 on:∀ k,k<c.views.length->(nth c.views k).on.length<=1000
 wh:∀ k,k<c.views.length->(nth c.views k).wh.length<=1000
 AN:∀ k i,k<c.views.length->i<(nth c.views k).items.length->(nth (nth c.views k).items i).expr.length<=1000
 Mu:∀ k i,k<c.views.length->i<(nth c.views k).C1.length->(nth (nth c.views k).C1 i).expr.length<=1000
 bk:∀ k,k<c.M7.length->(nth c.M7 k).tables.length<=1000
def qu (ty:List Int)(a:Ao):Int:=if o9 a.func 0||o9 a.func 1 then 1 else (F8 a.expr ty).1
def X8 (v:Vw)(ty:List Int):List Int:=v.items.map (fun x=>(F8 x.expr ty).1)++v.C1.map (qu ty)
def AM (c:m8)(prev:List (List Int))(v:Vw)(k:Nat):List Int:=nth prev (D5 c v.left k).toNat++(if J2 v.right [] then [] else nth prev (D5 c v.right k).toNat)
def iP (c:m8)(prev:List (List Int))(k:Nat):List Int :=
 if k<c.j3.length then (nth c.j3 k).m7.map Y5.type
 else if o9 (nth c.views (k - c.j3.length)).kind 2 then nth prev (D5 c (nth c.views (k - c.j3.length)).left k).toNat
 else X8 (nth c.views (k - c.j3.length)) (AM c prev (nth c.views (k - c.j3.length)) k)
def tV (c:m8):Nat->List (List Int)
 |0=>[]
 |k+1=>tV c k++[iP c (tV c k) k]
def R3 (c:m8)(k:Nat):List Int:=iP c (tV c k) k
def ins (c:m8)(k:Nat):List Int:=AM c (tV c k) (nth c.views (k - c.j3.length)) k
theorem Ge (c:m8):∀ k,(tV c k).length=k
 |0=>rfl
 |k+1=>by simp [tV,Ge c k]
theorem W3 (c:m8):∀ {k j:Nat},j<k->nth (tV c k) j=R3 c j
 |k+1,j,h=>by
  have hl:=Ge c k
  rcases u9 j k with h1|h1
  ·rw [<- W3 c h1,tV,K0 (by simp;omega),K0 (by omega),List.getElem_append_left (by omega)]
  ·obtain rfl:j=k:=by omega
   rw [tV,K0 (by simp [hl]),List.getElem_append_right (by omega)];simp [hl,R3]
def oM (c:m8)(n:Nat):Prop:=∀ k,c.j3.length<=k->k<n->0<=D5 c (nth c.views (k - c.j3.length)).left k/\(J2 (nth c.views (k - c.j3.length)).right []=false->0<=D5 c (nth c.views (k - c.j3.length)).right k)
theorem I6 (c:m8)(name:D8)(n:Nat):D5 c name n= -1\/(0<=D5 c name n/\D5 c name n<n/\D5 c name n<m8.ns c):=by
 unfold D5
 rcases cA name ((m8.sn c).take n) 0 with h|h
 ·exact Or.inl h
 ·right
  have:=S0 c;simp at h;omega
theorem P7 {c:m8}(hs:B6 c):∀ (n k:Nat),k<n->n<=m8.ns c->oM c n->(R3 c k).length<=2000
 |0,k,h,_,_=>absurd h (by omega)
 |n+1,k,h,hn,ho=>by
  rcases u9 k n with h1|h1
  ·exact P7 hs n k h1 (by omega) (fun k h1 h2=>ho k h1 (by omega))
  obtain rfl:k=n:=by omega
  unfold R3 iP;split
  ·rename_i h2
   have:=hs.sm.m7 k h2;simp;omega
  ·rename_i h2
   have hv:k - c.j3.length<c.views.length:=by unfold m8.ns at hn;omega
   split
   ·have h3:=(ho k (by omega) (by omega)).1
    rcases I6 c (nth c.views (k - c.j3.length)).left k with h4|h4
    ·omega
    ·rw [W3 c (by omega)]
     exact P7 hs k _ (by omega) (by omega) (fun k h1 h2=>ho k h1 (by omega))
   ·have h5:=hs.items _ hv
    have h6:=hs.C1 _ hv;simp [X8];omega
set_option maxHeartbeats 8000000 in
theorem gR (c:m8)(hs:B6 c):∀ (n s:Nat),s<n->n<=m8.ns c->oM c n->Pf A 87 [cat c,.d (num s)] (.d (ints (R3 c s)))/\(c.j3.length<=s->Pf A 100 [cat c,.d (num s)] (.d (ints (ins c s))))
 |0,s,h,_,_=>absurd h (by omega)
 |n+1,s,h,hn,ho=>by
  have cz:m8.ns c<=2000:=by obtain ⟨f0,f1,_⟩:=hs.sm.fI;unfold m8.ns;omega
  have Tq:m8.ns c=c.j3.length+c.views.length:=rfl
  rcases u9 s n with h1|h1
  ·exact gR c hs n s h1 (by omega) (fun k h1 h2=>ho k h1 (by omega))
  obtain rfl:s=n:=by omega
  have ih:∀ k,k<s->Pf A 87 [cat c,.d (num k)] (.d (ints (R3 c k))):=fun k hk=>(gR c hs s k hk (by omega) (fun k h1 h2=>ho k h1 (by omega))).1
  have hlen:∀ k,k<s->(R3 c k).length<=2000:=fun k hk=>P7 hs s k hk (by omega) (fun k h1 h2=>ho k h1 (by omega))
  have hin:c.j3.length<=s->Pf A 100 [cat c,.d (num s)] (.d (ints (ins c s))):=fun ht=>by
   have hv:s - c.j3.length<c.views.length:=by omega
   obtain ⟨o1,o2⟩:=ho s ht (by omega);have b1:=I6 c (nth c.views (s - c.j3.length)).left s;have b2:=I6 c (nth c.views (s - c.j3.length)).right s;obtain ⟨q1,e1⟩:∃ q:Nat,D5 c (nth c.views (s - c.j3.length)).left s=q:=⟨_,(Int.toNat_of_nonneg o1).symm⟩;have p1:=vu c (nth c.views (s - c.j3.length)).left s hs.sm.fI (by omega);have p2:=vu c (nth c.views (s - c.j3.length)).right s hs.sm.fI (by omega);rw [e1] at p1;have l1:=hlen q1 (by omega);have t1:=ih q1 (by omega);refine Pf.run [cat c,.d (num s),.any,.any,.any,.any] rfl rfl rfl rfl ?_
   repeat' (first|refine Xe (e:=(s:Int) - (c.j3.length:Int)) (s - c.j3.length) (h2:= ?_)|refine gx ?_|fail)
   repeat' (first|refine cl (p1) ?_|refine cl (t1) ?_|refine gx ?_|fail)
   refine tb (!J2 (nth c.views (s - c.j3.length)).right []) (fun h2=> ?_) (fun h2=> ?_)
   ·simp only [j5] at h2
    obtain ⟨q2,e2⟩:∃ q:Nat,D5 c (nth c.views (s - c.j3.length)).right s=q:=⟨_,(Int.toNat_of_nonneg (o2 h2)).symm⟩;rw [e2] at p2;have l2:=hlen q2 (by omega);have t2:=ih q2 (by omega)
    repeat' (first|refine cl (p2) ?_|refine cl (t2) ?_|refine gx ?_|fail)
    refine ⟨_,rfl,?_⟩;simp only [ins,AM,e1,e2,Int.toNat_natCast,h2,b7,if_false];rw [W3 c (by omega),W3 c (by omega)];rfl
   ·simp only [A9] at h2
    refine gr ?_;refine ⟨_,rfl,?_⟩;simp only [ins,AM,e1,Int.toNat_natCast,h2,if_true];rw [W3 c (by omega)];simp [b8,ints,z6]
  refine ⟨?_,hin⟩;refine Pf.run [cat c,.d (num s),.any,.any,.any,.any,.any,.any,.any,.any,.any,.any] rfl rfl rfl rfl ?_;refine gr ?_;refine tb (C9 s c.j3.length) (fun h2=> ?_) (fun h2=> ?_)
  ·have h3:=y9 h2
   have hcl:=hs.sm.m7 s (by omega);refine gr ?_;refine Ex.J0 (fun k T H=>∃ (i:Nat) (acc:List Int) (w0 w3 w6 w7 w8 w9 jX hU:b6),T=[w0,.d (num s),.ptr 0 0,w3,B3 1 (fun n=>[num n]) acc,.d (num i),w6,w7,w8,w9,jX,hU]/\H=[.cells (c.enc.map .d)]/\i+k=(nth c.j3 s).m7.length/\acc=((nth c.j3 s).m7.take i).map Y5.type) (by rintro _ _ _ ⟨_,_,_,_,_,_,_,_,_,_,_,rfl,_⟩;rfl) ?_ (k:=(nth c.j3 s).m7.length) ⟨0,[],_,_,_,_,_,_,_,_,rfl,rfl,by simp,by simp⟩;rintro k _ _ ⟨i,acc,w0,w3,w6,w7,w8,w9,jX,hU,rfl,rfl,hk,hacc⟩;have hl:acc.length=i:=by rw [hacc];simp;omega
   refine Ex.nT ?_
   repeat' (first|refine gx ?_|refine Ex.H7 ?_|refine Ex.H8 ?_|refine Ex.cond rfl (fun ht=> ?_) (fun ht=> ?_)|refine Ex.test (Rn.text ?_)|refine Ex.test (Rn.draw ?_)|refine ⟨_,rfl,fun ht=> ?_,fun ht=> ?_⟩|refine ⟨_,rfl,?_⟩|fail)
   ·have h4:=y9 ht
    refine ⟨k - 1,by omega,i+1,acc++[(nth (nth c.j3 s).m7 i).type],_,_,_,_,_,_,_,_,rfl,rfl,by omega,?_⟩;rw [F7 (by omega),hacc];simp
   ·have h4:=y8 ht
    rw [q5 (by omega)] at hacc;simp only [R3,iP];rw [if_pos (by omega),<- hacc];rfl
  have h3:=y8 h2;have hv:s - c.j3.length<c.views.length:=by omega
  obtain ⟨o1,o2⟩:=ho s (by omega) (by omega);have b1:=I6 c (nth c.views (s - c.j3.length)).left s;have b2:=I6 c (nth c.views (s - c.j3.length)).right s;obtain ⟨q1,e1⟩:∃ q:Nat,D5 c (nth c.views (s - c.j3.length)).left s=q:=⟨_,(Int.toNat_of_nonneg o1).symm⟩;have p1:=vu c (nth c.views (s - c.j3.length)).left s hs.sm.fI (by omega);rw [e1] at p1;have l1:=hlen q1 (by omega);have t1:=ih q1 (by omega);have Ac:(ins c s).length<=4000:=by
   simp only [ins,AM,e1,Int.toNat_natCast];rw [W3 c (by omega)];cases h5:J2 (nth c.views (s - c.j3.length)).right [] with
   |true=>simp;omega
   |false =>
    have h6:=o2 h5;have h7:=hlen (D5 c (nth c.views (s - c.j3.length)).right s).toNat (by omega);rw [W3 c (by omega)];simp;omega
  have hi1:=hs.items _ hv;have hi2:=hs.C1 _ hv
  repeat' (first|refine Xe (e:=(s:Int) - (c.j3.length:Int)) (s - c.j3.length) (h2:= ?_)|refine gx ?_|fail)
  refine tb (o9 (nth c.views (s - c.j3.length)).kind 2) (fun h4=> ?_) (fun h4=> ?_)
  ·repeat' (first|refine cl (p1) ?_|refine cl (t1) ?_|refine gx ?_|fail)
   refine ⟨_,rfl,?_⟩;have hct:R3 c s=nth (tV c s) q1:=by
    unfold R3 iP;rw [if_neg (by omega),h4,if_pos rfl,e1];rfl
   rw [hct,W3 c (by omega)];rfl
  repeat' (first|refine cl (hin (by omega)) ?_|refine gx ?_|fail)
  refine Ex.J0 (fun k T H=>∃ (i:Nat) (acc:List Int) (w0 w1 w2 w3 w5 w9 jX hU:b6),T=[w0,w1,w2,w3,B3 1 (fun n=>[num n]) acc,w5,.ptr 1 0,.d (ints (ins c s)),.d (num i),w9,jX,hU]/\H=[.cells (c.enc.map .d),.cells ((nth c.views (s - c.j3.length)).enc.map .d)]/\i+k=(nth c.views (s - c.j3.length)).items.length/\acc=((nth c.views (s - c.j3.length)).items.take i).map fun x=>(F8 x.expr (ins c s)).1) (by rintro _ _ _ ⟨_,_,_,_,_,_,_,_,_,_,_,rfl,_⟩;rfl) ?_ (k:=(nth c.views (s - c.j3.length)).items.length) ⟨0,[],_,_,_,_,_,_,_,_,rfl,rfl,by simp,by simp⟩;rintro k _ _ ⟨i,acc,w0,w1,w2,w3,w5,w9,jX,hU,rfl,rfl,hk,hacc⟩;have hl:acc.length=i:=by rw [hacc];simp;omega
  refine Ex.nT ?_;refine Ex.seq ?_;refine tb (C9 i (nth c.views (s - c.j3.length)).items.length) (fun h5=> ?_) (fun h5=> ?_)
  ·have h6:=y9 h5
   repeat' (first|refine cl (Kc (nth (nth c.views (s - c.j3.length)).items i).expr (ins c s) (hs.AN (s - c.j3.length) i hv (by omega)) (by omega)) ?_|refine gx ?_|fail)
   refine ⟨k - 1,by omega,i+1,acc++[(F8 (nth (nth c.views (s - c.j3.length)).items i).expr (ins c s)).1],_,_,_,_,_,_,_,_,rfl,rfl,by omega,?_⟩;rw [F7 (by omega),hacc];simp
  have h6:=y8 h5;rw [q5 (by omega)] at hacc;clear h5 h6 hk hl;refine gr ?_;have hl0:acc.length<=1000:=by rw [hacc];simp;omega
  refine Ex.J0 (fun k T H=>∃ (i:Nat) (sX:List Int) (w0 w1 w2 w3 w5 w8 w9 hU:b6),T=[w0,w1,w2,w3,B3 1 (fun n=>[num n]) sX,w5,.ptr 1 0,.d (ints (ins c s)),w8,w9,.d (num i),hU]/\H=[.cells (c.enc.map .d),.cells ((nth c.views (s - c.j3.length)).enc.map .d)]/\i+k=(nth c.views (s - c.j3.length)).C1.length/\sX=acc++((nth c.views (s - c.j3.length)).C1.take i).map (qu (ins c s))) (by rintro _ _ _ ⟨_,_,_,_,_,_,_,_,_,_,_,rfl,_⟩;rfl) ?_ (k:=(nth c.views (s - c.j3.length)).C1.length) ⟨0,acc,_,_,_,_,_,_,_,_,rfl,rfl,by simp,by simp⟩;rintro k _ _ ⟨i,sX,w0,w1,w2,w3,w5,w8,w9,hU,rfl,rfl,hk,oI⟩;have hl:sX.length=acc.length+i:=by rw [oI];simp;omega
  refine Ex.nT ?_;refine Ex.seq ?_;refine tb (C9 i (nth c.views (s - c.j3.length)).C1.length) (fun h5=> ?_) (fun h5=> ?_)
  ·have h6:=y9 h5
   repeat' (first|refine cl (Kc (nth (nth c.views (s - c.j3.length)).C1 i).expr (ins c s) (hs.Mu (s - c.j3.length) i hv (by omega)) (by omega)) ?_|refine gx ?_|fail)
   refine tb (o9 (nth (nth c.views (s - c.j3.length)).C1 i).func 0||o9 (nth (nth c.views (s - c.j3.length)).C1 i).func 1) (fun h7=> ?_) (fun h7=> ?_)
   ·refine gr ?_
    refine ⟨k - 1,by omega,i+1,sX++[1],_,_,_,_,_,_,_,_,rfl,rfl,by omega,?_⟩;rw [F7 (by omega),oI];simp [qu,h7]
   ·refine gr ?_
    refine ⟨k - 1,by omega,i+1,sX++[(F8 (nth (nth c.views (s - c.j3.length)).C1 i).expr (ins c s)).1],_,_,_,_,_,_,_,_,rfl,rfl,by omega,?_⟩;rw [F7 (by omega),oI];simp [qu,h7]
  ·have h6:=y8 h5
   rw [q5 (by omega)] at oI;refine gr ?_;refine ⟨_,rfl,?_⟩;simp only [R3,iP];rw [if_neg (by omega),h4,if_neg (by simp)];simp only [X8];rw [show AM c (tV c s) (nth c.views (s - c.j3.length)) s=ins c s from rfl,<- hacc,<- oI];rfl
structure DP where
 agg:Bool
 name:D8
 f:Int
 expr:List aE
instance:Inhabited DP:=⟨⟨false,[],0,[]⟩⟩
def X1 (v:Vw):List DP:=v.items.map (fun x=>⟨false,x.name, -1,x.expr⟩)++v.C1.map (fun x=>⟨true,x.name,x.func,x.expr⟩)
def V4 (ty:List Int):List D8->List DP->Int
 |_,[]=>0
 |seen,e::r =>
  if !E3 e.name then 3
  else if seen.any fun y=>J2 y e.name then 4
  else if e.agg&&(!n7 e.f 0 4||(o9 e.f 0&&C9 0 e.expr.length)) then 1
  else if e.agg&&o9 e.f 0 then V4 ty (seen++[e.name]) r
  else if !o9 (F8 e.expr ty).2 0 then (F8 e.expr ty).2
  else if e.agg&&o9 e.f 1&& !o9 (F8 e.expr ty).1 1 then 5
  else V4 ty (seen++[e.name]) r
theorem fh (v:Vw):(X1 v).length=v.items.length+v.C1.length:=by simp [X1]
theorem nW (v:Vw){i:Nat}(h:i<v.items.length):nth (X1 v) i=⟨false,(nth v.items i).name, -1,(nth v.items i).expr⟩:=by
 rw [K0 (by rw [fh];omega),K0 h];simp [X1,List.getElem_append_left,h]
theorem qK (v:Vw){i:Nat}(h:v.items.length<=i)(h2:i<v.items.length+v.C1.length):nth (X1 v) i=⟨true,(nth v.C1 (i - v.items.length)).name,(nth v.C1 (i - v.items.length)).func,(nth v.C1 (i - v.items.length)).expr⟩:=by
 rw [K0 (by rw [fh];omega),K0 (by omega)];simp [X1,List.getElem_append_right,h]
theorem MF (v:Vw){i:Nat}(h:i<v.items.length+v.C1.length):(nth (X1 v) i).agg=W8 v.items.length i:=by
 rcases u9 i v.items.length with h1|h1
 ·rw [nW v h1];simp [p4];omega
 ·rw [qK v h1 h];simp [p4];omega
set_option maxHeartbeats 16000000 in
theorem aj5 (v:Vw)(ty:List Int)(h0:v.items.length<=1000)(h1:v.C1.length<=1000)(h2:ty.length<=100000)(h3:∀ i,i<v.items.length->(nth v.items i).expr.length<=1000)(h4:∀ i,i<v.C1.length->(nth v.C1 i).expr.length<=1000) :
  Pf A 102 [vw v,.d (ints ty)] (.d (num (V4 ty [] (X1 v)))):=by
 have hel:=fh v;refine Pf.run [vw v,.d (ints ty),.any,.any,.any,.any,.any,.any,.any,.any,.any,.any,.any] rfl rfl rfl rfl ?_;refine gr ?_;refine Ex.fS (fun k T H=>∃ (i:Nat) (seen:List D8),T=[.any,.d (ints ty),.ptr 0 0,.any,B3 1 (fun s=>[.str s]) seen,.d (num i),.any,.any,.any,.any,.any,.any,.any]/\H=[.cells (v.enc.map .d)]/\i+k=(X1 v).length/\seen.length=i/\V4 ty [] (X1 v)=V4 ty seen ((X1 v).drop i)) ?_ (k:=(X1 v).length) ⟨0,[],rfl,rfl,by simp,rfl,by simp⟩;rintro k _ _ ⟨i,seen,rfl,rfl,hk,OZ,hi⟩;refine Ex.seq ?_;refine tB (C9 i (X1 v).length) ?_ (fun h5=> ?_) (fun h5=> ?_)
 ·repeat' (first|refine cl (hel) ?_|refine gx ?_|refine fk (h1:=fun hw=> ?_) (h2:=fun hw=> ?_)|refine L7 (h1:=fun hw=> ?_) (h2:=fun hw=> ?_)|refine ⟨rfl,rfl,_,rfl,?_⟩|refine ⟨rfl,rfl⟩|fail)
  all_goals exact cc
 ·have h6:=y9 h5
  have hix:i<v.items.length+v.C1.length:=by omega
  rw [A2 (by omega)] at hi;have hfl:=MF v hix;refine gr ?_;refine Ex.YX (fun s=>∃ (f:Int) (H2:o6) (w9:b6),s=⟨[.any,.d (ints ty),.ptr 0 0,.any,B3 1 (fun s=>[.str s]) seen,.d (num i),.d (.str (nth (X1 v) i).name),.d (num (nth (X1 v) i).f),.d (z6 aE.enc (nth (X1 v) i).expr),w9,.any,.any,.any],.cells (v.enc.map .d)::H2⟩/\(nth (X1 v) i).expr.length<=1000) ?_ ?_
  ·skip
   refine tb (C9 i v.items.length) (fun h7=> ?_) (fun h7=> ?_)
   ·have h8:=y9 h7
    have he:=h3 i (by omega);rw [nW v (by omega)];refine gr ?_;exact ⟨-1,_,_,rfl,he⟩
   ·have h8:=y8 h7
    have he:=h4 (i - v.items.length) (by omega);rw [qK v (by omega) hix]
    repeat' (first|refine Xe (e:=(i:Int) - (v.items.length:Int)) (i - v.items.length) (h2:= ?_)|refine gx ?_|fail)
    exact ⟨0,_,_,rfl,he⟩
  rintro _ ⟨f,H2,w9,rfl,he⟩;generalize hen:nth (X1 v) i=en at *
  obtain ⟨ag,nm,ef,ex⟩:=en;simp only at *
  subst hfl;have ah6:=Kc ex ty he h2;refine gr ?_;refine tB (!E3 nm) ?_ (fun g1=> ?_) (fun g1=> ?_)
  ·repeat' (first|refine cl (XV _) ?_|refine gx ?_|refine fk (h1:=fun hw=> ?_) (h2:=fun hw=> ?_)|refine L7 (h1:=fun hw=> ?_) (h2:=fun hw=> ?_)|refine ⟨rfl,rfl,_,rfl,?_⟩|refine ⟨rfl,rfl⟩|fail)
   all_goals exact cc
  ·refine gr ?_
   exact ⟨_,rfl,by rw [hi];simp only [V4,g1,b8,num,if_true]⟩
  refine gr ?_;refine Ex.J0 (fun k T H=>∃ (j:Nat) (w0 w3 w9 hU KF:b6),T=[w0,.d (ints ty),.ptr 0 0,w3,B3 1 (fun s=>[.str s]) seen,.d (num i),.d (.str nm),.d (num ef),.d (z6 aE.enc ex),w9,.d (num j),hU,KF]/\H= .cells (v.enc.map .d)::H2/\j+k=seen.length/\(seen.any fun y=>J2 y nm)=((seen.drop j).any fun y=>J2 y nm)) (by rintro _ _ _ ⟨_,_,_,_,_,_,_,rfl,_⟩;rfl) ?_ (k:=seen.length) ⟨0,_,_,_,_,_,rfl,rfl,by simp,by simp⟩;rintro k2 _ _ ⟨j,w0,w3,w9,hU,KF,rfl,rfl,hk2,hj⟩;refine Ex.nT ?_;refine Ex.seq ?_;refine tb (C9 j seen.length) (fun g0=> ?_) (fun g0=> ?_)
  ·have g00:=y9 g0
   rw [A2 (by omega)] at hj
   repeat' (first|refine gx ?_|refine Ex.H7 ?_|refine Ex.H8 ?_|refine Ex.cond rfl (fun ht=> ?_) (fun ht=> ?_)|refine Ex.test (Rn.text ?_)|refine Ex.test (Rn.draw ?_)|refine ⟨_,rfl,fun ht=> ?_,fun ht=> ?_⟩|refine ⟨_,rfl,?_⟩|fail)
   ·have g2:(seen.any fun y=>J2 y nm)=true:=by rw [hj];simp [ht]
    rw [hi];simp only [V4,g1,g2,b8,num,b7,if_true,if_false]
   ·exact ⟨k2 - 1,by omega,j+1,_,_,_,_,_,rfl,rfl,by omega,by rw [hj];simp [ht]⟩
  have g00:=y8 g0;rw [k9 (by omega)] at hj;have g2:(seen.any fun y=>J2 y nm)=false:=by rw [hj];rfl
  clear hj hk2 g0 g00;refine gr ?_;refine tB (W8 v.items.length i&&(!n7 ef 0 4||(o9 ef 0&&C9 0 ex.length))) ?_ (fun g3=> ?_) (fun g3=> ?_)
  ·repeat' (first|refine cl (qa _ _ _) ?_|refine gx ?_|refine fk (h1:=fun hw=> ?_) (h2:=fun hw=> ?_)|refine L7 (h1:=fun hw=> ?_) (h2:=fun hw=> ?_)|refine ⟨rfl,rfl,_,rfl,?_⟩|refine ⟨rfl,rfl⟩|fail)
   all_goals exact cc
  ·refine gr ?_
   exact ⟨_,rfl,by rw [hi];simp only [V4,g1,g2,g3,b8,num,b7,if_true,if_false]⟩
  refine gr ?_;refine tb (W8 v.items.length i&&o9 ef 0) (fun g4=> ?_) (fun g4=> ?_)
  ·refine gr ?_
   exact ⟨k - 1,by omega,_,_,rfl,i+1,seen++[nm],rfl,rfl,by omega,by simp [OZ],by rw [hi];simp only [V4,g1,g2,g3,g4,b7,if_true,if_false]⟩
  repeat' (first|refine cl (ah6) ?_|refine gx ?_|fail)
  refine tb (!o9 (F8 ex ty).2 0) (fun g5=> ?_) (fun g5=> ?_)
  ·refine gr ?_
   exact ⟨_,rfl,by rw [hi];simp only [V4,g1,g2,g3,g4,g5,b8,b7,if_true,if_false]⟩
  refine gr ?_;refine tb (W8 v.items.length i&&o9 ef 1&& !o9 (F8 ex ty).1 1) (fun g6=> ?_) (fun g6=> ?_)
  ·refine gr ?_
   exact ⟨_,rfl,by rw [hi];simp only [V4,g1,g2,g3,g4,g5,g6,b8,num,b7,if_true,if_false]⟩
  ·refine gr ?_
   exact ⟨k - 1,by omega,_,_,rfl,i+1,seen++[nm],rfl,rfl,by omega,by simp [OZ],by rw [hi];simp only [V4,g1,g2,g3,g4,g5,g6,b7,if_true,if_false]⟩
 ·have h6:=y8 h5
  rw [k9 (by omega)] at hi;refine gr ?_;exact ⟨_,rfl,by rw [hi];rfl⟩
end Go.Proofs.YtkmclibmmlgogaaGreat


/- Texts D14 D15 (made short by a program) -/
import Derived.Test.YtkmclibmmlgogaaGreatD1
import Derived.Test.YtkmclibmmlgogaaGreatD3
set_option linter.unusedVariables false
set_option linter.unusedSimpArgs false
open Bool renaming false_eq_true → b7, not_eq_false' → B4, not_eq_true' → j9
open List renaming drop_of_length_le → m7, take_of_length_le → s6
open Nat renaming lt_or_ge → p7
namespace Go.Proofs.YtkmclibmmlgogaaGreat
open Go.u7 Go.u7.S
attribute [local irreducible] Rx Ry Rn Ex Pf
structure E8 (c:m9):Prop where
 sm:m9.small c
 items:∀ k,k<c.views.length->(nth c.views k).items.length<=1000
 B3:∀ k,k<c.views.length->(nth c.views k).B3.length<=1000
 on:∀ k,k<c.views.length->(nth c.views k).on.length<=1000
 wh:∀ k,k<c.views.length->(nth c.views k).wh.length<=1000
 yX:∀ k i,k<c.views.length->i<(nth c.views k).items.length->(nth (nth c.views k).items i).expr.length<=1000
 Kf:∀ k i,k<c.views.length->i<(nth c.views k).B3.length->(nth (nth c.views k).B3 i).expr.length<=1000
 bk:∀ k,k<c.K8.length->(nth c.K8 k).tables.length<=1000
def oO (ty:List Int)(a:yA):Int:=if o8 a.func 0||o8 a.func 1 then 1 else (E4 a.expr ty).1
def V2 (v:Vw)(ty:List Int):List Int:=v.items.map (fun x=>(E4 x.expr ty).1)++v.B3.map (oO ty)
def yV (c:m9)(prev:List (List Int))(v:Vw)(k:Nat):List Int:=nth prev (D4 c v.left k).toNat++(if I9 v.right [] then [] else nth prev (D4 c v.right k).toNat)
def gh (c:m9)(prev:List (List Int))(k:Nat):List Int :=
 if k<c.j3.length then (nth c.j3 k).m8.map W6.type
 else if o8 (nth c.views (k - c.j3.length)).kind 2 then nth prev (D4 c (nth c.views (k - c.j3.length)).left k).toNat
 else V2 (nth c.views (k - c.j3.length)) (yV c prev (nth c.views (k - c.j3.length)) k)
def sx (c:m9):Nat->List (List Int)
 |0=>[]
 |k+1=>sx c k++[gh c (sx c k) k]
def P8 (c:m9)(k:Nat):List Int:=gh c (sx c k) k
def ins (c:m9)(k:Nat):List Int:=yV c (sx c k) (nth c.views (k - c.j3.length)) k
theorem Es (c:m9):∀ k,(sx c k).length=k
 |0=>rfl
 |k+1=>by simp [sx,Es c k]
theorem U1 (c:m9):∀ {k j:Nat},j<k->nth (sx c k) j=P8 c j
 |k+1,j,h=>by
  have hl:=Es c k
  rcases p7 j k with h1|h1
  ·rw [<- U1 c h1,sx,N6 (by simp;omega),N6 (by omega),List.getElem_append_left (by omega)]
  ·obtain rfl:j=k:=by omega
   rw [sx,N6 (by simp [hl]),List.getElem_append_right (by omega)];simp [hl,P8]
def nM (c:m9)(n:Nat):Prop:=∀ k,c.j3.length<=k->k<n->0<=D4 c (nth c.views (k - c.j3.length)).left k/\(I9 (nth c.views (k - c.j3.length)).right []=false->0<=D4 c (nth c.views (k - c.j3.length)).right k)
theorem G8 (c:m9)(name:C7)(n:Nat):D4 c name n= -1\/(0<=D4 c name n/\D4 c name n<n/\D4 c name n<m9.ns c):=by
 unfold D4
 rcases bJ name ((m9.sn c).take n) 0 with h|h
 ·exact Or.inl h
 ·right
  have:=Q2 c;simp at h;omega
theorem O7 {c:m9}(hs:E8 c):∀ (n k:Nat),k<n->n<=m9.ns c->nM c n->(P8 c k).length<=2000
 |0,k,h,_,_=>absurd h (by omega)
 |n+1,k,h,hn,ho=>by
  rcases p7 k n with h1|h1
  ·exact O7 hs n k h1 (by omega) (fun k h1 h2=>ho k h1 (by omega))
  obtain rfl:k=n:=by omega
  unfold P8 gh;split
  ·rename_i h2
   have:=hs.sm.m8 k h2;simp;omega
  ·rename_i h2
   have hv:k - c.j3.length<c.views.length:=by unfold m9.ns at hn;omega
   split
   ·have h3:=(ho k (by omega) (by omega)).1
    rcases G8 c (nth c.views (k - c.j3.length)).left k with h4|h4
    ·omega
    ·rw [U1 c (by omega)]
     exact O7 hs k _ (by omega) (by omega) (fun k h1 h2=>ho k h1 (by omega))
   ·have h5:=hs.items _ hv
    have h6:=hs.B3 _ hv;simp [V2];omega
set_option maxHeartbeats 8000000 in
theorem fZ (c:m9)(hs:E8 c):∀ (n s:Nat),s<n->n<=m9.ns c->nM c n->Pf A 87 [cat c,.d (num s)] (.d (ints (P8 c s)))/\(c.j3.length<=s->Pf A 100 [cat c,.d (num s)] (.d (ints (ins c s))))
 |0,s,h,_,_=>absurd h (by omega)
 |n+1,s,h,hn,ho=>by
  have aN:m9.ns c<=2000:=by obtain ⟨f0,f1,_⟩:=hs.sm.fI;unfold m9.ns;omega
  have TN:m9.ns c=c.j3.length+c.views.length:=rfl
  rcases p7 s n with h1|h1
  ·exact fZ c hs n s h1 (by omega) (fun k h1 h2=>ho k h1 (by omega))
  obtain rfl:s=n:=by omega
  have ih:∀ k,k<s->Pf A 87 [cat c,.d (num k)] (.d (ints (P8 c k))):=fun k hk=>(fZ c hs s k hk (by omega) (fun k h1 h2=>ho k h1 (by omega))).1
  have hlen:∀ k,k<s->(P8 c k).length<=2000:=fun k hk=>O7 hs s k hk (by omega) (fun k h1 h2=>ho k h1 (by omega))
  have hin:c.j3.length<=s->Pf A 100 [cat c,.d (num s)] (.d (ints (ins c s))):=fun ht=>by
   have hv:s - c.j3.length<c.views.length:=by omega
   obtain ⟨o1,o2⟩:=ho s ht (by omega);have b1:=G8 c (nth c.views (s - c.j3.length)).left s;have b2:=G8 c (nth c.views (s - c.j3.length)).right s;obtain ⟨q1,e1⟩:∃ q:Nat,D4 c (nth c.views (s - c.j3.length)).left s=q:=⟨_,(Int.toNat_of_nonneg o1).symm⟩;have p1:=Bo c (nth c.views (s - c.j3.length)).left s hs.sm.fI (by omega);have p2:=Bo c (nth c.views (s - c.j3.length)).right s hs.sm.fI (by omega);rw [e1] at p1;have l1:=hlen q1 (by omega);have t1:=ih q1 (by omega);refine Pf.run [cat c,.d (num s),.any,.any,.any,.any] rfl rfl rfl rfl ?_
   repeat' (first|refine XX (e:=(s:Int) - (c.j3.length:Int)) (s - c.j3.length) (h2:= ?_)|refine gx ?_|fail)
   repeat' (first|refine cl (p1) ?_|refine cl (t1) ?_|refine gx ?_|fail)
   refine tb (!I9 (nth c.views (s - c.j3.length)).right []) (fun h2=> ?_) (fun h2=> ?_)
   ·simp only [j9] at h2
    obtain ⟨q2,e2⟩:∃ q:Nat,D4 c (nth c.views (s - c.j3.length)).right s=q:=⟨_,(Int.toNat_of_nonneg (o2 h2)).symm⟩;rw [e2] at p2;have l2:=hlen q2 (by omega);have t2:=ih q2 (by omega)
    repeat' (first|refine cl (p2) ?_|refine cl (t2) ?_|refine gx ?_|fail)
    refine ⟨_,rfl,?_⟩;simp only [ins,yV,e1,e2,Int.toNat_natCast,h2,b7,if_false];rw [U1 c (by omega),U1 c (by omega)];rfl
   ·simp only [B4] at h2
    refine gr ?_;refine ⟨_,rfl,?_⟩;simp only [ins,yV,e1,Int.toNat_natCast,h2,if_true];rw [U1 c (by omega)];simp [b9,ints,y7]
  refine ⟨?_,hin⟩;refine Pf.run [cat c,.d (num s),.any,.any,.any,.any,.any,.any,.any,.any,.any,.any] rfl rfl rfl rfl ?_;refine gr ?_;refine tb (C2 s c.j3.length) (fun h2=> ?_) (fun h2=> ?_)
  ·have h3:=z6 h2
   have hcl:=hs.sm.m8 s (by omega);refine gr ?_;refine Ex.I7 (fun k T H=>∃ (i:Nat) (acc:List Int) (w0 w3 w6 w7 w8 w9 gm ep:b6),T=[w0,.d (num s),.ptr 0 0,w3,A5 1 (fun n=>[num n]) acc,.d (num i),w6,w7,w8,w9,gm,ep]/\H=[.cells (c.enc.map .d)]/\i+k=(nth c.j3 s).m8.length/\acc=((nth c.j3 s).m8.take i).map W6.type) (by rintro _ _ _ ⟨_,_,_,_,_,_,_,_,_,_,_,rfl,_⟩;rfl) ?_ (k:=(nth c.j3 s).m8.length) ⟨0,[],_,_,_,_,_,_,_,_,rfl,rfl,by simp,by simp⟩;rintro k _ _ ⟨i,acc,w0,w3,w6,w7,w8,w9,gm,ep,rfl,rfl,hk,hacc⟩;have hl:acc.length=i:=by rw [hacc];simp;omega
   refine Ex.nT ?_
   repeat' (first|refine gx ?_|refine Ex.J6 ?_|refine Ex.J8 ?_|refine Ex.cond rfl (fun ht=> ?_) (fun ht=> ?_)|refine Ex.test (Rn.text ?_)|refine Ex.test (Rn.draw ?_)|refine ⟨_,rfl,fun ht=> ?_,fun ht=> ?_⟩|refine ⟨_,rfl,?_⟩|fail)
   ·have h4:=z6 ht
    refine ⟨k - 1,by omega,i+1,acc++[(nth (nth c.j3 s).m8 i).type],_,_,_,_,_,_,_,_,rfl,rfl,by omega,?_⟩;rw [I6 (by omega),hacc];simp
   ·have h4:=z8 ht
    rw [s6 (by omega)] at hacc;simp only [P8,gh];rw [if_pos (by omega),<- hacc];rfl
  have h3:=z8 h2;have hv:s - c.j3.length<c.views.length:=by omega
  obtain ⟨o1,o2⟩:=ho s (by omega) (by omega);have b1:=G8 c (nth c.views (s - c.j3.length)).left s;have b2:=G8 c (nth c.views (s - c.j3.length)).right s;obtain ⟨q1,e1⟩:∃ q:Nat,D4 c (nth c.views (s - c.j3.length)).left s=q:=⟨_,(Int.toNat_of_nonneg o1).symm⟩;have p1:=Bo c (nth c.views (s - c.j3.length)).left s hs.sm.fI (by omega);rw [e1] at p1;have l1:=hlen q1 (by omega);have t1:=ih q1 (by omega);have yh:(ins c s).length<=4000:=by
   simp only [ins,yV,e1,Int.toNat_natCast];rw [U1 c (by omega)];cases h5:I9 (nth c.views (s - c.j3.length)).right [] with
   |true=>simp;omega
   |false =>
    have h6:=o2 h5;have h7:=hlen (D4 c (nth c.views (s - c.j3.length)).right s).toNat (by omega);rw [U1 c (by omega)];simp;omega
  have hi1:=hs.items _ hv;have hi2:=hs.B3 _ hv
  repeat' (first|refine XX (e:=(s:Int) - (c.j3.length:Int)) (s - c.j3.length) (h2:= ?_)|refine gx ?_|fail)
  refine tb (o8 (nth c.views (s - c.j3.length)).kind 2) (fun h4=> ?_) (fun h4=> ?_)
  ·repeat' (first|refine cl (p1) ?_|refine cl (t1) ?_|refine gx ?_|fail)
   refine ⟨_,rfl,?_⟩;have hct:P8 c s=nth (sx c s) q1:=by
    unfold P8 gh;rw [if_neg (by omega),h4,if_pos rfl,e1];rfl
   rw [hct,U1 c (by omega)];rfl
  repeat' (first|refine cl (hin (by omega)) ?_|refine gx ?_|fail)
  refine Ex.I7 (fun k T H=>∃ (i:Nat) (acc:List Int) (w0 w1 w2 w3 w5 w9 gm ep:b6),T=[w0,w1,w2,w3,A5 1 (fun n=>[num n]) acc,w5,.ptr 1 0,.d (ints (ins c s)),.d (num i),w9,gm,ep]/\H=[.cells (c.enc.map .d),.cells ((nth c.views (s - c.j3.length)).enc.map .d)]/\i+k=(nth c.views (s - c.j3.length)).items.length/\acc=((nth c.views (s - c.j3.length)).items.take i).map fun x=>(E4 x.expr (ins c s)).1) (by rintro _ _ _ ⟨_,_,_,_,_,_,_,_,_,_,_,rfl,_⟩;rfl) ?_ (k:=(nth c.views (s - c.j3.length)).items.length) ⟨0,[],_,_,_,_,_,_,_,_,rfl,rfl,by simp,by simp⟩;rintro k _ _ ⟨i,acc,w0,w1,w2,w3,w5,w9,gm,ep,rfl,rfl,hk,hacc⟩;have hl:acc.length=i:=by rw [hacc];simp;omega
  refine Ex.nT ?_;refine Ex.seq ?_;refine tb (C2 i (nth c.views (s - c.j3.length)).items.length) (fun h5=> ?_) (fun h5=> ?_)
  ·have h6:=z6 h5
   repeat' (first|refine cl (Iq (nth (nth c.views (s - c.j3.length)).items i).expr (ins c s) (hs.yX (s - c.j3.length) i hv (by omega)) (by omega)) ?_|refine gx ?_|fail)
   refine ⟨k - 1,by omega,i+1,acc++[(E4 (nth (nth c.views (s - c.j3.length)).items i).expr (ins c s)).1],_,_,_,_,_,_,_,_,rfl,rfl,by omega,?_⟩;rw [I6 (by omega),hacc];simp
  have h6:=z8 h5;rw [s6 (by omega)] at hacc;clear h5 h6 hk hl;refine gr ?_;have hl0:acc.length<=1000:=by rw [hacc];simp;omega
  refine Ex.I7 (fun k T H=>∃ (i:Nat) (Ke:List Int) (w0 w1 w2 w3 w5 w8 w9 ep:b6),T=[w0,w1,w2,w3,A5 1 (fun n=>[num n]) Ke,w5,.ptr 1 0,.d (ints (ins c s)),w8,w9,.d (num i),ep]/\H=[.cells (c.enc.map .d),.cells ((nth c.views (s - c.j3.length)).enc.map .d)]/\i+k=(nth c.views (s - c.j3.length)).B3.length/\Ke=acc++((nth c.views (s - c.j3.length)).B3.take i).map (oO (ins c s))) (by rintro _ _ _ ⟨_,_,_,_,_,_,_,_,_,_,_,rfl,_⟩;rfl) ?_ (k:=(nth c.views (s - c.j3.length)).B3.length) ⟨0,acc,_,_,_,_,_,_,_,_,rfl,rfl,by simp,by simp⟩;rintro k _ _ ⟨i,Ke,w0,w1,w2,w3,w5,w8,w9,ep,rfl,rfl,hk,CP⟩;have hl:Ke.length=acc.length+i:=by rw [CP];simp;omega
  refine Ex.nT ?_;refine Ex.seq ?_;refine tb (C2 i (nth c.views (s - c.j3.length)).B3.length) (fun h5=> ?_) (fun h5=> ?_)
  ·have h6:=z6 h5
   repeat' (first|refine cl (Iq (nth (nth c.views (s - c.j3.length)).B3 i).expr (ins c s) (hs.Kf (s - c.j3.length) i hv (by omega)) (by omega)) ?_|refine gx ?_|fail)
   refine tb (o8 (nth (nth c.views (s - c.j3.length)).B3 i).func 0||o8 (nth (nth c.views (s - c.j3.length)).B3 i).func 1) (fun h7=> ?_) (fun h7=> ?_)
   ·refine gr ?_
    refine ⟨k - 1,by omega,i+1,Ke++[1],_,_,_,_,_,_,_,_,rfl,rfl,by omega,?_⟩;rw [I6 (by omega),CP];simp [oO,h7]
   ·refine gr ?_
    refine ⟨k - 1,by omega,i+1,Ke++[(E4 (nth (nth c.views (s - c.j3.length)).B3 i).expr (ins c s)).1],_,_,_,_,_,_,_,_,rfl,rfl,by omega,?_⟩;rw [I6 (by omega),CP];simp [oO,h7]
  ·have h6:=z8 h5
   rw [s6 (by omega)] at CP;refine gr ?_;refine ⟨_,rfl,?_⟩;simp only [P8,gh];rw [if_neg (by omega),h4,if_neg (by simp)];simp only [V2];rw [show yV c (sx c s) (nth c.views (s - c.j3.length)) s=ins c s from rfl,<- hacc,<- CP];rfl
structure FA where
 agg:Bool
 name:C7
 f:Int
 expr:List Z2
instance:Inhabited FA:=⟨⟨false,[],0,[]⟩⟩
def W9 (v:Vw):List FA:=v.items.map (fun x=>⟨false,x.name, -1,x.expr⟩)++v.B3.map (fun x=>⟨true,x.name,x.func,x.expr⟩)
def U4 (ty:List Int):List C7->List FA->Int
 |_,[]=>0
 |seen,e::r =>
  if !D3 e.name then 3
  else if seen.any fun y=>I9 y e.name then 4
  else if e.agg&&(!n7 e.f 0 4||(o8 e.f 0&&C2 0 e.expr.length)) then 1
  else if e.agg&&o8 e.f 0 then U4 ty (seen++[e.name]) r
  else if !o8 (E4 e.expr ty).2 0 then (E4 e.expr ty).2
  else if e.agg&&o8 e.f 1&& !o8 (E4 e.expr ty).1 1 then 5
  else U4 ty (seen++[e.name]) r
theorem eC (v:Vw):(W9 v).length=v.items.length+v.B3.length:=by simp [W9]
theorem mQ (v:Vw){i:Nat}(h:i<v.items.length):nth (W9 v) i=⟨false,(nth v.items i).name, -1,(nth v.items i).expr⟩:=by
 rw [N6 (by rw [eC];omega),N6 h];simp [W9,List.getElem_append_left,h]
theorem pE (v:Vw){i:Nat}(h:v.items.length<=i)(h2:i<v.items.length+v.B3.length):nth (W9 v) i=⟨true,(nth v.B3 (i - v.items.length)).name,(nth v.B3 (i - v.items.length)).func,(nth v.B3 (i - v.items.length)).expr⟩:=by
 rw [N6 (by rw [eC];omega),N6 (by omega)];simp [W9,List.getElem_append_right,h]
theorem Kq (v:Vw){i:Nat}(h:i<v.items.length+v.B3.length):(nth (W9 v) i).agg=X4 v.items.length i:=by
 rcases p7 i v.items.length with h1|h1
 ·rw [mQ v h1];simp [o5];omega
 ·rw [pE v h1 h];simp [o5];omega
set_option maxHeartbeats 16000000 in
theorem Ym (v:Vw)(ty:List Int)(h0:v.items.length<=1000)(h1:v.B3.length<=1000)(h2:ty.length<=100000)(h3:∀ i,i<v.items.length->(nth v.items i).expr.length<=1000)(h4:∀ i,i<v.B3.length->(nth v.B3 i).expr.length<=1000) :
  Pf A 102 [vw v,.d (ints ty)] (.d (num (U4 ty [] (W9 v)))):=by
 have hel:=eC v;refine Pf.run [vw v,.d (ints ty),.any,.any,.any,.any,.any,.any,.any,.any,.any,.any,.any] rfl rfl rfl rfl ?_;refine gr ?_;refine Ex.ff (fun k T H=>∃ (i:Nat) (seen:List C7),T=[.any,.d (ints ty),.ptr 0 0,.any,A5 1 (fun s=>[.str s]) seen,.d (num i),.any,.any,.any,.any,.any,.any,.any]/\H=[.cells (v.enc.map .d)]/\i+k=(W9 v).length/\seen.length=i/\U4 ty [] (W9 v)=U4 ty seen ((W9 v).drop i)) ?_ (k:=(W9 v).length) ⟨0,[],rfl,rfl,by simp,rfl,by simp⟩;rintro k _ _ ⟨i,seen,rfl,rfl,hk,HT,hi⟩;refine Ex.seq ?_;refine tB (C2 i (W9 v).length) ?_ (fun h5=> ?_) (fun h5=> ?_)
 ·repeat' (first|refine cl (hel) ?_|refine gx ?_|refine fk (h1:=fun hw=> ?_) (h2:=fun hw=> ?_)|refine M8 (h1:=fun hw=> ?_) (h2:=fun hw=> ?_)|refine ⟨rfl,rfl,_,rfl,?_⟩|refine ⟨rfl,rfl⟩|fail)
  all_goals exact cc
 ·have h6:=z6 h5
  have hix:i<v.items.length+v.B3.length:=by omega
  rw [A4 (by omega)] at hi;have hfl:=Kq v hix;refine gr ?_;refine Ex.Vp (fun s=>∃ (f:Int) (H2:o6) (w9:b6),s=⟨[.any,.d (ints ty),.ptr 0 0,.any,A5 1 (fun s=>[.str s]) seen,.d (num i),.d (.str (nth (W9 v) i).name),.d (num (nth (W9 v) i).f),.d (y7 Z2.enc (nth (W9 v) i).expr),w9,.any,.any,.any],.cells (v.enc.map .d)::H2⟩/\(nth (W9 v) i).expr.length<=1000) ?_ ?_
  ·skip
   refine tb (C2 i v.items.length) (fun h7=> ?_) (fun h7=> ?_)
   ·have h8:=z6 h7
    have he:=h3 i (by omega);rw [mQ v (by omega)];refine gr ?_;exact ⟨-1,_,_,rfl,he⟩
   ·have h8:=z8 h7
    have he:=h4 (i - v.items.length) (by omega);rw [pE v (by omega) hix]
    repeat' (first|refine XX (e:=(i:Int) - (v.items.length:Int)) (i - v.items.length) (h2:= ?_)|refine gx ?_|fail)
    exact ⟨0,_,_,rfl,he⟩
  rintro _ ⟨f,H2,w9,rfl,he⟩;generalize hen:nth (W9 v) i=en at *
  obtain ⟨ag,nm,ef,ex⟩:=en;simp only at *
  subst hfl;have XR:=Iq ex ty he h2;refine gr ?_;refine tB (!D3 nm) ?_ (fun g1=> ?_) (fun g1=> ?_)
  ·repeat' (first|refine cl (Ut _) ?_|refine gx ?_|refine fk (h1:=fun hw=> ?_) (h2:=fun hw=> ?_)|refine M8 (h1:=fun hw=> ?_) (h2:=fun hw=> ?_)|refine ⟨rfl,rfl,_,rfl,?_⟩|refine ⟨rfl,rfl⟩|fail)
   all_goals exact cc
  ·refine gr ?_
   exact ⟨_,rfl,by rw [hi];simp only [U4,g1,b9,num,if_true]⟩
  refine gr ?_;refine Ex.I7 (fun k T H=>∃ (j:Nat) (w0 w3 w9 ep xX:b6),T=[w0,.d (ints ty),.ptr 0 0,w3,A5 1 (fun s=>[.str s]) seen,.d (num i),.d (.str nm),.d (num ef),.d (y7 Z2.enc ex),w9,.d (num j),ep,xX]/\H= .cells (v.enc.map .d)::H2/\j+k=seen.length/\(seen.any fun y=>I9 y nm)=((seen.drop j).any fun y=>I9 y nm)) (by rintro _ _ _ ⟨_,_,_,_,_,_,_,rfl,_⟩;rfl) ?_ (k:=seen.length) ⟨0,_,_,_,_,_,rfl,rfl,by simp,by simp⟩;rintro k2 _ _ ⟨j,w0,w3,w9,ep,xX,rfl,rfl,hk2,hj⟩;refine Ex.nT ?_;refine Ex.seq ?_;refine tb (C2 j seen.length) (fun g0=> ?_) (fun g0=> ?_)
  ·have g00:=z6 g0
   rw [A4 (by omega)] at hj
   repeat' (first|refine gx ?_|refine Ex.J6 ?_|refine Ex.J8 ?_|refine Ex.cond rfl (fun ht=> ?_) (fun ht=> ?_)|refine Ex.test (Rn.text ?_)|refine Ex.test (Rn.draw ?_)|refine ⟨_,rfl,fun ht=> ?_,fun ht=> ?_⟩|refine ⟨_,rfl,?_⟩|fail)
   ·have g2:(seen.any fun y=>I9 y nm)=true:=by rw [hj];simp [ht]
    rw [hi];simp only [U4,g1,g2,b9,num,b7,if_true,if_false]
   ·exact ⟨k2 - 1,by omega,j+1,_,_,_,_,_,rfl,rfl,by omega,by rw [hj];simp [ht]⟩
  have g00:=z8 g0;rw [m7 (by omega)] at hj;have g2:(seen.any fun y=>I9 y nm)=false:=by rw [hj];rfl
  clear hj hk2 g0 g00;refine gr ?_;refine tB (X4 v.items.length i&&(!n7 ef 0 4||(o8 ef 0&&C2 0 ex.length))) ?_ (fun g3=> ?_) (fun g3=> ?_)
  ·repeat' (first|refine cl (oB _ _ _) ?_|refine gx ?_|refine fk (h1:=fun hw=> ?_) (h2:=fun hw=> ?_)|refine M8 (h1:=fun hw=> ?_) (h2:=fun hw=> ?_)|refine ⟨rfl,rfl,_,rfl,?_⟩|refine ⟨rfl,rfl⟩|fail)
   all_goals exact cc
  ·refine gr ?_
   exact ⟨_,rfl,by rw [hi];simp only [U4,g1,g2,g3,b9,num,b7,if_true,if_false]⟩
  refine gr ?_;refine tb (X4 v.items.length i&&o8 ef 0) (fun g4=> ?_) (fun g4=> ?_)
  ·refine gr ?_
   exact ⟨k - 1,by omega,_,_,rfl,i+1,seen++[nm],rfl,rfl,by omega,by simp [HT],by rw [hi];simp only [U4,g1,g2,g3,g4,b7,if_true,if_false]⟩
  repeat' (first|refine cl (XR) ?_|refine gx ?_|fail)
  refine tb (!o8 (E4 ex ty).2 0) (fun g5=> ?_) (fun g5=> ?_)
  ·refine gr ?_
   exact ⟨_,rfl,by rw [hi];simp only [U4,g1,g2,g3,g4,g5,b9,b7,if_true,if_false]⟩
  refine gr ?_;refine tb (X4 v.items.length i&&o8 ef 1&& !o8 (E4 ex ty).1 1) (fun g6=> ?_) (fun g6=> ?_)
  ·refine gr ?_
   exact ⟨_,rfl,by rw [hi];simp only [U4,g1,g2,g3,g4,g5,g6,b9,num,b7,if_true,if_false]⟩
  ·refine gr ?_
   exact ⟨k - 1,by omega,_,_,rfl,i+1,seen++[nm],rfl,rfl,by omega,by simp [HT],by rw [hi];simp only [U4,g1,g2,g3,g4,g5,g6,b7,if_true,if_false]⟩
 ·have h6:=z8 h5
  rw [m7 (by omega)] at hi;refine gr ?_;exact ⟨_,rfl,by rw [hi];rfl⟩
end Go.Proofs.YtkmclibmmlgogaaGreat


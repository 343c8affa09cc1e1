/- Texts D14 D15 (made short by a program) -/
import Derived.Test.YtkmclibmmlgogaaGreatD1
import Derived.Test.YtkmclibmmlgogaaGreatD3
set_option linter.unusedVariables false
set_option linter.unusedSimpArgs false
open Bool renaming false_eq_true → b7, not_eq_false' → A7, not_eq_true' → j5
open List renaming drop_of_length_le → m6, take_of_length_le → q7
open Nat renaming lt_or_ge → p9
namespace Go.Proofs.YtkmclibmmlgogaaGreat
open Go.z7 Go.z7.S
attribute [local irreducible] Rx Ry Rn Ex Pf
structure C0 (c:n5):Prop where
 sm:n5.small c
 items:∀ k,k<c.views.length->(nth c.views k).items.length<=1000
 C2:∀ k,k<c.views.length->(nth c.views k).C2.length<=1000
 on:∀ k,k<c.views.length->(nth c.views k).on.length<=1000
 wh:∀ k,k<c.views.length->(nth c.views k).wh.length<=1000
 zP:∀ k i,k<c.views.length->i<(nth c.views k).items.length->(nth (nth c.views k).items i).expr.length<=1000
 KP:∀ k i,k<c.views.length->i<(nth c.views k).C2.length->(nth (nth c.views k).C2 i).expr.length<=1000
 bk:∀ k,k<c.M8.length->(nth c.M8 k).tables.length<=1000
def pX (ty:List Int)(a:CN):Int:=if o9 a.func 0||o9 a.func 1 then 1 else (F7 a.expr ty).1
def X7 (v:Vw)(ty:List Int):List Int:=v.items.map (fun x=>(F7 x.expr ty).1)++v.C2.map (pX ty)
def zN (c:n5)(prev:List (List Int))(v:Vw)(k:Nat):List Int:=nth prev (D4 c v.left k).toNat++(if J4 v.right [] then [] else nth prev (D4 c v.right k).toNat)
def iw (c:n5)(prev:List (List Int))(k:Nat):List Int :=
 if k<c.j3.length then (nth c.j3 k).m9.map Y6.type
 else if o9 (nth c.views (k - c.j3.length)).kind 2 then nth prev (D4 c (nth c.views (k - c.j3.length)).left k).toNat
 else X7 (nth c.views (k - c.j3.length)) (zN c prev (nth c.views (k - c.j3.length)) k)
def tu (c:n5):Nat->List (List Int)
 |0=>[]
 |k+1=>tu c k++[iw c (tu c k) k]
def Q5 (c:n5)(k:Nat):List Int:=iw c (tu c k) k
def ins (c:n5)(k:Nat):List Int:=zN c (tu c k) (nth c.views (k - c.j3.length)) k
theorem EZ (c:n5):∀ k,(tu c k).length=k
 |0=>rfl
 |k+1=>by simp [tu,EZ c k]
theorem W0 (c:n5):∀ {k j:Nat},j<k->nth (tu c k) j=Q5 c j
 |k+1,j,h=>by
  have hl:=EZ c k
  rcases p9 j k with h1|h1
  ·rw [<- W0 c h1,tu,K0 (by simp;omega),K0 (by omega),List.getElem_append_left (by omega)]
  ·obtain rfl:j=k:=by omega
   rw [tu,K0 (by simp [hl]),List.getElem_append_right (by omega)];simp [hl,Q5]
def ot (c:n5)(n:Nat):Prop:=∀ k,c.j3.length<=k->k<n->0<=D4 c (nth c.views (k - c.j3.length)).left k/\(J4 (nth c.views (k - c.j3.length)).right []=false->0<=D4 c (nth c.views (k - c.j3.length)).right k)
theorem I7 (c:n5)(name:D6)(n:Nat):D4 c name n= -1\/(0<=D4 c name n/\D4 c name n<n/\D4 c name n<n5.ns c):=by
 unfold D4
 rcases bZ name ((n5.sn c).take n) 0 with h|h
 ·exact Or.inl h
 ·right
  have:=R2 c;simp at h;omega
theorem P0 {c:n5}(hs:C0 c):∀ (n k:Nat),k<n->n<=n5.ns c->ot c n->(Q5 c k).length<=2000
 |0,k,h,_,_=>absurd h (by omega)
 |n+1,k,h,hn,ho=>by
  rcases p9 k n with h1|h1
  ·exact P0 hs n k h1 (by omega) (fun k h1 h2=>ho k h1 (by omega))
  obtain rfl:k=n:=by omega
  unfold Q5 iw;split
  ·rename_i h2
   have:=hs.sm.m9 k h2;simp;omega
  ·rename_i h2
   have hv:k - c.j3.length<c.views.length:=by unfold n5.ns at hn;omega
   split
   ·have h3:=(ho k (by omega) (by omega)).1
    rcases I7 c (nth c.views (k - c.j3.length)).left k with h4|h4
    ·omega
    ·rw [W0 c (by omega)]
     exact P0 hs k _ (by omega) (by omega) (fun k h1 h2=>ho k h1 (by omega))
   ·have h5:=hs.items _ hv
    have h6:=hs.C2 _ hv;simp [X7];omega
set_option maxHeartbeats 8000000 in
theorem gA (c:n5)(hs:C0 c):∀ (n s:Nat),s<n->n<=n5.ns c->ot c n->Pf A 87 [cat c,.d (num s)] (.d (ints (Q5 c s)))/\(c.j3.length<=s->Pf A 100 [cat c,.d (num s)] (.d (ints (ins c s))))
 |0,s,h,_,_=>absurd h (by omega)
 |n+1,s,h,hn,ho=>by
  have aY:n5.ns c<=2000:=by obtain ⟨f0,f1,_⟩:=hs.sm.fq;unfold n5.ns;omega
  have QZ:n5.ns c=c.j3.length+c.views.length:=rfl
  rcases p9 s n with h1|h1
  ·exact gA c hs n s h1 (by omega) (fun k h1 h2=>ho k h1 (by omega))
  obtain rfl:s=n:=by omega
  have ih:∀ k,k<s->Pf A 87 [cat c,.d (num k)] (.d (ints (Q5 c k))):=fun k hk=>(gA c hs s k hk (by omega) (fun k h1 h2=>ho k h1 (by omega))).1
  have hlen:∀ k,k<s->(Q5 c k).length<=2000:=fun k hk=>P0 hs s k hk (by omega) (fun k h1 h2=>ho k h1 (by omega))
  have hin:c.j3.length<=s->Pf A 100 [cat c,.d (num s)] (.d (ints (ins c s))):=fun ht=>by
   have hv:s - c.j3.length<c.views.length:=by omega
   obtain ⟨o1,o2⟩:=ho s ht (by omega);have b1:=I7 c (nth c.views (s - c.j3.length)).left s;have b2:=I7 c (nth c.views (s - c.j3.length)).right s;obtain ⟨q1,e1⟩:∃ q:Nat,D4 c (nth c.views (s - c.j3.length)).left s=q:=⟨_,(Int.toNat_of_nonneg o1).symm⟩;have p1:=uH c (nth c.views (s - c.j3.length)).left s hs.sm.fq (by omega);have p2:=uH c (nth c.views (s - c.j3.length)).right s hs.sm.fq (by omega);rw [e1] at p1;have l1:=hlen q1 (by omega);have t1:=ih q1 (by omega);refine Pf.run [cat c,.d (num s),.any,.any,.any,.any] rfl rfl rfl rfl ?_
   repeat' (first|refine Vd (e:=(s:Int) - (c.j3.length:Int)) (s - c.j3.length) (h2:= ?_)|refine gx ?_|fail)
   repeat' (first|refine cl (p1) ?_|refine cl (t1) ?_|refine gx ?_|fail)
   refine tb (!J4 (nth c.views (s - c.j3.length)).right []) (fun h2=> ?_) (fun h2=> ?_)
   ·simp only [j5] at h2
    obtain ⟨q2,e2⟩:∃ q:Nat,D4 c (nth c.views (s - c.j3.length)).right s=q:=⟨_,(Int.toNat_of_nonneg (o2 h2)).symm⟩;rw [e2] at p2;have l2:=hlen q2 (by omega);have t2:=ih q2 (by omega)
    repeat' (first|refine cl (p2) ?_|refine cl (t2) ?_|refine gx ?_|fail)
    refine ⟨_,rfl,?_⟩;simp only [ins,zN,e1,e2,Int.toNat_natCast,h2,b7,if_false];rw [W0 c (by omega),W0 c (by omega)];rfl
   ·simp only [A7] at h2
    refine gr ?_;refine ⟨_,rfl,?_⟩;simp only [ins,zN,e1,Int.toNat_natCast,h2,if_true];rw [W0 c (by omega)];simp [b9,ints,A5]
  refine ⟨?_,hin⟩;refine Pf.run [cat c,.d (num s),.any,.any,.any,.any,.any,.any,.any,.any,.any,.any] rfl rfl rfl rfl ?_;refine gr ?_;refine tb (C7 s c.j3.length) (fun h2=> ?_) (fun h2=> ?_)
  ·have h3:=A4 h2
   have hcl:=hs.sm.m9 s (by omega);refine gr ?_;refine Ex.J1 (fun k T H=>∃ (i:Nat) (acc:List Int) (w0 w3 w6 w7 w8 w9 jI gG:b6),T=[w0,.d (num s),.ptr 0 0,w3,B4 1 (fun n=>[num n]) acc,.d (num i),w6,w7,w8,w9,jI,gG]/\H=[.cells (c.enc.map .d)]/\i+k=(nth c.j3 s).m9.length/\acc=((nth c.j3 s).m9.take i).map Y6.type) (by rintro _ _ _ ⟨_,_,_,_,_,_,_,_,_,_,_,rfl,_⟩;rfl) ?_ (k:=(nth c.j3 s).m9.length) ⟨0,[],_,_,_,_,_,_,_,_,rfl,rfl,by simp,by simp⟩;rintro k _ _ ⟨i,acc,w0,w3,w6,w7,w8,w9,jI,gG,rfl,rfl,hk,hacc⟩;have hl:acc.length=i:=by rw [hacc];simp;omega
   refine Ex.nT ?_
   repeat' (first|refine gx ?_|refine Ex.I4 ?_|refine Ex.I6 ?_|refine Ex.cond rfl (fun ht=> ?_) (fun ht=> ?_)|refine Ex.test (Rn.text ?_)|refine Ex.test (Rn.draw ?_)|refine ⟨_,rfl,fun ht=> ?_,fun ht=> ?_⟩|refine ⟨_,rfl,?_⟩|fail)
   ·have h4:=A4 ht
    refine ⟨k - 1,by omega,i+1,acc++[(nth (nth c.j3 s).m9 i).type],_,_,_,_,_,_,_,_,rfl,rfl,by omega,?_⟩;rw [F6 (by omega),hacc];simp
   ·have h4:=z8 ht
    rw [q7 (by omega)] at hacc;simp only [Q5,iw];rw [if_pos (by omega),<- hacc];rfl
  have h3:=z8 h2;have hv:s - c.j3.length<c.views.length:=by omega
  obtain ⟨o1,o2⟩:=ho s (by omega) (by omega);have b1:=I7 c (nth c.views (s - c.j3.length)).left s;have b2:=I7 c (nth c.views (s - c.j3.length)).right s;obtain ⟨q1,e1⟩:∃ q:Nat,D4 c (nth c.views (s - c.j3.length)).left s=q:=⟨_,(Int.toNat_of_nonneg o1).symm⟩;have p1:=uH c (nth c.views (s - c.j3.length)).left s hs.sm.fq (by omega);rw [e1] at p1;have l1:=hlen q1 (by omega);have t1:=ih q1 (by omega);have uB:(ins c s).length<=4000:=by
   simp only [ins,zN,e1,Int.toNat_natCast];rw [W0 c (by omega)];cases h5:J4 (nth c.views (s - c.j3.length)).right [] with
   |true=>simp;omega
   |false =>
    have h6:=o2 h5;have h7:=hlen (D4 c (nth c.views (s - c.j3.length)).right s).toNat (by omega);rw [W0 c (by omega)];simp;omega
  have hi1:=hs.items _ hv;have hi2:=hs.C2 _ hv
  repeat' (first|refine Vd (e:=(s:Int) - (c.j3.length:Int)) (s - c.j3.length) (h2:= ?_)|refine gx ?_|fail)
  refine tb (o9 (nth c.views (s - c.j3.length)).kind 2) (fun h4=> ?_) (fun h4=> ?_)
  ·repeat' (first|refine cl (p1) ?_|refine cl (t1) ?_|refine gx ?_|fail)
   refine ⟨_,rfl,?_⟩;have hct:Q5 c s=nth (tu c s) q1:=by
    unfold Q5 iw;rw [if_neg (by omega),h4,if_pos rfl,e1];rfl
   rw [hct,W0 c (by omega)];rfl
  repeat' (first|refine cl (hin (by omega)) ?_|refine gx ?_|fail)
  refine Ex.J1 (fun k T H=>∃ (i:Nat) (acc:List Int) (w0 w1 w2 w3 w5 w9 jI gG:b6),T=[w0,w1,w2,w3,B4 1 (fun n=>[num n]) acc,w5,.ptr 1 0,.d (ints (ins c s)),.d (num i),w9,jI,gG]/\H=[.cells (c.enc.map .d),.cells ((nth c.views (s - c.j3.length)).enc.map .d)]/\i+k=(nth c.views (s - c.j3.length)).items.length/\acc=((nth c.views (s - c.j3.length)).items.take i).map fun x=>(F7 x.expr (ins c s)).1) (by rintro _ _ _ ⟨_,_,_,_,_,_,_,_,_,_,_,rfl,_⟩;rfl) ?_ (k:=(nth c.views (s - c.j3.length)).items.length) ⟨0,[],_,_,_,_,_,_,_,_,rfl,rfl,by simp,by simp⟩;rintro k _ _ ⟨i,acc,w0,w1,w2,w3,w5,w9,jI,gG,rfl,rfl,hk,hacc⟩;have hl:acc.length=i:=by rw [hacc];simp;omega
  refine Ex.nT ?_;refine Ex.seq ?_;refine tb (C7 i (nth c.views (s - c.j3.length)).items.length) (fun h5=> ?_) (fun h5=> ?_)
  ·have h6:=A4 h5
   repeat' (first|refine cl (IU (nth (nth c.views (s - c.j3.length)).items i).expr (ins c s) (hs.zP (s - c.j3.length) i hv (by omega)) (by omega)) ?_|refine gx ?_|fail)
   refine ⟨k - 1,by omega,i+1,acc++[(F7 (nth (nth c.views (s - c.j3.length)).items i).expr (ins c s)).1],_,_,_,_,_,_,_,_,rfl,rfl,by omega,?_⟩;rw [F6 (by omega),hacc];simp
  have h6:=z8 h5;rw [q7 (by omega)] at hacc;clear h5 h6 hk hl;refine gr ?_;have hl0:acc.length<=1000:=by rw [hacc];simp;omega
  refine Ex.J1 (fun k T H=>∃ (i:Nat) (sw:List Int) (w0 w1 w2 w3 w5 w8 w9 gG:b6),T=[w0,w1,w2,w3,B4 1 (fun n=>[num n]) sw,w5,.ptr 1 0,.d (ints (ins c s)),w8,w9,.d (num i),gG]/\H=[.cells (c.enc.map .d),.cells ((nth c.views (s - c.j3.length)).enc.map .d)]/\i+k=(nth c.views (s - c.j3.length)).C2.length/\sw=acc++((nth c.views (s - c.j3.length)).C2.take i).map (pX (ins c s))) (by rintro _ _ _ ⟨_,_,_,_,_,_,_,_,_,_,_,rfl,_⟩;rfl) ?_ (k:=(nth c.views (s - c.j3.length)).C2.length) ⟨0,acc,_,_,_,_,_,_,_,_,rfl,rfl,by simp,by simp⟩;rintro k _ _ ⟨i,sw,w0,w1,w2,w3,w5,w8,w9,gG,rfl,rfl,hk,oh⟩;have hl:sw.length=acc.length+i:=by rw [oh];simp;omega
  refine Ex.nT ?_;refine Ex.seq ?_;refine tb (C7 i (nth c.views (s - c.j3.length)).C2.length) (fun h5=> ?_) (fun h5=> ?_)
  ·have h6:=A4 h5
   repeat' (first|refine cl (IU (nth (nth c.views (s - c.j3.length)).C2 i).expr (ins c s) (hs.KP (s - c.j3.length) i hv (by omega)) (by omega)) ?_|refine gx ?_|fail)
   refine tb (o9 (nth (nth c.views (s - c.j3.length)).C2 i).func 0||o9 (nth (nth c.views (s - c.j3.length)).C2 i).func 1) (fun h7=> ?_) (fun h7=> ?_)
   ·refine gr ?_
    refine ⟨k - 1,by omega,i+1,sw++[1],_,_,_,_,_,_,_,_,rfl,rfl,by omega,?_⟩;rw [F6 (by omega),oh];simp [pX,h7]
   ·refine gr ?_
    refine ⟨k - 1,by omega,i+1,sw++[(F7 (nth (nth c.views (s - c.j3.length)).C2 i).expr (ins c s)).1],_,_,_,_,_,_,_,_,rfl,rfl,by omega,?_⟩;rw [F6 (by omega),oh];simp [pX,h7]
  ·have h6:=z8 h5
   rw [q7 (by omega)] at oh;refine gr ?_;refine ⟨_,rfl,?_⟩;simp only [Q5,iw];rw [if_neg (by omega),h4,if_neg (by simp)];simp only [X7];rw [show zN c (tu c s) (nth c.views (s - c.j3.length)) s=ins c s from rfl,<- hacc,<- oh];rfl
structure CR where
 agg:Bool
 name:D6
 f:Int
 expr:List aG
instance:Inhabited CR:=⟨⟨false,[],0,[]⟩⟩
def X1 (v:Vw):List CR:=v.items.map (fun x=>⟨false,x.name, -1,x.expr⟩)++v.C2.map (fun x=>⟨true,x.name,x.func,x.expr⟩)
def V2 (ty:List Int):List D6->List CR->Int
 |_,[]=>0
 |seen,e::r =>
  if !E5 e.name then 3
  else if seen.any fun y=>J4 y e.name then 4
  else if e.agg&&(!n8 e.f 0 4||(o9 e.f 0&&C7 0 e.expr.length)) then 1
  else if e.agg&&o9 e.f 0 then V2 ty (seen++[e.name]) r
  else if !o9 (F7 e.expr ty).2 0 then (F7 e.expr ty).2
  else if e.agg&&o9 e.f 1&& !o9 (F7 e.expr ty).1 1 then 5
  else V2 ty (seen++[e.name]) r
theorem eS (v:Vw):(X1 v).length=v.items.length+v.C2.length:=by simp [X1]
theorem nA (v:Vw){i:Nat}(h:i<v.items.length):nth (X1 v) i=⟨false,(nth v.items i).name, -1,(nth v.items i).expr⟩:=by
 rw [K0 (by rw [eS];omega),K0 h];simp [X1,List.getElem_append_left,h]
theorem qo (v:Vw){i:Nat}(h:v.items.length<=i)(h2:i<v.items.length+v.C2.length):nth (X1 v) i=⟨true,(nth v.C2 (i - v.items.length)).name,(nth v.C2 (i - v.items.length)).func,(nth v.C2 (i - v.items.length)).expr⟩:=by
 rw [K0 (by rw [eS];omega),K0 (by omega)];simp [X1,List.getElem_append_right,h]
theorem KZ (v:Vw){i:Nat}(h:i<v.items.length+v.C2.length):(nth (X1 v) i).agg=W6 v.items.length i:=by
 rcases p9 i v.items.length with h1|h1
 ·rw [nA v h1];simp [p5];omega
 ·rw [qo v h1 h];simp [p5];omega
set_option maxHeartbeats 16000000 in
theorem Zy (v:Vw)(ty:List Int)(h0:v.items.length<=1000)(h1:v.C2.length<=1000)(h2:ty.length<=100000)(h3:∀ i,i<v.items.length->(nth v.items i).expr.length<=1000)(h4:∀ i,i<v.C2.length->(nth v.C2 i).expr.length<=1000) :
  Pf A 102 [vw v,.d (ints ty)] (.d (num (V2 ty [] (X1 v)))):=by
 have hel:=eS v;refine Pf.run [vw v,.d (ints ty),.any,.any,.any,.any,.any,.any,.any,.any,.any,.any,.any] rfl rfl rfl rfl ?_;refine gr ?_;refine Ex.fG (fun k T H=>∃ (i:Nat) (seen:List D6),T=[.any,.d (ints ty),.ptr 0 0,.any,B4 1 (fun s=>[.str s]) seen,.d (num i),.any,.any,.any,.any,.any,.any,.any]/\H=[.cells (v.enc.map .d)]/\i+k=(X1 v).length/\seen.length=i/\V2 ty [] (X1 v)=V2 ty seen ((X1 v).drop i)) ?_ (k:=(X1 v).length) ⟨0,[],rfl,rfl,by simp,rfl,by simp⟩;rintro k _ _ ⟨i,seen,rfl,rfl,hk,Iy,hi⟩;refine Ex.seq ?_;refine tB (C7 i (X1 v).length) ?_ (fun h5=> ?_) (fun h5=> ?_)
 ·repeat' (first|refine cl (hel) ?_|refine gx ?_|refine fk (h1:=fun hw=> ?_) (h2:=fun hw=> ?_)|refine L3 (h1:=fun hw=> ?_) (h2:=fun hw=> ?_)|refine ⟨rfl,rfl,_,rfl,?_⟩|refine ⟨rfl,rfl⟩|fail)
  all_goals exact cc
 ·have h6:=A4 h5
  have hix:i<v.items.length+v.C2.length:=by omega
  rw [A8 (by omega)] at hi;have hfl:=KZ v hix;refine gr ?_;refine Ex.WD (fun s=>∃ (f:Int) (H2:o6) (w9:b6),s=⟨[.any,.d (ints ty),.ptr 0 0,.any,B4 1 (fun s=>[.str s]) seen,.d (num i),.d (.str (nth (X1 v) i).name),.d (num (nth (X1 v) i).f),.d (A5 aG.enc (nth (X1 v) i).expr),w9,.any,.any,.any],.cells (v.enc.map .d)::H2⟩/\(nth (X1 v) i).expr.length<=1000) ?_ ?_
  ·skip
   refine tb (C7 i v.items.length) (fun h7=> ?_) (fun h7=> ?_)
   ·have h8:=A4 h7
    have he:=h3 i (by omega);rw [nA v (by omega)];refine gr ?_;exact ⟨-1,_,_,rfl,he⟩
   ·have h8:=z8 h7
    have he:=h4 (i - v.items.length) (by omega);rw [qo v (by omega) hix]
    repeat' (first|refine Vd (e:=(i:Int) - (v.items.length:Int)) (i - v.items.length) (h2:= ?_)|refine gx ?_|fail)
    exact ⟨0,_,_,rfl,he⟩
  rintro _ ⟨f,H2,w9,rfl,he⟩;generalize hen:nth (X1 v) i=en at *
  obtain ⟨ag,nm,ef,ex⟩:=en;simp only at *
  subst hfl;have Zf:=IU ex ty he h2;refine gr ?_;refine tB (!E5 nm) ?_ (fun g1=> ?_) (fun g1=> ?_)
  ·repeat' (first|refine cl (VB _) ?_|refine gx ?_|refine fk (h1:=fun hw=> ?_) (h2:=fun hw=> ?_)|refine L3 (h1:=fun hw=> ?_) (h2:=fun hw=> ?_)|refine ⟨rfl,rfl,_,rfl,?_⟩|refine ⟨rfl,rfl⟩|fail)
   all_goals exact cc
  ·refine gr ?_
   exact ⟨_,rfl,by rw [hi];simp only [V2,g1,b9,num,if_true]⟩
  refine gr ?_;refine Ex.J1 (fun k T H=>∃ (j:Nat) (w0 w3 w9 gG Jt:b6),T=[w0,.d (ints ty),.ptr 0 0,w3,B4 1 (fun s=>[.str s]) seen,.d (num i),.d (.str nm),.d (num ef),.d (A5 aG.enc ex),w9,.d (num j),gG,Jt]/\H= .cells (v.enc.map .d)::H2/\j+k=seen.length/\(seen.any fun y=>J4 y nm)=((seen.drop j).any fun y=>J4 y nm)) (by rintro _ _ _ ⟨_,_,_,_,_,_,_,rfl,_⟩;rfl) ?_ (k:=seen.length) ⟨0,_,_,_,_,_,rfl,rfl,by simp,by simp⟩;rintro k2 _ _ ⟨j,w0,w3,w9,gG,Jt,rfl,rfl,hk2,hj⟩;refine Ex.nT ?_;refine Ex.seq ?_;refine tb (C7 j seen.length) (fun g0=> ?_) (fun g0=> ?_)
  ·have g00:=A4 g0
   rw [A8 (by omega)] at hj
   repeat' (first|refine gx ?_|refine Ex.I4 ?_|refine Ex.I6 ?_|refine Ex.cond rfl (fun ht=> ?_) (fun ht=> ?_)|refine Ex.test (Rn.text ?_)|refine Ex.test (Rn.draw ?_)|refine ⟨_,rfl,fun ht=> ?_,fun ht=> ?_⟩|refine ⟨_,rfl,?_⟩|fail)
   ·have g2:(seen.any fun y=>J4 y nm)=true:=by rw [hj];simp [ht]
    rw [hi];simp only [V2,g1,g2,b9,num,b7,if_true,if_false]
   ·exact ⟨k2 - 1,by omega,j+1,_,_,_,_,_,rfl,rfl,by omega,by rw [hj];simp [ht]⟩
  have g00:=z8 g0;rw [m6 (by omega)] at hj;have g2:(seen.any fun y=>J4 y nm)=false:=by rw [hj];rfl
  clear hj hk2 g0 g00;refine gr ?_;refine tB (W6 v.items.length i&&(!n8 ef 0 4||(o9 ef 0&&C7 0 ex.length))) ?_ (fun g3=> ?_) (fun g3=> ?_)
  ·repeat' (first|refine cl (pg _ _ _) ?_|refine gx ?_|refine fk (h1:=fun hw=> ?_) (h2:=fun hw=> ?_)|refine L3 (h1:=fun hw=> ?_) (h2:=fun hw=> ?_)|refine ⟨rfl,rfl,_,rfl,?_⟩|refine ⟨rfl,rfl⟩|fail)
   all_goals exact cc
  ·refine gr ?_
   exact ⟨_,rfl,by rw [hi];simp only [V2,g1,g2,g3,b9,num,b7,if_true,if_false]⟩
  refine gr ?_;refine tb (W6 v.items.length i&&o9 ef 0) (fun g4=> ?_) (fun g4=> ?_)
  ·refine gr ?_
   exact ⟨k - 1,by omega,_,_,rfl,i+1,seen++[nm],rfl,rfl,by omega,by simp [Iy],by rw [hi];simp only [V2,g1,g2,g3,g4,b7,if_true,if_false]⟩
  repeat' (first|refine cl (Zf) ?_|refine gx ?_|fail)
  refine tb (!o9 (F7 ex ty).2 0) (fun g5=> ?_) (fun g5=> ?_)
  ·refine gr ?_
   exact ⟨_,rfl,by rw [hi];simp only [V2,g1,g2,g3,g4,g5,b9,b7,if_true,if_false]⟩
  refine gr ?_;refine tb (W6 v.items.length i&&o9 ef 1&& !o9 (F7 ex ty).1 1) (fun g6=> ?_) (fun g6=> ?_)
  ·refine gr ?_
   exact ⟨_,rfl,by rw [hi];simp only [V2,g1,g2,g3,g4,g5,g6,b9,num,b7,if_true,if_false]⟩
  ·refine gr ?_
   exact ⟨k - 1,by omega,_,_,rfl,i+1,seen++[nm],rfl,rfl,by omega,by simp [Iy],by rw [hi];simp only [V2,g1,g2,g3,g4,g5,g6,b7,if_true,if_false]⟩
 ·have h6:=z8 h5
  rw [m6 (by omega)] at hi;refine gr ?_;exact ⟨_,rfl,by rw [hi];rfl⟩
end Go.Proofs.YtkmclibmmlgogaaGreat


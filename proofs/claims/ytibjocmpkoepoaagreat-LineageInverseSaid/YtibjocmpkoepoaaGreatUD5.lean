import Derived.Test.YtibjocmpkoepoaaGreatUD0
set_option linter.all false
open Bool renaming false_eq_true → j3, not_eq_false' → C7, not_eq_true' → n5, or_eq_false_iff → F3
open List renaming drop_of_length_le → l5, take_of_length_le → B5
open Nat renaming lt_or_ge → y4
namespace Go.Proofs.YtibjocmpkoepoaaGreat
open Go.x9 Go.x9.S
attribute [local irreducible] Rx Ry Rn Ex Pf
structure O4 (c:y5):Prop where
 sm:y5.small c
 items:∀ k,k<c.views.length->(nth c.views k).items.length<=1000
 D4:∀ k,k<c.views.length->(nth c.views k).D4.length<=1000
 on:∀ k,k<c.views.length->(nth c.views k).on.length<=1000
 wh:∀ k,k<c.views.length->(nth c.views k).wh.length<=1000
 Dg:∀ k i,k<c.views.length->i<(nth c.views k).items.length->(nth (nth c.views k).items i).expr.length<=1000
 Ql:∀ k i,k<c.views.length->i<(nth c.views k).D4.length->(nth (nth c.views k).D4 i).expr.length<=1000
def sr (ty:List Int)(a:Ce):Int:=if s8 a.func 0||s8 a.func 1 then 1 else (G7 a.expr ty).1
def W9 (v:Vw)(ty:List Int):List Int:=v.items.map (fun x=>(G7 x.expr ty).1)++v.D4.map (sr ty)
def Aa (c:y5)(prev:List (List Int))(v:Vw)(k:Nat):List Int:=nth prev (J1 c v.left k).toNat++(if M0 v.right [] then [] else nth prev (J1 c v.right k).toNat)
def gq (c:y5)(prev:List (List Int))(k:Nat):List Int :=
 if k<c.k9.length then (nth c.k9 k).p8.map aG.type
 else if s8 (nth c.views (k - c.k9.length)).kind 2 then nth prev (J1 c (nth c.views (k - c.k9.length)).left k).toNat
 else W9 (nth c.views (k - c.k9.length)) (Aa c prev (nth c.views (k - c.k9.length)) k)
def mH (c:y5):Nat->List (List Int)
 |0=>[]
 |k+1=>mH c k++[gq c (mH c k) k]
def P4 (c:y5)(k:Nat):List Int:=gq c (mH c k) k
def ins (c:y5)(k:Nat):List Int:=Aa c (mH c k) (nth c.views (k - c.k9.length)) k
theorem JO (c:y5):∀ k,(mH c k).length=k
 |0=>rfl
 |k+1=>by simp [mH,JO c k]
theorem V2 (c:y5):∀ {k j:Nat},j<k->nth (mH c k) j=P4 c j
 |k+1,j,h=>by
  have hl:=JO c k
  rcases y4 j k with h1|h1
  .rw [<- V2 c h1,mH,I9 (by simp;omega),I9 (by omega),List.getElem_append_left (by omega)]
  .obtain rfl:j=k:=by omega
   rw [mH,I9 (by simp [hl]),List.getElem_append_right (by omega)];simp [hl,P4]
def DK (c:y5)(n:Nat):Prop:=∀ k,c.k9.length<=k->k<n->0<=J1 c (nth c.views (k - c.k9.length)).left k/\(M0 (nth c.views (k - c.k9.length)).right []=false->0<=J1 c (nth c.views (k - c.k9.length)).right k)
theorem M7 (c:y5)(name:L3)(n:Nat):J1 c name n= -1\/(0<=J1 c name n/\J1 c name n<n/\J1 c name n<y5.ns c):=by
 unfold J1
 rcases fB name ((y5.sn c).take n) 0 with h|h
 .exact Or.inl h
 .right
  have:=jX c;simp at h;omega
theorem iG {c:y5}(hs:O4 c):∀ (n k:Nat),k<n->n<=y5.ns c->DK c n->(P4 c k).length<=2000
 |0,k,h,_,_=>absurd h (by omega)
 |n+1,k,h,hn,ho=>by
  rcases y4 k n with h1|h1
  .exact iG hs n k h1 (by omega) (fun k h1 h2=>ho k h1 (by omega))
  obtain rfl:k=n:=by omega
  unfold P4 gq;split
  .rename_i h2
   have:=hs.sm.p8 k h2;simp;omega
  .rename_i h2
   have hv:k - c.k9.length<c.views.length:=by unfold y5.ns at hn;omega
   split
   .have h3:=(ho k (by omega) (by omega)).1
    rcases M7 c (nth c.views (k - c.k9.length)).left k with h4|h4
    .omega
    .rw [V2 c (by omega)]
     exact iG hs k _ (by omega) (by omega) (fun k h1 h2=>ho k h1 (by omega))
   .have h5:=hs.items _ hv
    have h6:=hs.D4 _ hv;simp [W9];omega
set_option maxHeartbeats 8000000 in
theorem kS (c:y5)(hs:O4 c):∀ (n s:Nat),s<n->n<=y5.ns c->DK c n->Pf A 54 [cat c,.d (num s)] (.d (ints (P4 c s)))/\(c.k9.length<=s->Pf A 113 [cat c,.d (num s)] (.d (ints (ins c s))))
 |0,s,h,_,_=>absurd h (by omega)
 |n+1,s,h,hn,ho=>by
  have eV:y5.ns c<=2000:=by obtain ⟨f0,f1,_⟩:=hs.sm.qy;unfold y5.ns;omega
  have bg0:y5.ns c=c.k9.length+c.views.length:=rfl
  rcases y4 s n with h1|h1
  .exact kS c hs n s h1 (by omega) (fun k h1 h2=>ho k h1 (by omega))
  obtain rfl:s=n:=by omega
  have ih:∀ k,k<s->Pf A 54 [cat c,.d (num k)] (.d (ints (P4 c k))):=fun k hk=>(kS c hs s k hk (by omega) (fun k h1 h2=>ho k h1 (by omega))).1
  have hlen:∀ k,k<s->(P4 c k).length<=2000:=fun k hk=>iG hs s k hk (by omega) (fun k h1 h2=>ho k h1 (by omega))
  have hin:c.k9.length<=s->Pf A 113 [cat c,.d (num s)] (.d (ints (ins c s))):=fun ht=>by
   have hv:s - c.k9.length<c.views.length:=by omega
   obtain ⟨o1,o2⟩:=ho s ht (by omega);have b1:=M7 c (nth c.views (s - c.k9.length)).left s;have b2:=M7 c (nth c.views (s - c.k9.length)).right s;obtain ⟨q1,e1⟩:∃ q:Nat,J1 c (nth c.views (s - c.k9.length)).left s=q:=⟨_,(Int.toNat_of_nonneg o1).symm⟩;have p1:=Mu c (nth c.views (s - c.k9.length)).left s hs.sm.qy (by omega);have p2:=Mu c (nth c.views (s - c.k9.length)).right s hs.sm.qy (by omega);rw [e1] at p1;have l1:=hlen q1 (by omega);have t1:=ih q1 (by omega);refine Pf.run [cat c,.d (num s),.any,.any,.any,.any] rfl rfl rfl rfl ?_
   repeat' (first|refine ixI (e:=(s:Int) - (c.k9.length:Int)) (s - c.k9.length) (h2:= ?_)|refine gx ?_|fail)
   repeat' (first|refine cl (p1) ?_|refine cl (t1) ?_|refine gx ?_|fail)
   refine tb (!M0 (nth c.views (s - c.k9.length)).right []) (fun h2=> ?_) (fun h2=> ?_)
   .simp only [n5] at h2
    obtain ⟨q2,e2⟩:∃ q:Nat,J1 c (nth c.views (s - c.k9.length)).right s=q:=⟨_,(Int.toNat_of_nonneg (o2 h2)).symm⟩;rw [e2] at p2;have l2:=hlen q2 (by omega);have t2:=ih q2 (by omega)
    repeat' (first|refine cl (p2) ?_|refine cl (t2) ?_|refine gx ?_|fail)
    refine ⟨_,rfl,?_⟩;simp only [ins,Aa,e1,e2,Int.toNat_natCast,h2,j3,if_false];rw [V2 c (by omega),V2 c (by omega)];rfl
   .simp only [C7] at h2
    refine gr ?_;refine ⟨_,rfl,?_⟩;simp only [ins,Aa,e1,Int.toNat_natCast,h2,if_true];rw [V2 c (by omega)];simp [j7,ints,z8]
  refine ⟨?_,hin⟩;refine Pf.run [cat c,.d (num s),.any,.any,.any,.any,.any,.any,.any,.any,.any,.any] rfl rfl rfl rfl ?_;refine gr ?_;refine tb (F0 s c.k9.length) (fun h2=> ?_) (fun h2=> ?_)
  .have h3:=A9 h2
   have hcl:=hs.sm.p8 s (by omega);refine gr ?_;refine Ex.M5 (fun k T H=>∃ (i:Nat) (acc:List Int) (w0 w3 w6 w7 w8 w9 mR kW:c8),T=[w0,.d (num s),.ptr 0 0,w3,C4 1 (fun n=>[num n]) acc,.d (num i),w6,w7,w8,w9,mR,kW]/\H=[.cells (c.enc.map .d)]/\i+k=(nth c.k9 s).p8.length/\acc=((nth c.k9 s).p8.take i).map aG.type) (by rintro _ _ _ ⟨_,_,_,_,_,_,_,_,_,_,_,rfl,_⟩;rfl) ?_ (k:=(nth c.k9 s).p8.length) ⟨0,[],_,_,_,_,_,_,_,_,rfl,rfl,by simp,by simp⟩;rintro k _ _ ⟨i,acc,w0,w3,w6,w7,w8,w9,mR,kW,rfl,rfl,hk,hacc⟩;have hl:acc.length=i:=by rw [hacc];simp;omega
   refine Ex.nT ?_
   repeat' (first|refine gx ?_|refine Ex.O6 ?_|refine Ex.P0 ?_|refine Ex.cond rfl (fun ht=> ?_) (fun ht=> ?_)|refine Ex.test (Rn.text ?_)|refine Ex.test (Rn.draw ?_)|refine ⟨_,rfl,fun ht=> ?_,fun ht=> ?_⟩|refine ⟨_,rfl,?_⟩|fail)
   .have h4:=A9 ht
    refine ⟨k - 1,by omega,i+1,acc++[(nth (nth c.k9 s).p8 i).type],_,_,_,_,_,_,_,_,rfl,rfl,by omega,?_⟩;rw [J3 (by omega),hacc];simp
   .have h4:=B8 ht
    rw [B5 (by omega)] at hacc;simp only [P4,gq];rw [if_pos (by omega),<- hacc];rfl
  have h3:=B8 h2;have hv:s - c.k9.length<c.views.length:=by omega
  obtain ⟨o1,o2⟩:=ho s (by omega) (by omega);have b1:=M7 c (nth c.views (s - c.k9.length)).left s;have b2:=M7 c (nth c.views (s - c.k9.length)).right s;obtain ⟨q1,e1⟩:∃ q:Nat,J1 c (nth c.views (s - c.k9.length)).left s=q:=⟨_,(Int.toNat_of_nonneg o1).symm⟩;have p1:=Mu c (nth c.views (s - c.k9.length)).left s hs.sm.qy (by omega);rw [e1] at p1;have l1:=hlen q1 (by omega);have t1:=ih q1 (by omega);have wJ:(ins c s).length<=4000:=by
   simp only [ins,Aa,e1,Int.toNat_natCast];rw [V2 c (by omega)];cases h5:M0 (nth c.views (s - c.k9.length)).right [] with
   |true=>simp;omega
   |false =>
    have h6:=o2 h5;have h7:=hlen (J1 c (nth c.views (s - c.k9.length)).right s).toNat (by omega);rw [V2 c (by omega)];simp;omega
  have hi1:=hs.items _ hv;have hi2:=hs.D4 _ hv
  repeat' (first|refine ixI (e:=(s:Int) - (c.k9.length:Int)) (s - c.k9.length) (h2:= ?_)|refine gx ?_|fail)
  refine tb (s8 (nth c.views (s - c.k9.length)).kind 2) (fun h4=> ?_) (fun h4=> ?_)
  .repeat' (first|refine cl (p1) ?_|refine cl (t1) ?_|refine gx ?_|fail)
   refine ⟨_,rfl,?_⟩;have hct:P4 c s=nth (mH c s) q1:=by
    unfold P4 gq;rw [if_neg (by omega),h4,if_pos rfl,e1];rfl
   rw [hct,V2 c (by omega)];rfl
  repeat' (first|refine cl (hin (by omega)) ?_|refine gx ?_|fail)
  refine Ex.M5 (fun k T H=>∃ (i:Nat) (acc:List Int) (w0 w1 w2 w3 w5 w9 mR kW:c8),T=[w0,w1,w2,w3,C4 1 (fun n=>[num n]) acc,w5,.ptr 1 0,.d (ints (ins c s)),.d (num i),w9,mR,kW]/\H=[.cells (c.enc.map .d),.cells ((nth c.views (s - c.k9.length)).enc.map .d)]/\i+k=(nth c.views (s - c.k9.length)).items.length/\acc=((nth c.views (s - c.k9.length)).items.take i).map fun x=>(G7 x.expr (ins c s)).1) (by rintro _ _ _ ⟨_,_,_,_,_,_,_,_,_,_,_,rfl,_⟩;rfl) ?_ (k:=(nth c.views (s - c.k9.length)).items.length) ⟨0,[],_,_,_,_,_,_,_,_,rfl,rfl,by simp,by simp⟩;rintro k _ _ ⟨i,acc,w0,w1,w2,w3,w5,w9,mR,kW,rfl,rfl,hk,hacc⟩;have hl:acc.length=i:=by rw [hacc];simp;omega
  refine Ex.nT ?_;refine Ex.seq ?_;refine tb (F0 i (nth c.views (s - c.k9.length)).items.length) (fun h5=> ?_) (fun h5=> ?_)
  .have h6:=A9 h5
   repeat' (first|refine cl (Oc (nth (nth c.views (s - c.k9.length)).items i).expr (ins c s) (hs.Dg (s - c.k9.length) i hv (by omega)) (by omega)) ?_|refine gx ?_|fail)
   refine ⟨k - 1,by omega,i+1,acc++[(G7 (nth (nth c.views (s - c.k9.length)).items i).expr (ins c s)).1],_,_,_,_,_,_,_,_,rfl,rfl,by omega,?_⟩;rw [J3 (by omega),hacc];simp
  have h6:=B8 h5;rw [B5 (by omega)] at hacc;clear h5 h6 hk hl;refine gr ?_;have hl0:acc.length<=1000:=by rw [hacc];simp;omega
  refine Ex.M5 (fun k T H=>∃ (i:Nat) (Qk:List Int) (w0 w1 w2 w3 w5 w8 w9 kW:c8),T=[w0,w1,w2,w3,C4 1 (fun n=>[num n]) Qk,w5,.ptr 1 0,.d (ints (ins c s)),w8,w9,.d (num i),kW]/\H=[.cells (c.enc.map .d),.cells ((nth c.views (s - c.k9.length)).enc.map .d)]/\i+k=(nth c.views (s - c.k9.length)).D4.length/\Qk=acc++((nth c.views (s - c.k9.length)).D4.take i).map (sr (ins c s))) (by rintro _ _ _ ⟨_,_,_,_,_,_,_,_,_,_,_,rfl,_⟩;rfl) ?_ (k:=(nth c.views (s - c.k9.length)).D4.length) ⟨0,acc,_,_,_,_,_,_,_,_,rfl,rfl,by simp,by simp⟩;rintro k _ _ ⟨i,Qk,w0,w1,w2,w3,w5,w8,w9,kW,rfl,rfl,hk,HM⟩;have hl:Qk.length=acc.length+i:=by rw [HM];simp;omega
  refine Ex.nT ?_;refine Ex.seq ?_;refine tb (F0 i (nth c.views (s - c.k9.length)).D4.length) (fun h5=> ?_) (fun h5=> ?_)
  .have h6:=A9 h5
   repeat' (first|refine cl (Oc (nth (nth c.views (s - c.k9.length)).D4 i).expr (ins c s) (hs.Ql (s - c.k9.length) i hv (by omega)) (by omega)) ?_|refine gx ?_|fail)
   refine tb (s8 (nth (nth c.views (s - c.k9.length)).D4 i).func 0||s8 (nth (nth c.views (s - c.k9.length)).D4 i).func 1) (fun h7=> ?_) (fun h7=> ?_)
   .refine gr ?_
    refine ⟨k - 1,by omega,i+1,Qk++[1],_,_,_,_,_,_,_,_,rfl,rfl,by omega,?_⟩;rw [J3 (by omega),HM];simp [sr,h7]
   .refine gr ?_
    refine ⟨k - 1,by omega,i+1,Qk++[(G7 (nth (nth c.views (s - c.k9.length)).D4 i).expr (ins c s)).1],_,_,_,_,_,_,_,_,rfl,rfl,by omega,?_⟩;rw [J3 (by omega),HM];simp [sr,h7]
  .have h6:=B8 h5
   rw [B5 (by omega)] at HM;refine gr ?_;refine ⟨_,rfl,?_⟩;simp only [P4,gq];rw [if_neg (by omega),h4,if_neg (by simp)];simp only [W9];rw [show Aa c (mH c s) (nth c.views (s - c.k9.length)) s=ins c s from rfl,<- hacc,<- HM];rfl
structure yP where
 agg:Bool
 name:L3
 f:Int
 expr:List Y6
instance:Inhabited yP:=⟨⟨false,[],0,[]⟩⟩
def Z3 (v:Vw):List yP:=v.items.map (fun x=>⟨false,x.name, -1,x.expr⟩)++v.D4.map (fun x=>⟨true,x.name,x.func,x.expr⟩)
def V7 (ty:List Int):List L3->List yP->Int
 |_,[]=>0
 |seen,e::r =>
  if !H6 e.name then 3
  else if seen.any fun y=>M0 y e.name then 4
  else if e.agg&&(!y7 e.f 0 4||(s8 e.f 0&&F0 0 e.expr.length)) then 1
  else if e.agg&&s8 e.f 0 then V7 ty (seen++[e.name]) r
  else if !s8 (G7 e.expr ty).2 0 then (G7 e.expr ty).2
  else if e.agg&&s8 e.f 1&& !s8 (G7 e.expr ty).1 1 then 5
  else V7 ty (seen++[e.name]) r
def ga (v:Vw):(Z3 v).length=v.items.length+v.D4.length:=by simp [Z3]
def pI (v:Vw){i:Nat}(h:i<v.items.length):nth (Z3 v) i=⟨false,(nth v.items i).name, -1,(nth v.items i).expr⟩:=by
 rw [I9 (by rw [ga];omega),I9 h];simp [Z3,List.getElem_append_left,h]
def sO (v:Vw){i:Nat}(h:v.items.length<=i)(h2:i<v.items.length+v.D4.length):nth (Z3 v) i=⟨true,(nth v.D4 (i - v.items.length)).name,(nth v.D4 (i - v.items.length)).func,(nth v.D4 (i - v.items.length)).expr⟩:=by
 rw [I9 (by rw [ga];omega),I9 (by omega)];simp [Z3,List.getElem_append_right,h]
def Qz (v:Vw){i:Nat}(h:i<v.items.length+v.D4.length):(nth (Z3 v) i).agg=ah v.items.length i:=by
 rcases y4 i v.items.length with h1|h1
 .rw [pI v h1];simp [s9];omega
 .rw [sO v h1 h];simp [s9];omega
set_option maxHeartbeats 16000000 in
def aG5 (v:Vw)(ty:List Int)(h0:v.items.length<=1000)(h1:v.D4.length<=1000)(h2:ty.length<=100000)(h3:∀ i,i<v.items.length->(nth v.items i).expr.length<=1000)(h4:∀ i,i<v.D4.length->(nth v.D4 i).expr.length<=1000) :
  Pf A 203 [vw v,.d (ints ty)] (.d (num (V7 ty [] (Z3 v)))):=by
 have hel:=ga v;refine Pf.run [vw v,.d (ints ty),.any,.any,.any,.any,.any,.any,.any,.any,.any,.any,.any] rfl rfl rfl rfl ?_;refine gr ?_;refine Ex.T7 (fun k T H=>∃ (i:Nat) (seen:List L3),T=[.any,.d (ints ty),.ptr 0 0,.any,C4 1 (fun s=>[.str s]) seen,.d (num i),.any,.any,.any,.any,.any,.any,.any]/\H=[.cells (v.enc.map .d)]/\i+k=(Z3 v).length/\seen.length=i/\V7 ty [] (Z3 v)=V7 ty seen ((Z3 v).drop i)) ?_ (k:=(Z3 v).length) ⟨0,[],rfl,rfl,by simp,rfl,by simp⟩;rintro k _ _ ⟨i,seen,rfl,rfl,hk,Xp,hi⟩;refine Ex.seq ?_;refine tB (F0 i (Z3 v).length) ?_ (fun h5=> ?_) (fun h5=> ?_)
 .repeat' (first|refine cl (hel) ?_|refine gx ?_|refine fk (h1:=fun hw=> ?_) (h2:=fun hw=> ?_)|refine R8 (h1:=fun hw=> ?_) (h2:=fun hw=> ?_)|refine ⟨rfl,rfl,_,rfl,?_⟩|refine ⟨rfl,rfl⟩|fail)
  all_goals exact cc
 .have h6:=A9 h5
  have hix:i<v.items.length+v.D4.length:=by omega
  rw [B9 (by omega)] at hi;have hfl:=Qz v hix;refine gr ?_;refine Ex.MZ (fun s=>∃ (f:Int) (H2:o9) (w9:c8),s=⟨[.any,.d (ints ty),.ptr 0 0,.any,C4 1 (fun s=>[.str s]) seen,.d (num i),.d (.str (nth (Z3 v) i).name),.d (num (nth (Z3 v) i).f),.d (z8 Y6.enc (nth (Z3 v) i).expr),w9,.any,.any,.any],.cells (v.enc.map .d)::H2⟩/\(nth (Z3 v) i).expr.length<=1000) ?_ ?_
  .skip
   refine tb (F0 i v.items.length) (fun h7=> ?_) (fun h7=> ?_)
   .have h8:=A9 h7
    have he:=h3 i (by omega);rw [pI v (by omega)];refine gr ?_;exact ⟨-1,_,_,rfl,he⟩
   .have h8:=B8 h7
    have he:=h4 (i - v.items.length) (by omega);rw [sO v (by omega) hix]
    repeat' (first|refine ixI (e:=(i:Int) - (v.items.length:Int)) (i - v.items.length) (h2:= ?_)|refine gx ?_|fail)
    exact ⟨0,_,_,rfl,he⟩
  rintro _ ⟨f,H2,w9,rfl,he⟩;generalize hen:nth (Z3 v) i=en at *
  obtain ⟨ag,nm,ef,ex⟩:=en;simp only at *
  subst hfl;have aD3:=Oc ex ty he h2;refine gr ?_;refine tB (!H6 nm) ?_ (fun g1=> ?_) (fun g1=> ?_)
  .repeat' (first|refine cl (ap3 _) ?_|refine gx ?_|refine fk (h1:=fun hw=> ?_) (h2:=fun hw=> ?_)|refine R8 (h1:=fun hw=> ?_) (h2:=fun hw=> ?_)|refine ⟨rfl,rfl,_,rfl,?_⟩|refine ⟨rfl,rfl⟩|fail)
   all_goals exact cc
  .refine gr ?_
   exact ⟨_,rfl,by rw [hi];simp only [V7,g1,j7,num,if_true]⟩
  refine gr ?_;refine Ex.M5 (fun k T H=>∃ (j:Nat) (w0 w3 w9 kW OG:c8),T=[w0,.d (ints ty),.ptr 0 0,w3,C4 1 (fun s=>[.str s]) seen,.d (num i),.d (.str nm),.d (num ef),.d (z8 Y6.enc ex),w9,.d (num j),kW,OG]/\H= .cells (v.enc.map .d)::H2/\j+k=seen.length/\(seen.any fun y=>M0 y nm)=((seen.drop j).any fun y=>M0 y nm)) (by rintro _ _ _ ⟨_,_,_,_,_,_,_,rfl,_⟩;rfl) ?_ (k:=seen.length) ⟨0,_,_,_,_,_,rfl,rfl,by simp,by simp⟩;rintro k2 _ _ ⟨j,w0,w3,w9,kW,OG,rfl,rfl,hk2,hj⟩;refine Ex.nT ?_;refine Ex.seq ?_;refine tb (F0 j seen.length) (fun g0=> ?_) (fun g0=> ?_)
  .have g00:=A9 g0
   rw [B9 (by omega)] at hj
   repeat' (first|refine gx ?_|refine Ex.O6 ?_|refine Ex.P0 ?_|refine Ex.cond rfl (fun ht=> ?_) (fun ht=> ?_)|refine Ex.test (Rn.text ?_)|refine Ex.test (Rn.draw ?_)|refine ⟨_,rfl,fun ht=> ?_,fun ht=> ?_⟩|refine ⟨_,rfl,?_⟩|fail)
   .have g2:(seen.any fun y=>M0 y nm)=true:=by rw [hj];simp [ht]
    rw [hi];simp only [V7,g1,g2,j7,num,j3,if_true,if_false]
   .exact ⟨k2 - 1,by omega,j+1,_,_,_,_,_,rfl,rfl,by omega,by rw [hj];simp [ht]⟩
  have g00:=B8 g0;rw [l5 (by omega)] at hj;have g2:(seen.any fun y=>M0 y nm)=false:=by rw [hj];rfl
  clear hj hk2 g0 g00;refine gr ?_;refine tB (ah v.items.length i&&(!y7 ef 0 4||(s8 ef 0&&F0 0 ex.length))) ?_ (fun g3=> ?_) (fun g3=> ?_)
  .repeat' (first|refine cl (IW _ _ _) ?_|refine gx ?_|refine fk (h1:=fun hw=> ?_) (h2:=fun hw=> ?_)|refine R8 (h1:=fun hw=> ?_) (h2:=fun hw=> ?_)|refine ⟨rfl,rfl,_,rfl,?_⟩|refine ⟨rfl,rfl⟩|fail)
   all_goals exact cc
  .refine gr ?_
   exact ⟨_,rfl,by rw [hi];simp only [V7,g1,g2,g3,j7,num,j3,if_true,if_false]⟩
  refine gr ?_;refine tb (ah v.items.length i&&s8 ef 0) (fun g4=> ?_) (fun g4=> ?_)
  .refine gr ?_
   exact ⟨k - 1,by omega,_,_,rfl,i+1,seen++[nm],rfl,rfl,by omega,by simp [Xp],by rw [hi];simp only [V7,g1,g2,g3,g4,j3,if_true,if_false]⟩
  repeat' (first|refine cl (aD3) ?_|refine gx ?_|fail)
  refine tb (!s8 (G7 ex ty).2 0) (fun g5=> ?_) (fun g5=> ?_)
  .refine gr ?_
   exact ⟨_,rfl,by rw [hi];simp only [V7,g1,g2,g3,g4,g5,j7,j3,if_true,if_false]⟩
  refine gr ?_;refine tb (ah v.items.length i&&s8 ef 1&& !s8 (G7 ex ty).1 1) (fun g6=> ?_) (fun g6=> ?_)
  .refine gr ?_
   exact ⟨_,rfl,by rw [hi];simp only [V7,g1,g2,g3,g4,g5,g6,j7,num,j3,if_true,if_false]⟩
  .refine gr ?_
   exact ⟨k - 1,by omega,_,_,rfl,i+1,seen++[nm],rfl,rfl,by omega,by simp [Xp],by rw [hi];simp only [V7,g1,g2,g3,g4,g5,g6,j3,if_true,if_false]⟩
 .have h6:=B8 h5
  rw [l5 (by omega)] at hi;refine gr ?_;exact ⟨_,rfl,by rw [hi];rfl⟩
def X0 (c:y5)(k:Nat):Vw:=nth c.views (k - c.k9.length)
def lT (c:y5)(k:Nat):List Int:=nth (mH c k) (J1 c (X0 c k).left k).toNat
def rT (c:y5)(k:Nat):List Int:=if M0 (X0 c k).right [] then [] else nth (mH c k) (J1 c (X0 c k).right k).toNat
def V9 (c:y5)(k:Nat):Int :=
 if !y7 (X0 c k).kind 0 2 then 1
 else if F0 (J1 c (X0 c k).left k) 0||(!M0 (X0 c k).right []&&F0 (J1 c (X0 c k).right k) 0) then 7
 else if !bH (X0 c k) then 1
 else if s8 (X0 c k).kind 2 then (if !dH s8 (lT c k) (rT c k) then 5 else 0)
 else if !s8 (I4 (lT c k) (rT c k) (X0 c k).on) 0 then I4 (lT c k) (rT c k) (X0 c k).on
 else if F0 0 (X0 c k).wh.length&& !s8 (G7 (X0 c k).wh (ins c k)).2 0 then (G7 (X0 c k).wh (ins c k)).2
 else if F0 0 (X0 c k).wh.length&& !s8 (G7 (X0 c k).wh (ins c k)).1 1 then 5
 else V7 (ins c k) [] (Z3 (X0 c k))
set_option maxHeartbeats 16000000 in
def bm3 (c:y5)(hs:O4 c)(k:Nat)(hk:c.k9.length<=k)(hk2:k<y5.ns c)(ho:DK c k):Pf A 145 [cat c,.d (num k)] (.d (num (V9 c k))):=by
 have eV:y5.ns c<=2000:=by obtain ⟨f0,f1,_⟩:=hs.sm.qy;unfold y5.ns;omega
 have bg0:y5.ns c=c.k9.length+c.views.length:=rfl;have hv:k - c.k9.length<c.views.length:=by omega
 have Xr:(X0 c k).items.length<=1000:=hs.items _ hv;have hv2:(X0 c k).D4.length<=1000:=hs.D4 _ hv;have hv3:(X0 c k).on.length<=1000:=hs.on _ hv;have hv4:(X0 c k).wh.length<=1000:=hs.wh _ hv;have wN:nth c.views (k - c.k9.length)=X0 c k:=rfl;have p1:=Mu c (X0 c k).left k hs.sm.qy (by omega);have p2:=Mu c (X0 c k).right k hs.sm.qy (by omega);have p3:=bm9 c (X0 c k) Xr hv2;have b1:=M7 c (X0 c k).left k;have b2:=M7 c (X0 c k).right k;refine Pf.run [cat c,.d (num k),.any,.any,.any,.any,.any,.any,.any,.any,.any,.any,.any] rfl rfl rfl rfl ?_
 repeat' (first|refine ixI (e:=(k:Int) - (c.k9.length:Int)) (k - c.k9.length) (h2:= ?_)|refine gx ?_|fail)
 rw [wN];refine tB (!y7 (X0 c k).kind 0 2) ?_ (fun h1=> ?_) (fun h1=> ?_)
 .repeat' (first|refine cl (IW _ _ _) ?_|refine gx ?_|refine fk (h1:=fun hw=> ?_) (h2:=fun hw=> ?_)|refine R8 (h1:=fun hw=> ?_) (h2:=fun hw=> ?_)|refine ⟨rfl,rfl,_,rfl,?_⟩|refine ⟨rfl,rfl⟩|fail)
  all_goals exact cc
 .refine gr ?_
  exact ⟨_,rfl,by unfold V9;rw [h1];rfl⟩
 repeat' (first|refine cl (p1) ?_|refine cl (p2) ?_|refine gx ?_|fail)
 refine tb (F0 (J1 c (X0 c k).left k) 0||(!M0 (X0 c k).right []&&F0 (J1 c (X0 c k).right k) 0)) (fun h2=> ?_) (fun h2=> ?_)
 .refine gr ?_
  exact ⟨_,rfl,by unfold V9;rw [h1,h2];rfl⟩
 have Yd :=h2;simp only [F3] at Yd;have f1:=B8 Yd.1;have f2:M0 (X0 c k).right []=false->0<=J1 c (X0 c k).right k:=fun h=>by
  have:=Yd.2;simp only [h,Bool.not_false,Bool.true_and] at this;exact B8 this
 have ho2:DK c (k+1):=fun m h h' =>by
  rcases y4 m k with h3|h3
  .exact ho m h h3
  .obtain rfl:m=k:=by omega
   exact ⟨f1,f2⟩
 obtain ⟨q1,e1⟩:∃ q:Nat,J1 c (X0 c k).left k=q:=⟨_,(Int.toNat_of_nonneg f1).symm⟩;have t1:=(kS c hs (k+1) q1 (by omega) (by omega) ho2).1;have ti:=(kS c hs (k+1) k (by omega) (by omega) ho2).2 hk;have l1:=iG hs (k+1) q1 (by omega) (by omega) ho2;have eL:lT c k=P4 c q1:=by unfold lT;rw [e1,Int.toNat_natCast,V2 c (by omega)]
 refine tB (!bH (X0 c k)) ?_ (fun h3=> ?_) (fun h3=> ?_)
 .repeat' (first|refine cl (p3) ?_|refine gx ?_|refine fk (h1:=fun hw=> ?_) (h2:=fun hw=> ?_)|refine R8 (h1:=fun hw=> ?_) (h2:=fun hw=> ?_)|refine ⟨rfl,rfl,_,rfl,?_⟩|refine ⟨rfl,rfl⟩|fail)
  all_goals exact cc
 .refine gr ?_
  exact ⟨_,rfl,by unfold V9;rw [h1,h2,h3];rfl⟩
 rw [e1]
 repeat' (first|refine cl (t1) ?_|refine gx ?_|fail)
 refine Ex.MZ (fun s=>∃ (w6 w8:c8),s=⟨[cat c,.d (num k),.ptr 0 0,.d (num 0),.ptr 1 0,.d (num q1),w6,.d (ints (P4 c q1)),w8,.any,.any,.any,.any],[.cells (c.enc.map .d),.cells ((X0 c k).enc.map .d)]⟩/\w8.J2= .d (ints (rT c k))/\(rT c k).length<=2000) ?_ ?_
 .skip
  refine tb (!M0 (X0 c k).right []) (fun h4=> ?_) (fun h4=> ?_)
  .simp only [n5] at h4
   obtain ⟨q2,e2⟩:∃ q:Nat,J1 c (X0 c k).right k=q:=⟨_,(Int.toNat_of_nonneg (f2 h4)).symm⟩;have t2:=(kS c hs (k+1) q2 (by omega) (by omega) ho2).1;have l2:=iG hs (k+1) q2 (by omega) (by omega) ho2;have eR:rT c k=P4 c q2:=by unfold rT;rw [h4,e2,if_neg (by simp),Int.toNat_natCast,V2 c (by omega)]
   rw [e2]
   repeat' (first|refine cl (t2) ?_|refine gx ?_|fail)
   exact ⟨_,_,rfl,by rw [eR];rfl,by rw [eR];exact l2⟩
  .simp only [C7] at h4
   have eR:rT c k=[]:=by unfold rT;rw [h4,if_pos rfl]
   refine gr ?_;exact ⟨_,_,rfl,by rw [eR];rfl,by rw [eR];simp⟩
 rintro _ ⟨w6,w8,rfl,hw8,lR⟩;have hin:(ins c k).length<=100000:=by
  have:ins c k=lT c k++rT c k:=rfl;rw [this,eL];simp;omega
 have pS:=bn0 (P4 c q1) (rT c k) (by omega);have pP:=bn1 (X0 c k).on (P4 c q1) (rT c k) hv3 (by omega) (by omega);have pW:=Oc (X0 c k).wh (ins c k) hv4 hin;have pC:=aG5 (X0 c k) (ins c k) Xr hv2 hin (fun i h=>hs.Dg _ i hv h) (fun i h=>hs.Ql _ i hv h);have eL' :=eL.symm;rw [eL'];rw [<- eL] at pS pP;clear p1 p2 p3 t1 eL' eL;refine gr ?_;refine tb (s8 (X0 c k).kind 2) (fun h5=> ?_) (fun h5=> ?_)
 .refine gr ?_
  refine tB (!dH s8 (lT c k) (rT c k)) ?_ (fun h6=> ?_) (fun h6=> ?_)
  .repeat' (first|refine mvS hw8 ?_|refine cl (pS) ?_|refine gx ?_|refine fk (h1:=fun hw=> ?_) (h2:=fun hw=> ?_)|refine R8 (h1:=fun hw=> ?_) (h2:=fun hw=> ?_)|refine ⟨rfl,rfl,_,rfl,?_⟩|refine ⟨rfl,rfl⟩|fail)
   all_goals exact cc
  .refine gr ?_
   exact ⟨_,rfl,by unfold V9;rw [h1,h2,h3,h5,h6];rfl⟩
  .refine gr ?_
   exact ⟨_,rfl,by unfold V9;rw [h1,h2,h3,h5,h6];rfl⟩
 repeat' (first|refine mvS hw8 ?_|refine cl (pP) ?_|refine gx ?_|fail)
 refine tb (!s8 (I4 (lT c k) (rT c k) (X0 c k).on) 0) (fun h6=> ?_) (fun h6=> ?_)
 .refine gr ?_
  exact ⟨_,rfl,by unfold V9;rw [h1,h2,h3,h5,h6];rfl⟩
 repeat' (first|refine cl (ti) ?_|refine gx ?_|fail)
 refine tb (F0 0 (X0 c k).wh.length) (fun h7=> ?_) (fun h7=> ?_)
 .repeat' (first|refine cl (pW) ?_|refine gx ?_|fail)
  refine tb (!s8 (G7 (X0 c k).wh (ins c k)).2 0) (fun h8=> ?_) (fun h8=> ?_)
  .refine gr ?_
   exact ⟨_,rfl,by unfold V9;rw [h1,h2,h3,h5,h6,h7,h8];rfl⟩
  refine gr ?_;refine tb (!s8 (G7 (X0 c k).wh (ins c k)).1 1) (fun h9=> ?_) (fun h9=> ?_)
  .refine gr ?_
   exact ⟨_,rfl,by unfold V9;rw [h1,h2,h3,h5,h6,h7,h8,h9];rfl⟩
  repeat' (first|refine cl (pC) ?_|refine gx ?_|fail)
  exact ⟨_,rfl,by unfold V9;rw [h1,h2,h3,h5,h6,h7,h8,h9];rfl⟩
 .repeat' (first|refine cl (pC) ?_|refine gx ?_|fail)
  exact ⟨_,rfl,by unfold V9;rw [h1,h2,h3,h5,h6,h7];rfl⟩
def aK8 (_:y5)(_:Nat):Int:=0
def Ex.aM7 {A:Go.x9.Prog}{l:F2}{b:Nat}{c:q9}{st:St}{Q:F7->St->Prop}(P:St->Prop)(h1:Ex A l b c st (zV (fun _ _=>False) P))(h2:∀ s,P s->Q .normal s):Ex A l b c st Q:=by
 refine h1.mono fun x s h=> ?_
 cases x with
 |normal=>exact h2 s h
 |exit i=>exact h.elim
 |ret=>exact h.elim
def Dn (a b c d e f:Int):Bool:=F0 16 a||F0 16 b||F0 16 c||F0 16 d||F0 16 e||F0 16 f
def tooMany (c:y5):Bool:=F0 8 c.k9.length||F0 12 c.views.length||Dn c.idxs.length c.qn.length c.qh.length c.qm.length c.qo.length c.qg.length
def max2 (x y:Int):Int:=if y>x then y else x
def YA (x y:Int):F0 16 (max2 x y)=(F0 16 x||F0 16 y):=by
 grind [max2,y3,decide]
def Uh (a b c d e f:Int):F0 16 (max2 (max2 (max2 (max2 (max2 a b) c) d) e) f)=Dn a b c d e f:=by
 simp [YA,Dn]
def Q2 (c:y5)(i:Nat):Int :=
 if !H6 (nth c.names i) then 3 else if (c.names.take i).any fun y=>M0 y (nth c.names i) then 4
 else if i<c.k9.length then fH c i else if i<y5.ns c then V9 c i else aK8 c (i - y5.ns c)
def bQ (c:y5):Nat->Nat->Int×Int
 |0,_=>(0,0)
 |k+1,i=>if !s8 (Q2 c i) 0 then (i,Q2 c i) else bQ c k (i+1)
def O5 (c:y5):Int×Int:=if tooMany c then (0,8) else bQ c c.names.length 0
def zJ {c:y5}{m:Nat}(h:Q2 c m=0):(!H6 (nth c.names m))=false/\((c.names.take m).any fun y=>M0 y (nth c.names m))=false:=by
 grind [Q2,H6,nth,M0]
def ia {c:y5}{m:Nat}(h:Q2 c m=0)(hm:m<c.k9.length):fH c m=0:=by
 grind [Q2]
def iJ {c:y5}{m:Nat}(h:Q2 c m=0)(hm:c.k9.length<=m)(hm2:m<y5.ns c):V9 c m=0:=by
 grind [Q2]
def gu {c:y5}{m:Nat}(h:fH c m=0):0<(nth c.k9 m).p8.length/\(nth c.k9 m).p8.length<=8:=by
 grind [fH,y7,s9]
def oO {c:y5}{m:Nat}(h:V9 c m=0):y7 (X0 c m).kind 0 2=true/\0<=J1 c (X0 c m).left m/\(M0 (X0 c m).right []=false->0<=J1 c (X0 c m).right m)/\bH (X0 c m)=true:=by
 unfold V9 at h;split at h
 .omega
 .split at h
  .omega
  .split at h
   all_goals simp_all [Bool.not_eq_true,F3,B8]
def kO (c:y5)(i:Nat):Prop:=∀ m,m<i->Q2 c m=0
def tq {c:y5}{i:Nat}(h:kO c i)(hi:i<=y5.ns c):DK c i:=fun k h1 h2=>by
 have:=oO (iJ (h k h2) h1 (by omega));exact ⟨this.2.1,this.2.2.1⟩
def Mq (c:y5):c.names.length=y5.ns c+(c.idxs.length+c.qn.length+c.qh.length+c.qm.length+c.qo.length+c.qg.length):=by simp [y5.names,y5.ns];omega
set_option maxHeartbeats 16000000 in
def bl9 (c:y5)(hs:O4 c):Pf A 95 [cat c] (pair (O5 c)):=by
 have hnl:=Mq c;have eV:y5.ns c=c.k9.length+c.views.length:=rfl;obtain ⟨f0,f1,f2,f3,f4,f5,f6,f7⟩:=id hs.sm.qy;have hmm:=Uh c.idxs.length c.qn.length c.qh.length c.qm.length c.qo.length c.qg.length;refine Pf.run [cat c,.any,.any,.any,.any,.any,.any,.any] rfl rfl rfl rfl ?_;refine gr ?_;refine tB (tooMany c) ?_ (fun h1=> ?_) (fun h1=> ?_)
 .repeat' (first|refine mm (d:= .int .i64 (max2 (max2 (max2 (max2 (max2 c.idxs.length c.qn.length) c.qh.length) c.qm.length) c.qo.length) c.qg.length)) ?_|refine gx ?_|refine fk (h1:=fun hw=> ?_) (h2:=fun hw=> ?_)|refine R8 (h1:=fun hw=> ?_) (h2:=fun hw=> ?_)|refine ⟨rfl,rfl,_,rfl,?_⟩|refine ⟨rfl,rfl⟩|fail)
  all_goals first|(simp [*,j7,tooMany,hmm];done)|(simp_all [j7,tooMany,hmm];done)|(simp_all [j7,tooMany,hmm,y3,s9,o6,H7];done)|(simp_all [j7,tooMany,hmm,y3,s9,o6,H7]<;>omega)
 .refine gr ?_
  exact ⟨_,rfl,by unfold O5;rw [h1];rfl⟩
 repeat' (first|refine cl (aI8 c hs.sm.qy) ?_|refine gx ?_|fail)
 refine Ex.M5 (fun k T H=>∃ (i:Nat) (w0 w2 w3 w6 w7:c8),T=[w0,.ptr 0 0,w2,w3,.d (z8 encS c.names),.d (num i),w6,w7]/\H=[.cells (c.enc.map .d)]/\i+k=c.names.length/\kO c i/\O5 c=bQ c k i) (by rintro _ _ _ ⟨_,_,_,_,_,_,_,rfl,_⟩;rfl) ?_ (k:=c.names.length) ⟨0,_,_,_,_,_,rfl,rfl,by simp,fun m h=>absurd h (by omega),by unfold O5;rw [h1];rfl⟩;rintro k _ _ ⟨i,w0,w2,w3,w6,w7,rfl,rfl,hk,hok,hi⟩;refine Ex.nT ?_;refine Ex.seq ?_;refine tb (F0 i c.names.length) (fun h2=> ?_) (fun h2=> ?_)
 .have h3:=A9 h2
  obtain ⟨k,rfl⟩:∃ k',k=k' +1:=⟨k - 1,by omega⟩;rw [bQ] at hi;refine gr ?_;refine tB (!H6 (nth c.names i)) ?_ (fun h4=> ?_) (fun h4=> ?_)
  .repeat' (first|refine cl (ap3 _) ?_|refine gx ?_|refine fk (h1:=fun hw=> ?_) (h2:=fun hw=> ?_)|refine R8 (h1:=fun hw=> ?_) (h2:=fun hw=> ?_)|refine ⟨rfl,rfl,_,rfl,?_⟩|refine ⟨rfl,rfl⟩|fail)
   all_goals exact cc
  .refine gr ?_
   have e1:Q2 c i=3:=by unfold Q2;rw [h4];rfl
   exact ⟨_,rfl,by rw [hi,e1];simp [o6,pair,j7,c8.J2,num]⟩
  refine gr ?_;refine Ex.M5 (fun k T H=>∃ (j:Nat) (w0 w2 w3 w7:c8),T=[w0,.ptr 0 0,w2,w3,.d (z8 encS c.names),.d (num i),.d (num j),w7]/\H=[.cells (c.enc.map .d)]/\j+k=i/\((c.names.take i).any fun y=>M0 y (nth c.names i))=(((c.names.take i).drop j).any fun y=>M0 y (nth c.names i))) (by rintro _ _ _ ⟨_,_,_,_,_,_,rfl,_⟩;rfl) ?_ (k:=i) ⟨0,_,_,_,_,rfl,rfl,by simp,by simp⟩;rintro k2 _ _ ⟨j,w0,w2,w3,w7,rfl,rfl,hk2,hj⟩;refine Ex.nT ?_;refine Ex.seq ?_;refine tb (F0 j i) (fun h5=> ?_) (fun h5=> ?_)
  .have h6:=A9 h5
   rw [qK (by omega) (by omega)] at hj
   repeat' (first|refine gx ?_|refine Ex.O6 ?_|refine Ex.P0 ?_|refine Ex.cond rfl (fun ht=> ?_) (fun ht=> ?_)|refine Ex.test (Rn.text ?_)|refine Ex.test (Rn.draw ?_)|refine ⟨_,rfl,fun ht=> ?_,fun ht=> ?_⟩|refine ⟨_,rfl,?_⟩|fail)
   .have g2:((c.names.take i).any fun y=>M0 y (nth c.names i))=true:=by rw [hj];simp [ht]
    have e1:Q2 c i=4:=by unfold Q2;rw [h4,g2];rfl
    rw [hi,e1];simp [o6,pair,j7,c8.J2,num]
   .exact ⟨k2 - 1,by omega,j+1,_,_,_,_,rfl,rfl,by omega,by rw [hj];simp [ht]⟩
  have h6:=B8 h5;rw [l5 (by simp;omega)] at hj;have g2:((c.names.take i).any fun y=>M0 y (nth c.names i))=false:=by rw [hj];rfl
  clear hj hk2 h5 h6;refine gr ?_;refine Ex.aM7 (fun s=>∃ (w0 w2 w3 w6:c8),s=⟨[w0,.ptr 0 0,w2,w3,.d (z8 encS c.names),.d (num i),w6,.d (num (Q2 c i))],[.cells (c.enc.map .d)]⟩) ?_ ?_
  .skip
   refine tb (F0 i c.k9.length) (fun h5=> ?_) (fun h5=> ?_)
   .have h6:=A9 h5
    have p1:=bm2 c i hs.sm (by omega) (fun m hm=>(gu (ia (hok m hm) (by omega))).1);have e1:Q2 c i=fH c i:=by unfold Q2;rw [h4,g2,if_neg (by simp),if_neg (by simp),if_pos (by omega)]
    rw [e1]
    repeat' (first|refine cl (p1) ?_|refine gx ?_|fail)
    exact ⟨_,_,_,_,rfl⟩
   have h6:=B8 h5;refine tB (F0 i (y5.ns c)) ?_ (fun h7=> ?_) (fun h7=> ?_)
   .repeat' (first|refine cl (eV) ?_|refine gx ?_|refine fk (h1:=fun hw=> ?_) (h2:=fun hw=> ?_)|refine R8 (h1:=fun hw=> ?_) (h2:=fun hw=> ?_)|refine ⟨rfl,rfl,_,rfl,?_⟩|refine ⟨rfl,rfl⟩|fail)
    all_goals exact cc
   .have h8:=A9 h7
    have p1:=bm3 c hs i (by omega) (by omega) (tq hok (by omega));have e1:Q2 c i=V9 c i:=by unfold Q2;rw [h4,g2,if_neg (by simp),if_neg (by simp),if_neg (by omega),if_pos (by omega)]
    rw [e1]
    repeat' (first|refine cl (p1) ?_|refine gx ?_|fail)
    exact ⟨_,_,_,_,rfl⟩
   .have h8:=B8 h7
    omega
  rintro _ ⟨w0,w2,w3,w6,rfl⟩;refine gr ?_;refine tb (!s8 (Q2 c i) 0) (fun h5=> ?_) (fun h5=> ?_)
  .refine gr ?_
   exact ⟨_,rfl,by rw [hi,h5];rfl⟩
  .refine gr ?_
   refine ⟨k,by omega,i+1,_,_,_,_,_,rfl,rfl,by omega,fun m hm=> ?_,by rw [hi,h5];rfl⟩
   rcases y4 m i with h6|h6
   .exact hok m h6
   .obtain rfl:m=i:=by omega
    exact aQ (by simpa using h5)
 .have h3:=B8 h2
  obtain rfl:k=0:=by omega
  refine gr ?_;exact ⟨_,rfl,by rw [hi];rfl⟩
end Go.Proofs.YtibjocmpkoepoaaGreat


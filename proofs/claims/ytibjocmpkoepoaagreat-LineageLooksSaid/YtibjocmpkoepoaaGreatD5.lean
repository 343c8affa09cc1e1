import Derived.Test.YtibjocmpkoepoaaGreatD0
set_option linter.all false
open Bool renaming false_eq_true→j4,not_eq_false'→E4,not_eq_true'→p6,or_eq_false_iff→J3,true→W,false→F
open Int renaming toNat_natCast→J9
open List renaming drop_of_length_le→n9,take_of_length_le→z7,length→O
open Nat renaming le_refl→l6,lt_or_ge→A5
open Option renaming some→J,none→K
namespace Go.Proofs.YtibjocmpkoepoaaGreat
open Go.A1 Go.A1.S
attribute [local irreducible] Rx Ry Rn Ex Pf
structure G4 (c:s5):Prop where
 sm:s5.small c
 items:∀k,k<O c.views->O (Y c.views k).items<=1000
 F4:∀k,k<O c.views->O (Y c.views k).F4<=1000
 on:∀k,k<O c.views->O (Y c.views k).on<=1000
 wh:∀k,k<O c.views->O (Y c.views k).wh<=1000
 Mt:∀k i,k<O c.views->i<O (Y c.views k).items->O (Y (Y c.views k).items i).expr<=1000
 Ym:∀k i,k<O c.views->i<O (Y c.views k).F4->O (Y (Y c.views k).F4 i).expr<=1000
 bk:∀k,k<O c.W7->O (Y c.W7 k).tables<=1000
def zQ (ty:List Int)(a:KW):Int:=if u7 a.func 0||u7 a.func 1 then 1 else (O6 a.expr ty).1
def bA (v:Vw)(ty:List Int):List Int:=v.items.map (λx=>(O6 x.expr ty).1)++v.F4.map (zQ ty)
def Dx (c:s5)(prev:List (List Int))(v:Vw)(k:Nat):List Int:=Y prev (I4 c v.left k).toNat++(if P8 v.right [] then [] else Y prev (I4 c v.right k).toNat)
def jt (c:s5)(prev:List (List Int))(k:Nat):List Int :=
 if k<O c.k9 then (Y c.k9 k).s6.map gu.type
 else if u7 (Y c.views (k - O c.k9)).kind 2 then Y prev (I4 c (Y c.views (k - O c.k9)).left k).toNat
 else bA (Y c.views (k - O c.k9)) (Dx c prev (Y c.views (k - O c.k9)) k)
def qc (c:s5):Nat->List (List Int)
 |0=>[]
 |k+1=>qc c k++[jt c (qc c k) k]
def P4 (c:s5)(k:Nat):List Int:=jt c (qc c k) k
def ins (c:s5)(k:Nat):List Int:=Dx c (qc c k) (Y c.views (k - O c.k9)) k
theorem Og (c:s5):∀k,O (qc c k)=k
 |0=>rfl
 |k+1=>by simp [qc,Og c k]
theorem X5 (c:s5):∀{k j:Nat},j<k->Y (qc c k) j=P4 c j
 |k+1,j,h=>by
  have hl:=Og c k
  rcases A5 j k with h1|h1
  .rw [<- X5 c h1,qc,E6 D,E6 V,List.getElem_append_left V]
  grind [qc,E6,List.getElem_append_right,P4]
def xx (c:s5)(n:Nat):Prop:=∀k,O c.k9<=k->k<n->0<=I4 c (Y c.views (k - O c.k9)).left k/\(P8 (Y c.views (k - O c.k9)).right []=F->0<=I4 c (Y c.views (k - O c.k9)).right k)
theorem M4 (c:s5)(name:M3)(n:Nat):I4 c name n= -1\/(0<=I4 c name n/\I4 c name n<n/\I4 c name n<s5.ns c):=by
 grind [I4,iF,s5.sn,aK]
theorem eD {c:s5}(hs:G4 c):∀(n k:Nat),k<n->n<=s5.ns c->xx c n->O (P4 c k)<=2000
 |0,k,h,_,_=>absurd h V
 |n+1,k,h,hn,ho=>by
  rcases A5 k n with h1|h1
  .exact eD hs n k h1 V (λk h1 h2=>ho k h1 V)
  unfold P4 jt;split
  next h2=>
   have:=hs.sm.s6 k h2;simp;omega
  .have hv:k - O c.k9<O c.views:=by grind [s5.ns]
   split
   .have h3:=(ho k V V).1
    rcases M4 c (Y c.views (k - O c.k9)).left k with h4|h4
    .omega
    .rw [X5 c V]
     exact eD hs k _ V V (λk h1 h2=>ho k h1 V)
   .have h5:=hs.items _ hv
    have h6:=hs.F4 _ hv
    grind [bA]
set_option maxHeartbeats 8000000 in
theorem kY (c:s5)(hs:G4 c):∀(n s:Nat),s<n->n<=s5.ns c->xx c n->Pf A 54 [cat c,.d (Z s)] (.d (ints (P4 c s)))/\(O c.k9<=s->Pf A 113 [cat c,.d (Z s)] (.d (ints (ins c s))))
 |0,s,h,_,_=>absurd h V
 |n+1,s,h,hn,ho=>by
  have gY:s5.ns c<=2000:=by obtain ⟨f0,f1,_⟩:=hs.sm.oW;unfold s5.ns;omega
  have aU2:s5.ns c=O c.k9+O c.views:=rfl
  rcases A5 s n with h1|h1
  .exact kY c hs n s h1 V (λk h1 h2=>ho k h1 V)
  obtain rfl:s=n:=V
  have ih:∀k,k<s->Pf A 54 [cat c,.d (Z k)] (.d (ints (P4 c k))):=λk hk=>(kY c hs s k hk V (λk h1 h2=>ho k h1 V)).1
  have hlen:∀k,k<s->O (P4 c k)<=2000:=λk hk=>eD hs s k hk V (λk h1 h2=>ho k h1 V)
  have hin:O c.k9<=s->Pf A 113 [cat c,.d (Z s)] (.d (ints (ins c s))):=λht=>by
   have hv:s - O c.k9<O c.views:=V
   obtain ⟨o1,o2⟩:=ho s ht V;have b1:=M4 c (Y c.views (s - O c.k9)).left s;have b2:=M4 c (Y c.views (s - O c.k9)).right s;obtain ⟨q1,e1⟩:∃q:Nat,I4 c (Y c.views (s - O c.k9)).left s=q:=⟨_,(Int.toNat_of_nonneg o1).symm⟩;have p1:=Kb c (Y c.views (s - O c.k9)).left s hs.sm.oW V;have p2:=Kb c (Y c.views (s - O c.k9)).right s hs.sm.oW V;rw [e1] at p1;have l1:=hlen q1 V;have t1:=ih q1 V;refine Pf.go 4 ?_
   repeat' (first|refine ixI (e:=(s:Int) - (O c.k9:Int)) (s - O c.k9) (h2:=?_)|refine gx ?_|fail)
   refine gc (And.intro p1 t1) ?_;refine tb (!P8 (Y c.views (s - O c.k9)).right []) (λh2=>?_) (λh2=>?_)
   .simp only [p6] at h2
    obtain ⟨q2,e2⟩:∃q:Nat,I4 c (Y c.views (s - O c.k9)).right s=q:=⟨_,(Int.toNat_of_nonneg (o2 h2)).symm⟩;rw [e2] at p2;have l2:=hlen q2 V;have t2:=ih q2 V;refine gc (And.intro p2 t2) ?_;refine ⟨_,rfl,?_⟩;simp only [ins,Dx,e1,e2,J9,h2,j4,if_false];rw [X5 c V,X5 c V];rfl
   .simp only [E4] at h2
    refine gr ?_;refine ⟨_,rfl,?_⟩;simp only [ins,Dx,e1,J9,h2,if_true];rw [X5 c V];simp [j3,ints,C6]
  refine ⟨?_,hin⟩;refine Pf.gr 10 ?_;refine tb (F6 s (O c.k9)) (λh2=>?_) (λh2=>?_)
  .have h3:=C4 h2
   have hcl:=hs.sm.s6 s V;refine gr ?_;refine Ex.T9 (λk T H=>∃(i:Nat) (acc:List Int),T=[.any,.d (Z s),.ptr 0 0,.any,D9 1 (λn=>[Z n]) acc,.d (Z i),.any,.any,.any,.any,.any,.any]/\H=[.cells (c.enc.map .d)]/\i+k=O (Y c.k9 s).s6/\acc=((Y c.k9 s).s6.take i).map gu.type) ?_ (k:=O (Y c.k9 s).s6) ⟨0,[],rfl,rfl,U,U⟩;rintro k _ _ ⟨i,acc,rfl,rfl,hk,hacc⟩;have hl:O acc=i:=by rw [hacc];simp;omega
   repeat' (first|refine gy ?_|refine ft (λht=>?_) λht=>?_|refine ⟨_,rfl,?_⟩|fail)
   .have h4:=C4 ht
    refine kk ⟨i+1,acc++[(Y (Y c.k9 s).s6 i).type],rfl,rfl,V,?_⟩;rw [E2 V,hacc];simp
   .have h4:=B5 ht
    rw [z7 V] at hacc;simp only [P4,jt];rw [if_pos V,<- hacc];rfl
  have h3:=B5 h2;have hv:s - O c.k9<O c.views:=V
  obtain ⟨o1,o2⟩:=ho s V V;have b1:=M4 c (Y c.views (s - O c.k9)).left s;have b2:=M4 c (Y c.views (s - O c.k9)).right s;obtain ⟨q1,e1⟩:∃q:Nat,I4 c (Y c.views (s - O c.k9)).left s=q:=⟨_,(Int.toNat_of_nonneg o1).symm⟩;have p1:=Kb c (Y c.views (s - O c.k9)).left s hs.sm.oW V;rw [e1] at p1;have l1:=hlen q1 V;have t1:=ih q1 V;have Af:O (ins c s)<=4000:=by
   simp only [ins,Dx,e1,J9];rw [X5 c V];cases h5:P8 (Y c.views (s - O c.k9)).right [] with
   |true=>simp;omega
   |false =>
    have h6:=o2 h5;have h7:=hlen (I4 c (Y c.views (s - O c.k9)).right s).toNat V;rw [X5 c V];simp;omega
  have hi1:=hs.items _ hv;have hi2:=hs.F4 _ hv
  repeat' (first|refine ixI (e:=(s:Int) - (O c.k9:Int)) (s - O c.k9) (h2:=?_)|refine gx ?_|fail)
  refine tb (u7 (Y c.views (s - O c.k9)).kind 2) (λh4=>?_) (λh4=>?_)
  .refine gc (And.intro p1 t1) ?_
   refine ⟨_,rfl,?_⟩;have hct:P4 c s=Y (qc c s) q1:=by
    unfold P4 jt;rw [if_neg V,h4,if_pos rfl,e1];rfl
   rw [hct,X5 c V];rfl
  refine gc (hin V) ?_;refine Ex.T9 (λk T H=>∃(i:Nat) (acc:List Int),T=[.any,.any,.any,.any,D9 1 (λn=>[Z n]) acc,.any,.ptr 1 0,.d (ints (ins c s)),.d (Z i),.any,.any,.any]/\H=[.cells (c.enc.map .d),.cells ((Y c.views (s - O c.k9)).enc.map .d)]/\i+k=O (Y c.views (s - O c.k9)).items/\acc=((Y c.views (s - O c.k9)).items.take i).map λx=>(O6 x.expr (ins c s)).1) ?_ (k:=O (Y c.views (s - O c.k9)).items) ⟨0,[],rfl,rfl,U,U⟩;rintro k _ _ ⟨i,acc,rfl,rfl,hk,hacc⟩;have hl:O acc=i:=by rw [hacc];simp;omega
  refine Ex.seq ?_;refine tb (F6 i (O (Y c.views (s - O c.k9)).items)) (λh5=>?_) (λh5=>?_)
  .have h6:=C4 h5
   refine gc (Tu (Y (Y c.views (s - O c.k9)).items i).expr (ins c s) (hs.Mt (s - O c.k9) i hv V) V) ?_;refine kk ⟨i+1,acc++[(O6 (Y (Y c.views (s - O c.k9)).items i).expr (ins c s)).1],rfl,rfl,V,?_⟩;rw [E2 V,hacc];simp
  have h6:=B5 h5;rw [z7 V] at hacc;clear h5 h6 hk hl;refine gr ?_;have hl0:O acc<=1000:=by rw [hacc];simp;omega
  refine Ex.T9 (λk T H=>∃(i:Nat) (We:List Int),T=[.any,.any,.any,.any,D9 1 (λn=>[Z n]) We,.any,.ptr 1 0,.d (ints (ins c s)),.any,.any,.d (Z i),.any]/\H=[.cells (c.enc.map .d),.cells ((Y c.views (s - O c.k9)).enc.map .d)]/\i+k=O (Y c.views (s - O c.k9)).F4/\We=acc++((Y c.views (s - O c.k9)).F4.take i).map (zQ (ins c s))) ?_ (k:=O (Y c.views (s - O c.k9)).F4) ⟨0,acc,rfl,rfl,U,U⟩;rintro k _ _ ⟨i,We,rfl,rfl,hk,Ma⟩;have hl:O We=O acc+i:=by rw [Ma];simp;omega
  refine Ex.seq ?_;refine tb (F6 i (O (Y c.views (s - O c.k9)).F4)) (λh5=>?_) (λh5=>?_)
  .have h6:=C4 h5
   refine gc (Tu (Y (Y c.views (s - O c.k9)).F4 i).expr (ins c s) (hs.Ym (s - O c.k9) i hv V) V) ?_;refine tb (u7 (Y (Y c.views (s - O c.k9)).F4 i).func 0||u7 (Y (Y c.views (s - O c.k9)).F4 i).func 1) (λh7=>?_) (λh7=>?_)
   .refine gr ?_
    refine kk ⟨i+1,We++[1],rfl,rfl,V,?_⟩;rw [E2 V,Ma];simp [zQ,h7]
   .refine gr ?_
    refine kk ⟨i+1,We++[(O6 (Y (Y c.views (s - O c.k9)).F4 i).expr (ins c s)).1],rfl,rfl,V,?_⟩;rw [E2 V,Ma];simp [zQ,h7]
  .have h6:=B5 h5
   rw [z7 V] at Ma;refine gr ?_;refine ⟨_,rfl,?_⟩;simp only [P4,jt];rw [if_neg V,h4,if_neg U];simp only [bA];rw [show Dx c (qc c s) (Y c.views (s - O c.k9)) s=ins c s from rfl,<- hacc,<- Ma];rfl
structure Gz where
 agg:Bool
 name:M3
 f:Int
 expr:List Y8
instance:Inhabited Gz:=⟨⟨F,[],0,[]⟩⟩
def dK (v:Vw):List Gz:=v.items.map (λx=>⟨F,x.name, -1,x.expr⟩)++v.F4.map (λx=>⟨W,x.name,x.func,x.expr⟩)
def aP (ty:List Int):List M3->List Gz->Int
 |_,[]=>0
 |seen,e::r =>
  if !M8 e.name then 3
  else if seen.any λy=>P8 y e.name then 4
  else if e.agg&&(!s7 e.f 0 4||(u7 e.f 0&&F6 0 (O e.expr))) then 1
  else if e.agg&&u7 e.f 0 then aP ty (seen++[e.name]) r
  else if !u7 (O6 e.expr ty).2 0 then (O6 e.expr ty).2
  else if e.agg&&u7 e.f 1&& !u7 (O6 e.expr ty).1 1 then 5
  else aP ty (seen++[e.name]) r
def nG (v:Vw):O (dK v)=O v.items+O v.F4:=by simp [dK]
def yG (v:Vw){i:Nat}(h:i<O v.items):Y (dK v) i=⟨F,(Y v.items i).name, -1,(Y v.items i).expr⟩:=by
 rw [E6 (by rw [nG];omega),E6 h];simp [dK,List.getElem_append_left,h]
def CZ (v:Vw){i:Nat}(h:O v.items<=i)(h2:i<O v.items+O v.F4):Y (dK v) i=⟨W,(Y v.F4 (i - O v.items)).name,(Y v.F4 (i - O v.items)).func,(Y v.F4 (i - O v.items)).expr⟩:=by
 rw [E6 (by rw [nG];omega),E6 V];simp [dK,List.getElem_append_right,h]
def Wt (v:Vw){i:Nat}(h:i<O v.items+O v.F4):(Y (dK v) i).agg=cg (O v.items) i:=by
 rcases A5 i (O v.items) with h1|h1
 .rw [yG v h1];simp [s8];omega
 .rw [CZ v h1 h];simp [s8];omega
set_option maxHeartbeats 16000000 in
def bt9 (v:Vw)(ty:List Int)(h0:O v.items<=1000)(h1:O v.F4<=1000)(h2:O ty<=100000)(h3:∀i,i<O v.items->O (Y v.items i).expr<=1000)(h4:∀i,i<O v.F4->O (Y v.F4 i).expr<=1000) :
  Pf A 203 [vw v,.d (ints ty)] (.d (Z (aP ty [] (dK v)))):=by
 have hel:=nG v;refine Pf.gr 11 ?_;refine Ex.au (λk T H=>∃(i:Nat) (seen:List M3),T=[.any,.d (ints ty),.ptr 0 0,.any,D9 1 (λs=>[.str s]) seen,.d (Z i),.any,.any,.any,.any,.any,.any,.any]/\H=[.cells (v.enc.map .d)]/\i+k=O (dK v)/\O seen=i/\aP ty [] (dK v)=aP ty seen ((dK v).drop i)) ?_ (k:=O (dK v)) ⟨0,[],rfl,rfl,U,rfl,U⟩;rintro k _ _ ⟨i,seen,rfl,rfl,hk,WJ,hi⟩;refine Ex.seq ?_;refine tc (F6 i (O (dK v))) hel (λh5=>?_) (λh5=>?_)
 .have h6:=C4 h5
  have hix:i<O v.items+O v.F4:=V
  rw [E0 V] at hi;have hfl:=Wt v hix;refine gr ?_;refine Ex.RL (λs=>∃(f:Int) (H2:q6) (w9:c8),s=⟨[.any,.d (ints ty),.ptr 0 0,.any,D9 1 (λs=>[.str s]) seen,.d (Z i),.d (.str (Y (dK v) i).name),.d (Z (Y (dK v) i).f),.d (C6 Y8.enc (Y (dK v) i).expr),w9,.any,.any,.any],.cells (v.enc.map .d)::H2⟩/\O (Y (dK v) i).expr<=1000) ?_ ?_
  .skip
   refine tl i (O v.items) (λh8=>?_) (λh8=>?_)
   .have he:=h3 i V
    rw [yG v V];refine gr ?_;exact ⟨-1,_,_,rfl,he⟩
   .have he:=h4 (i - O v.items) V
    rw [CZ v V hix]
    repeat' (first|refine ixI (e:=(i:Int) - (O v.items:Int)) (i - O v.items) (h2:=?_)|refine gx ?_|fail)
    exact ⟨0,_,_,rfl,he⟩
  rintro _ ⟨f,H2,w9,rfl,he⟩;generalize hen:Y (dK v) i=en at *
  obtain ⟨ag,nm,ef,ex⟩:=en;simp only at *
  subst hfl;have bp2:=Tu ex ty he h2;refine gr ?_;refine tc (!M8 nm) ba4 (λg1=>?_) (λg1=>?_)
  .refine gr ?_
   exact ⟨_,rfl,by rw [hi];simp only [aP,g1,j3,Z,if_true]⟩
  refine gr ?_;refine Ex.aY (λk T H=>∃(j:Nat) (w0 w3 w9 Ol Om:c8),T=[w0,.d (ints ty),.ptr 0 0,w3,D9 1 (λs=>[.str s]) seen,.d (Z i),.d (.str nm),.d (Z ef),.d (C6 Y8.enc ex),w9,.d (Z j),Ol,Om]/\H= .cells (v.enc.map .d)::H2/\j+k=O seen/\(seen.any λy=>P8 y nm)=((seen.drop j).any λy=>P8 y nm)) ?_ (k:=O seen) ⟨0,_,_,_,_,_,rfl,rfl,U,U⟩;rintro k2 _ _ ⟨j,w0,w3,w9,Ol,Om,rfl,rfl,hk2,hj⟩;refine Ex.nT ?_;refine Ex.seq ?_;refine tb (F6 j (O seen)) (λg0=>?_) (λg0=>?_)
  .have g00:=C4 g0
   rw [E0 V] at hj
   repeat' (first|refine gy ?_|refine ft (λht=>?_) λht=>?_|refine ⟨_,rfl,?_⟩|fail)
   .have g2:(seen.any λy=>P8 y nm)=W:=by rw [hj];simp [ht]
    rw [hi];simp only [aP,g1,g2,j3,Z,j4,if_true,if_false]
   .exact ⟨k2 - 1,V,j+1,_,_,_,_,_,rfl,rfl,V,by rw [hj];simp [ht]⟩
  have g00:=B5 g0;rw [n9 V] at hj;have g2:(seen.any λy=>P8 y nm)=F:=by rw [hj];rfl
  clear hj hk2 g0 g00;refine gr ?_;refine tc (cg (O v.items) i&&(!s7 ef 0 4||(u7 ef 0&&F6 0 (O ex)))) vz (λg3=>?_) (λg3=>?_)
  .refine gr ?_
   exact ⟨_,rfl,by rw [hi];simp only [aP,g1,g2,g3,j3,Z,j4,if_true,if_false]⟩
  refine gr ?_;refine tb (cg (O v.items) i&&u7 ef 0) (λg4=>?_) (λg4=>?_)
  .refine gr ?_
   exact kk ⟨_,_,rfl,i+1,seen++[nm],rfl,rfl,V,by simp [WJ],by rw [hi];simp only [aP,g1,g2,g3,g4,j4,if_true,if_false]⟩
  refine gc bp2 ?_;refine tb (!u7 (O6 ex ty).2 0) (λg5=>?_) (λg5=>?_)
  .refine gr ?_
   exact ⟨_,rfl,by rw [hi];simp only [aP,g1,g2,g3,g4,g5,j3,j4,if_true,if_false]⟩
  refine gr ?_;refine tb (cg (O v.items) i&&u7 ef 1&& !u7 (O6 ex ty).1 1) (λg6=>?_) (λg6=>?_)
  .refine gr ?_
   exact ⟨_,rfl,by rw [hi];simp only [aP,g1,g2,g3,g4,g5,g6,j3,Z,j4,if_true,if_false]⟩
  .refine gr ?_
   exact kk ⟨_,_,rfl,i+1,seen++[nm],rfl,rfl,V,by simp [WJ],by rw [hi];simp only [aP,g1,g2,g3,g4,g5,g6,j4,if_true,if_false]⟩
 .have h6:=B5 h5
  rw [n9 V] at hi;refine gr ?_;exact ⟨_,rfl,by rw [hi];rfl⟩
def Z2 (c:s5)(k:Nat):Vw:=Y c.views (k - O c.k9)
def lT (c:s5)(k:Nat):List Int:=Y (qc c k) (I4 c (Z2 c k).left k).toNat
def rT (c:s5)(k:Nat):List Int:=if P8 (Z2 c k).right [] then [] else Y (qc c k) (I4 c (Z2 c k).right k).toNat
def Y6 (c:s5)(k:Nat):Int :=
 if !s7 (Z2 c k).kind 0 2 then 1
 else if F6 (I4 c (Z2 c k).left k) 0||(!P8 (Z2 c k).right []&&F6 (I4 c (Z2 c k).right k) 0) then 7
 else if !cn (Z2 c k) then 1
 else if u7 (Z2 c k).kind 2 then (if !gL u7 (lT c k) (rT c k) then 5 else 0)
 else if !u7 (Q7 (lT c k) (rT c k) (Z2 c k).on) 0 then Q7 (lT c k) (rT c k) (Z2 c k).on
 else if F6 0 (O (Z2 c k).wh)&& !u7 (O6 (Z2 c k).wh (ins c k)).2 0 then (O6 (Z2 c k).wh (ins c k)).2
 else if F6 0 (O (Z2 c k).wh)&& !u7 (O6 (Z2 c k).wh (ins c k)).1 1 then 5
 else aP (ins c k) [] (dK (Z2 c k))
set_option maxHeartbeats 16000000 in
def cd9 (c:s5)(hs:G4 c)(k:Nat)(hk:O c.k9<=k)(hk2:k<s5.ns c)(ho:xx c k):Pf A 145 [cat c,.d (Z k)] (.d (Z (Y6 c k))):=by
 have gY:s5.ns c<=2000:=by obtain ⟨f0,f1,_⟩:=hs.sm.oW;unfold s5.ns;omega
 have aU2:s5.ns c=O c.k9+O c.views:=rfl;have hv:k - O c.k9<O c.views:=V
 have hv1:O (Z2 c k).items<=1000:=hs.items _ hv;have hv2:O (Z2 c k).F4<=1000:=hs.F4 _ hv;have hv3:O (Z2 c k).on<=1000:=hs.on _ hv;have hv4:O (Z2 c k).wh<=1000:=hs.wh _ hv;have Ai:Y c.views (k - O c.k9)=Z2 c k:=rfl;have p1:=Kb c (Z2 c k).left k hs.sm.oW V;have p2:=Kb c (Z2 c k).right k hs.sm.oW V;have p3:=ce6 c (Z2 c k) hv1 hv2;have b1:=M4 c (Z2 c k).left k;have b2:=M4 c (Z2 c k).right k;refine Pf.go 11 ?_
 repeat' (first|refine ixI (e:=(k:Int) - (O c.k9:Int)) (k - O c.k9) (h2:=?_)|refine gx ?_|fail)
 rw [Ai];refine tc (!s7 (Z2 c k).kind 0 2) vz (λh1=>?_) (λh1=>?_)
 .refine gr ?_
  exact ⟨_,rfl,by unfold Y6;rw [h1];rfl⟩
 refine gc (And.intro p1 p2) ?_;refine tb (F6 (I4 c (Z2 c k).left k) 0||(!P8 (Z2 c k).right []&&F6 (I4 c (Z2 c k).right k) 0)) (λh2=>?_) (λh2=>?_)
 .refine gr ?_
  exact ⟨_,rfl,by unfold Y6;rw [h1,h2];rfl⟩
 have h2' :=h2;simp only [J3] at h2';have f1:=B5 h2'.1;have f2:P8 (Z2 c k).right []=F->0<=I4 c (Z2 c k).right k:=λh=>by
  have:=h2'.2;simp only [h,Bool.not_false,Bool.true_and] at this;exact B5 this
 have ho2:xx c (k+1):=λm h h' =>by
  rcases A5 m k with h3|h3
  .exact ho m h h3
  .obtain rfl:m=k:=V
   exact ⟨f1,f2⟩
 obtain ⟨q1,e1⟩:∃q:Nat,I4 c (Z2 c k).left k=q:=⟨_,(Int.toNat_of_nonneg f1).symm⟩;have t1:=(kY c hs (k+1) q1 V V ho2).1;have ti:=(kY c hs (k+1) k V V ho2).2 hk;have l1:=eD hs (k+1) q1 V V ho2;have eL:lT c k=P4 c q1:=by unfold lT;rw [e1,J9,X5 c V]
 refine tc (!cn (Z2 c k)) p3 (λh3=>?_) (λh3=>?_)
 .refine gr ?_
  exact ⟨_,rfl,by unfold Y6;rw [h1,h2,h3];rfl⟩
 rw [e1];refine gc t1 ?_;refine Ex.RL (λs=>∃(w6 w8:c8),s=⟨[cat c,.d (Z k),.ptr 0 0,.d (Z 0),.ptr 1 0,.d (Z q1),w6,.d (ints (P4 c q1)),w8,.any,.any,.any,.any],[.cells (c.enc.map .d),.cells ((Z2 c k).enc.map .d)]⟩/\w8.K7= .d (ints (rT c k))/\O (rT c k)<=2000) ?_ ?_
 .skip
  refine tb (!P8 (Z2 c k).right []) (λh4=>?_) (λh4=>?_)
  .simp only [p6] at h4
   obtain ⟨q2,e2⟩:∃q:Nat,I4 c (Z2 c k).right k=q:=⟨_,(Int.toNat_of_nonneg (f2 h4)).symm⟩;have t2:=(kY c hs (k+1) q2 V V ho2).1;have l2:=eD hs (k+1) q2 V V ho2;have eR:rT c k=P4 c q2:=by unfold rT;rw [h4,e2,if_neg U,J9,X5 c V]
   rw [e2];refine gc t2 ?_;exact ⟨_,_,rfl,by rw [eR];rfl,by rw [eR];exact l2⟩
  .simp only [E4] at h4
   have eR:rT c k=[]:=by unfold rT;rw [h4,if_pos rfl]
   refine gr ?_;exact ⟨_,_,rfl,by rw [eR];rfl,by rw [eR];simp⟩
 rintro _ ⟨w6,w8,rfl,hw8,lR⟩;have hin:O (ins c k)<=100000:=by
  have:ins c k=lT c k++rT c k:=rfl;rw [this,eL];simp;omega
 have pS:=ce7 (P4 c q1) (rT c k) V;have pP:=ce8 (Z2 c k).on (P4 c q1) (rT c k) hv3 V V;have pW:=Tu (Z2 c k).wh (ins c k) hv4 hin;have pC:=bt9 (Z2 c k) (ins c k) hv1 hv2 hin (λi h=>hs.Mt _ i hv h) (λi h=>hs.Ym _ i hv h);have eL' :=eL.symm;rw [eL'];rw [<- eL] at pS pP;clear p1 p2 p3 t1 eL' eL;refine gr ?_;refine tb (u7 (Z2 c k).kind 2) (λh5=>?_) (λh5=>?_)
 .refine gr ?_
  refine tB (!gL u7 (lT c k) (rT c k)) ?_ (λh6=>?_) (λh6=>?_)
  .repeat' (first|refine mvS hw8 ?_|refine cl (pS) ?_|refine gx ?_|refine fq (λhw=>?_) λhw=>?_|refine ⟨rfl,rfl,_,rfl,?_⟩|refine ⟨rfl,rfl⟩|fail)
   all_goals exact cc
  .refine gr ?_
   exact ⟨_,rfl,by unfold Y6;rw [h1,h2,h3,h5,h6];rfl⟩
  .refine gr ?_
   exact ⟨_,rfl,by unfold Y6;rw [h1,h2,h3,h5,h6];rfl⟩
 repeat' (first|refine mvS hw8 ?_|refine cl (pP) ?_|refine gx ?_|fail)
 refine tb (!u7 (Q7 (lT c k) (rT c k) (Z2 c k).on) 0) (λh6=>?_) (λh6=>?_)
 .refine gr ?_
  exact ⟨_,rfl,by unfold Y6;rw [h1,h2,h3,h5,h6];rfl⟩
 refine gc ti ?_;refine tb (F6 0 (O (Z2 c k).wh)) (λh7=>?_) (λh7=>?_)
 .refine gc pW ?_
  refine tb (!u7 (O6 (Z2 c k).wh (ins c k)).2 0) (λh8=>?_) (λh8=>?_)
  .refine gr ?_
   exact ⟨_,rfl,by unfold Y6;rw [h1,h2,h3,h5,h6,h7,h8];rfl⟩
  refine gr ?_;refine tb (!u7 (O6 (Z2 c k).wh (ins c k)).1 1) (λh9=>?_) (λh9=>?_)
  .refine gr ?_
   exact ⟨_,rfl,by unfold Y6;rw [h1,h2,h3,h5,h6,h7,h8,h9];rfl⟩
  refine gc pC ?_;exact ⟨_,rfl,by unfold Y6;rw [h1,h2,h3,h5,h6,h7,h8,h9];rfl⟩
 .refine gc pC ?_
  exact ⟨_,rfl,by unfold Y6;rw [h1,h2,h3,h5,h6,h7];rfl⟩
def oq (c:s5)(name:M3)(col:Int):Int×Int :=
 if F6 (I4 c name (s5.ns c)) 0 then (0,7)
 else if !s7 col 0 (O (P4 c (I4 c name (s5.ns c)).toNat) - 1) then (0,3)
 else (Y (P4 c (I4 c name (s5.ns c)).toNat) col.toNat,0)
def ab0 {c:s5}(hs:G4 c):s5.ns c<=2000:=by obtain ⟨f0,f1,_⟩:=hs.sm.oW;unfold s5.ns;omega
def ad0 (c:s5)(hs:G4 c)(ho:xx c (s5.ns c))(name:M3)(col:Int):Pf A 204 [cat c,.d (.str name),.d (Z col)] (.tuple [.d (Z (oq c name col).1),.d (Z (oq c name col).2)]):=by
 have gY:=ab0 hs;have aU2:s5.ns c=O c.k9+O c.views:=rfl;have p1:=Kb c name (s5.ns c) hs.sm.oW V;have b1:=M4 c name (s5.ns c);refine Pf.go 5 ?_;refine gc p1 ?_;refine tb (F6 (I4 c name (s5.ns c)) 0) (λh1=>?_) (λh1=>?_)
 .refine gr ?_
  exact ⟨_,rfl,by simp only [oq,h1,if_true];rfl⟩
 have h2:=B5 h1;obtain ⟨q,e1⟩:∃q:Nat,I4 c name (s5.ns c)=q:=⟨_,(Int.toNat_of_nonneg h2).symm⟩;have t1:=(kY c hs (s5.ns c) q V V ho).1;have l1:=eD hs (s5.ns c) q V V ho;rw [e1] at h1 ⊢;refine gc t1 ?_;refine tc (!s7 col 0 (O (P4 c q) - 1)) vz (λh3=>?_) (λh3=>?_)
 .refine gr ?_
  exact ⟨_,rfl,by simp only [oq,e1,h1,J9,h3,j4,if_false,if_true];rfl⟩
 have h4:=h3;simp [s7,s8] at h4;refine gr ?_;exact ⟨_,rfl,by simp only [oq,e1,h1,J9,h3,j4,if_false];rfl⟩
def skt (x:oO):c8:= .agg (x.enc.map .d)
def rls (x:qI):c8:= .agg (x.enc.map .d)
def bkp (x:vJ):c8:= .agg (x.enc.map .d)
def Kr (x:oO):Bool:= !s7 x.kind 0 2|| !s7 x.width 1 1024|| !s7 x.depth 1 8||(u7 x.kind 2&& !u7 x.depth 1)||F6 1024 (x.width * x.depth)
def Gv (c:s5)(x:oO):Int:=if !u7 (oq c x.source x.col).2 0 then (oq c x.source x.col).2 else if Kr x then 1 else 0
set_option maxHeartbeats 8000000 in
def bu0 (c:s5)(hs:G4 c)(ho:xx c (s5.ns c))(x:oO):Pf A 205 [cat c,skt x] (.d (Z (Gv c x))):=by
 have p1:=ad0 c hs ho x.source x.col;refine Pf.go 4 ?_;refine gc p1 ?_;refine tb (!u7 (oq c x.source x.col).2 0) (λh1=>?_) (λh1=>?_)
 .refine gr ?_
  exact ⟨_,rfl,by simp only [Gv,h1,if_true];rfl⟩
 refine gr ?_;cases hW:s7 x.width 1 1024 with
 |false =>
  refine tB (W) ?_ (λh2=>?_) (λh2=>?_)
  .repeat' (first|refine cl (vz _ _ _) ?_|refine gx ?_|refine fq (λhw=>?_) λhw=>?_|refine ⟨rfl,rfl,_,rfl,?_⟩|refine ⟨rfl,rfl⟩|fail)
   all_goals first|(simp [*,j3,hW];done)|(simp_all [j3,hW];done)|(simp_all [j3,hW,s9,s8,o8,D2];done)|(simp_all [j3,hW,s9,s8,o8,D2]<;>omega)
  .refine gr ?_
   exact ⟨_,rfl,by simp [Gv,h1,Kr,hW,j3,Z]⟩
  .cases h2
 |true =>
 cases hD:s7 x.depth 1 8 with
 |false =>
  refine tB (W) ?_ (λh2=>?_) (λh2=>?_)
  .repeat' (first|refine cl (vz _ _ _) ?_|refine gx ?_|refine fq (λhw=>?_) λhw=>?_|refine ⟨rfl,rfl,_,rfl,?_⟩|refine ⟨rfl,rfl⟩|fail)
   all_goals first|(simp [*,j3,hW,hD];done)|(simp_all [j3,hW,hD];done)|(simp_all [j3,hW,hD,s9,s8,o8,D2];done)|(simp_all [j3,hW,hD,s9,s8,o8,D2]<;>omega)
  .refine gr ?_
   exact ⟨_,rfl,by simp [Gv,h1,Kr,hD,j3,Z]⟩
  .cases h2
 |true =>
 have hm: -9223372036854775808<=x.width * x.depth/\x.width * x.depth<9223372036854775808:=by
  simp [s7,s8] at hW hD;have m1:=Int.mul_le_mul hW.2 hD.2 V V;have m2:=Int.mul_nonneg (a:=x.width) (b:=x.depth) V V;omega
 refine tB (Kr x) ?_ (λh2=>?_) (λh2=>?_)
 .repeat' (first|refine cl (vz _ _ _) ?_|refine mu (h0:=hm) ?_|refine gx ?_|refine fq (λhw=>?_) λhw=>?_|refine ⟨rfl,rfl,_,rfl,?_⟩|refine ⟨rfl,rfl⟩|fail)
  all_goals first|(simp [*,j3,Kr,hW,hD];done)|(simp_all [j3,Kr,hW,hD];done)|(simp_all [j3,Kr,hW,hD,s9,s8,o8,D2];done)|(simp_all [j3,Kr,hW,hD,s9,s8,o8,D2]<;>omega)
 .refine gr ?_
  exact ⟨_,rfl,by simp only [Gv,h1,h2,j4,if_false,if_true];rfl⟩
 .refine gr ?_
  exact ⟨_,rfl,by simp only [Gv,h1,h2,j4,if_false];rfl⟩
def Nt (c:s5)(x:qI):Int :=
 if F6 (I4 c x.source (s5.ns c)) (O c.k9) then 7
 else if !u7 (Y c.views (I4 c x.source (s5.ns c) - O c.k9).toNat).kind 1|| !u7 (Y (Y c.views (I4 c x.source (s5.ns c) - O c.k9).toNat).F4 0).func 0|| !s7 x.thr 1 1024 then 1 else 0
set_option maxHeartbeats 8000000 in
def bu1 (c:s5)(hs:G4 c)(hg:∀k,k<O c.views->(Y c.views k).kind≠1\/0<O (Y c.views k).F4)(x:qI):Pf A 206 [cat c,rls x] (.d (Z (Nt c x))):=by
 have gY:=ab0 hs;have aU2:s5.ns c=O c.k9+O c.views:=rfl;have p1:=Kb c x.source (s5.ns c) hs.sm.oW V;have b1:=M4 c x.source (s5.ns c);refine Pf.go 5 ?_;refine gc p1 ?_;refine tb (F6 (I4 c x.source (s5.ns c)) (O c.k9)) (λh1=>?_) (λh1=>?_)
 .refine gr ?_
  exact ⟨_,rfl,by simp only [Nt,h1,if_true];rfl⟩
 have h2:=B5 h1;have h3:=hg (I4 c x.source (s5.ns c) - O c.k9).toNat V;refine gr ?_;refine tc (!u7 (Y c.views (I4 c x.source (s5.ns c) - O c.k9).toNat).kind 1|| !u7 (Y (Y c.views (I4 c x.source (s5.ns c) - O c.k9).toNat).F4 0).func 0|| !s7 x.thr 1 1024) vz (λh4=>?_) (λh4=>?_)
 .refine gr ?_
  exact ⟨_,rfl,by simp only [Nt,h1,h4,j4,if_false,if_true];rfl⟩
 .refine gr ?_
  exact ⟨_,rfl,by simp only [Nt,h1,h4,j4,if_false];rfl⟩
def bkE (c:s5):List M3->List M3->Int
 |_,[]=>0
 |seen,t::r=>if F6 (gZ c t (O c.k9)) 0 then 7 else if seen.any λy=>P8 y t then 4 else bkE c (seen++[t]) r
def Lp (c:s5)(x:vJ):Int:=if u7 (O x.tables) 0|| !s7 x.keep 1 1048576 then 1 else bkE c [] x.tables
set_option maxHeartbeats 8000000 in
def bu2 (c:s5)(hf:c.oW)(x:vJ)(hx:O x.tables<=1000):Pf A 208 [cat c,bkp x] (.d (Z (Lp c x))):=by
 have hn:O c.k9<=1000:=hf.1;refine Pf.gr 5 ?_;refine tc (u7 (O x.tables) 0|| !s7 x.keep 1 1048576) vz (λh1=>?_) (λh1=>?_)
 .refine gr ?_
  exact ⟨_,rfl,by simp only [Lp,h1,if_true];rfl⟩
 refine gr ?_;refine Ex.aY (λk T H=>∃(i:Nat) (w0 w1 w4 w6:c8),T=[w0,w1,.ptr 0 0,.ptr 1 0,w4,.d (Z i),w6]/\H=[.cells (c.enc.map .d),.cells (x.enc.map .d)]/\i+k=O x.tables/\Lp c x=bkE c (x.tables.take i) (x.tables.drop i)) ?_ (k:=O x.tables) ⟨0,_,_,_,_,rfl,rfl,U,by simp [Lp,h1]⟩;rintro k _ _ ⟨i,w0,w1,w4,w6,rfl,rfl,hk,hi⟩;refine Ex.nT ?_;refine Ex.seq ?_;refine tl i (O x.tables) (λh3=>?_) (λh3=>?_)
 .rw [E0 V] at hi
  have p1:=ad1 c (Y x.tables i) (O c.k9) hf V;refine gr ?_;refine tc (F6 (gZ c (Y x.tables i) (O c.k9)) 0) p1 (λh4=>?_) (λh4=>?_)
  .refine gr ?_
   exact ⟨_,rfl,by rw [hi];simp only [bkE,h4,if_true];rfl⟩
  refine gr ?_;refine Ex.aY (λk T H=>∃(j:Nat) (w0 w1 w4:c8),T=[w0,w1,.ptr 0 0,.ptr 1 0,w4,.d (Z i),.d (Z j)]/\H=[.cells (c.enc.map .d),.cells (x.enc.map .d)]/\j+k=i/\((x.tables.take i).any λy=>P8 y (Y x.tables i))=(((x.tables.take i).drop j).any λy=>P8 y (Y x.tables i))) ?_ (k:=i) ⟨0,_,_,_,rfl,rfl,U,U⟩;rintro k2 _ _ ⟨j,w0,w1,w4,rfl,rfl,hk2,hj⟩;refine Ex.nT ?_;refine Ex.seq ?_;refine tb (F6 j i) (λh5=>?_) (λh5=>?_)
  .have h6:=C4 h5
   rw [mY V V] at hj
   repeat' (first|refine gy ?_|refine ft (λht=>?_) λht=>?_|refine ⟨_,rfl,?_⟩|fail)
   .have g2:((x.tables.take i).any λy=>P8 y (Y x.tables i))=W:=by rw [hj];simp [ht]
    rw [hi];simp only [bkE,h4,g2,j3,Z,j4,if_true,if_false]
   .exact ⟨k2 - 1,V,j+1,_,_,_,rfl,rfl,V,by rw [hj];simp [ht]⟩
  have h6:=B5 h5;rw [n9 D] at hj;have g2:((x.tables.take i).any λy=>P8 y (Y x.tables i))=F:=by rw [hj];rfl
  refine gr ?_;refine kk ⟨i+1,_,_,_,_,rfl,rfl,V,?_⟩;rw [hi,E2 V];simp only [bkE,h4,g2,j4,if_false]
 .rw [n9 V] at hi
  refine gr ?_;exact ⟨_,rfl,by rw [hi];rfl⟩
def WM (c:s5)(x:qh):Int:=if u7 (oq c x.source x.col).2 0&& !u7 (oq c x.source x.col).1 2 then 5 else (oq c x.source x.col).2
def Wi (c:s5)(x:sV):Int:=if u7 (oq c x.source x.col).2 0&& !s7 x.ttl 1 1048576 then 1 else (oq c x.source x.col).2
def XG (c:s5)(x:vL):Int:=if F6 (gZ c x.table (O c.k9)) 0 then 7 else 0
def Y3 (c:s5)(n:Nat):Int :=
 if n<O c.idxs then WM c (Y c.idxs n)
 else if n - O c.idxs<O c.O1 then Gv c (Y c.O1 (n - O c.idxs))
 else if n - O c.idxs - O c.O1<O c.P3 then Wi c (Y c.P3 (n - O c.idxs - O c.O1))
 else if n - O c.idxs - O c.O1 - O c.P3<O c.T0 then Nt c (Y c.T0 (n - O c.idxs - O c.O1 - O c.P3))
 else if n - O c.idxs - O c.O1 - O c.P3 - O c.T0<O c.U0 then XG c (Y c.U0 (n - O c.idxs - O c.O1 - O c.P3 - O c.T0))
 else Lp c (Y c.W7 (n - O c.idxs - O c.O1 - O c.P3 - O c.T0 - O c.U0))
set_option maxHeartbeats 16000000 in
def ce0 (c:s5)(hs:G4 c)(ho:xx c (s5.ns c))(hg:∀k,k<O c.views->(Y c.views k).kind≠1\/0<O (Y c.views k).F4)(n:Nat)(hn:n<O c.idxs+O c.O1+O c.P3+O c.T0+O c.U0+O c.W7) :
  Pf A 146 [cat c,.d (Z n)] (.d (Z (Y3 c n))):=by
 obtain ⟨f0,f1,f2,f3,f4,f5,f6,f7⟩:=hs.sm.oW;refine Pf.gr 5 ?_;refine tb (F6 n (O c.idxs)) (λh1=>?_) (λh1=>?_)
 .have h1' :=C4 h1
  have p1:=ad0 c hs ho (Y c.idxs n).source (Y c.idxs n).col;have e1:Y3 c n=WM c (Y c.idxs n):=by unfold Y3;rw [if_pos V]
  refine gc p1 ?_;refine tb (u7 (oq c (Y c.idxs n).source (Y c.idxs n).col).2 0&& !u7 (oq c (Y c.idxs n).source (Y c.idxs n).col).1 2) (λh2=>?_) (λh2=>?_)
  .refine gr ?_
   exact ⟨_,rfl,by rw [e1];unfold WM;rw [h2];rfl⟩
  .refine gr ?_
   exact ⟨_,rfl,by rw [e1];unfold WM;rw [h2];rfl⟩
 have h1' :=B5 h1;refine gr ?_;generalize SM:n - O c.idxs=m1;have g1:(n:Int) - (O c.idxs:Int)=(m1:Int):=V
 rw [g1];refine tb (F6 m1 (O c.O1)) (λh3=>?_) (λh3=>?_)
 .have h3' :=C4 h3
  have p1:=bu0 c hs ho (Y c.O1 m1);have e1:Y3 c n=Gv c (Y c.O1 m1):=by unfold Y3;rw [if_neg V,SM,if_pos V]
  refine gc p1 ?_;exact ⟨_,rfl,by rw [e1];rfl⟩
 have h3' :=B5 h3;refine gr ?_;generalize hm2:m1 - O c.O1=m2;have g2:(m1:Int) - (O c.O1:Int)=(m2:Int):=V
 rw [g2];refine tb (F6 m2 (O c.P3)) (λh4=>?_) (λh4=>?_)
 .have h4' :=C4 h4
  have p1:=ad0 c hs ho (Y c.P3 m2).source (Y c.P3 m2).col;have e1:Y3 c n=Wi c (Y c.P3 m2):=by unfold Y3;rw [if_neg V,SM,if_neg V,hm2,if_pos V]
  refine gc p1 ?_;refine tc (u7 (oq c (Y c.P3 m2).source (Y c.P3 m2).col).2 0&& !s7 (Y c.P3 m2).ttl 1 1048576) vz (λh2=>?_) (λh2=>?_)
  .refine gr ?_
   exact ⟨_,rfl,by rw [e1];unfold Wi;rw [h2];rfl⟩
  .refine gr ?_
   exact ⟨_,rfl,by rw [e1];unfold Wi;rw [h2];rfl⟩
 have h4' :=B5 h4;refine gr ?_;generalize hm3:m2 - O c.P3=m3;have g3:(m2:Int) - (O c.P3:Int)=(m3:Int):=V
 rw [g3];refine tb (F6 m3 (O c.T0)) (λh5=>?_) (λh5=>?_)
 .have h5' :=C4 h5
  have p1:=bu1 c hs hg (Y c.T0 m3);have e1:Y3 c n=Nt c (Y c.T0 m3):=by unfold Y3;rw [if_neg V,SM,if_neg V,hm2,if_neg V,hm3,if_pos V]
  refine gc p1 ?_;exact ⟨_,rfl,by rw [e1];rfl⟩
 have h5' :=B5 h5;refine gr ?_;generalize hm4:m3 - O c.T0=m4;have g4:(m3:Int) - (O c.T0:Int)=(m4:Int):=V
 rw [g4];refine tb (F6 m4 (O c.U0)) (λh6=>?_) (λh6=>?_)
 .have h6' :=C4 h6
  have p1:=ad1 c (Y c.U0 m4).table (O c.k9) hs.sm.oW V;have e1:Y3 c n=XG c (Y c.U0 m4):=by unfold Y3;rw [if_neg V,SM,if_neg V,hm2,if_neg V,hm3,if_neg V,hm4,if_pos V]
  refine gr ?_;refine tc (F6 (gZ c (Y c.U0 m4).table (O c.k9)) 0) p1 (λh2=>?_) (λh2=>?_)
  .refine gr ?_
   exact ⟨_,rfl,by rw [e1];unfold XG;rw [h2];rfl⟩
  .refine gr ?_
   exact ⟨_,rfl,by rw [e1];unfold XG;rw [h2];rfl⟩
 have h6' :=B5 h6;have hb:=hs.bk (m4 - O c.U0) V;have p1:=bu2 c hs.sm.oW (Y c.W7 (m4 - O c.U0)) hb;have e1:Y3 c n=Lp c (Y c.W7 (m4 - O c.U0)):=by unfold Y3;rw [if_neg V,SM,if_neg V,hm2,if_neg V,hm3,if_neg V,hm4,if_neg V]
 repeat' (first|refine cl (p1) ?_|refine ixI (e:=(m4:Int) - (O c.U0:Int)) (m4 - O c.U0) (h2:=?_)|refine gx ?_|fail)
 exact ⟨_,rfl,by rw [e1];rfl⟩
def Ex.bC4 {A:Go.A1.Prog}{l:I7}{b:Nat}{c:q7}{st:St}{Q:I6->St->Prop}(P:St->Prop)(h1:Ex A l b c st (yM (λ_ _=>False) P))(h2:∀s,P s->Q .normal s):Ex A l b c st Q:=by
 refine h1.mono λx s h=>?_
 cases x with
 |normal=>exact h2 s h
 |exit i=>exact h.elim
 |ret=>exact h.elim
def Hp (a b c d e f:Int):Bool:=F6 16 a||F6 16 b||F6 16 c||F6 16 d||F6 16 e||F6 16 f
def tooMany (c:s5):Bool:=F6 8 (O c.k9)||F6 12 (O c.views)||Hp (O c.idxs) (O c.O1) (O c.P3) (O c.T0) (O c.U0) (O c.W7)
def max2 (x y:Int):Int:=if y>x then y else x
def az9 (x y:Int):F6 16 (max2 x y)=(F6 16 x||F6 16 y):=by
 grind [max2,s9,decide]
def ZW (a b c d e f:Int):F6 16 (max2 (max2 (max2 (max2 (max2 a b) c) d) e) f)=Hp a b c d e f:=by
 simp [az9,Hp]
def R9 (c:s5)(i:Nat):Int :=
 if !M8 (Y c.names i) then 3 else if (c.names.take i).any λy=>P8 y (Y c.names i) then 4
 else if i<O c.k9 then iL c i else if i<s5.ns c then Y6 c i else Y3 c (i - s5.ns c)
def iW (c:s5):Nat->Nat->Int×Int
 |0,_=>(0,0)
 |k+1,i=>if !u7 (R9 c i) 0 then (i,R9 c i) else iW c k (i+1)
def X2 (c:s5):Int×Int:=if tooMany c then (0,8) else iW c (O c.names) 0
theorem De {c:s5}{m:Nat}(h:R9 c m=0):(!M8 (Y c.names m))=F/\((c.names.take m).any λy=>P8 y (Y c.names m))=F:=by
 grind [R9,M8,Y,P8]
def nI {c:s5}{m:Nat}(h:R9 c m=0)(hm:m<O c.k9):iL c m=0:=by
 grind [R9]
def fh {c:s5}{m:Nat}(h:R9 c m=0)(hm:O c.k9<=m)(hm2:m<s5.ns c):Y6 c m=0:=by
 grind [R9]
def mB {c:s5}{m:Nat}(h:iL c m=0):0<O (Y c.k9 m).s6/\O (Y c.k9 m).s6<=8:=by
 grind [iL,s7,s8]
def jy {c:s5}{m:Nat}(h:Y6 c m=0):s7 (Z2 c m).kind 0 2=W/\0<=I4 c (Z2 c m).left m/\(P8 (Z2 c m).right []=F->0<=I4 c (Z2 c m).right m)/\cn (Z2 c m)=W:=by
 unfold Y6 at h;split at h
 .omega
 .split at h
  .omega
  .split at h
   all_goals simp_all [Bool.not_eq_true,J3,B5]
def HL {v:Vw}(h:cn v=W):v.kind≠1\/0<O v.F4:=by
 cases h1:u7 v.kind 1 with
 |false=>simp_all [wB]
 |true =>
  grind [cn,u7]
def mT (c:s5)(i:Nat):Prop:=∀m,m<i->R9 c m=0
def kV {c:s5}{i:Nat}(h:mT c i)(hi:i<=s5.ns c):xx c i:=λk h1 h2=>by
 have:=jy (fh (h k h2) h1 V);exact ⟨this.2.1,this.2.2.1⟩
def fB (c:s5):O c.names=s5.ns c+(O c.idxs+O c.O1+O c.P3+O c.T0+O c.U0+O c.W7):=by simp [s5.names,s5.ns];omega
set_option maxHeartbeats 16000000 in
def cd5 (c:s5)(hs:G4 c):Pf A 95 [cat c] (pair (X2 c)):=by
 have hnl:=fB c;have gY:s5.ns c=O c.k9+O c.views:=rfl;obtain ⟨f0,f1,f2,f3,f4,f5,f6,f7⟩:=id hs.sm.oW;have hmm:=ZW (O c.idxs) (O c.O1) (O c.P3) (O c.T0) (O c.U0) (O c.W7);refine Pf.gr 7 ?_;refine tB (tooMany c) ?_ (λh1=>?_) (λh1=>?_)
 .repeat' (first|refine mm (d:= .int .i64 (max2 (max2 (max2 (max2 (max2 (O c.idxs) (O c.O1)) (O c.P3)) (O c.T0)) (O c.U0)) (O c.W7))) ?_|refine gx ?_|refine fq (λhw=>?_) λhw=>?_|refine ⟨rfl,rfl,_,rfl,?_⟩|refine ⟨rfl,rfl⟩|fail)
  all_goals first|(simp [*,j3,tooMany,hmm];done)|(simp_all [j3,tooMany,hmm];done)|(simp_all [j3,tooMany,hmm,s9,s8,o8,D2];done)|(simp_all [j3,tooMany,hmm,s9,s8,o8,D2]<;>omega)
 .refine gr ?_
  exact ⟨_,rfl,by unfold X2;rw [h1];rfl⟩
 refine gc (bx4 c hs.sm.oW) ?_;refine Ex.aY (λk T H=>∃(i:Nat) (w0 w2 w3 w6 w7:c8),T=[w0,.ptr 0 0,w2,w3,.d (C6 encS c.names),.d (Z i),w6,w7]/\H=[.cells (c.enc.map .d)]/\i+k=O c.names/\mT c i/\X2 c=iW c k i) ?_ (k:=O c.names) ⟨0,_,_,_,_,_,rfl,rfl,U,λm h=>absurd h V,by unfold X2;rw [h1];rfl⟩;rintro k _ _ ⟨i,w0,w2,w3,w6,w7,rfl,rfl,hk,hok,hi⟩;refine Ex.nT ?_;refine Ex.seq ?_;refine tl i (O c.names) (λh3=>?_) (λh3=>?_)
 .obtain ⟨k,rfl⟩:∃k',k=k' +1:=⟨k - 1,V⟩
  rw [iW] at hi;refine gr ?_;refine tc (!M8 (Y c.names i)) ba4 (λh4=>?_) (λh4=>?_)
  .refine gr ?_
   have e1:R9 c i=3:=by unfold R9;rw [h4];rfl
   exact ⟨_,rfl,by rw [hi,e1];simp [o8,pair,j3,c8.K7,Z]⟩
  refine gr ?_;refine Ex.aY (λk T H=>∃(j:Nat) (w0 w2 w3 w7:c8),T=[w0,.ptr 0 0,w2,w3,.d (C6 encS c.names),.d (Z i),.d (Z j),w7]/\H=[.cells (c.enc.map .d)]/\j+k=i/\((c.names.take i).any λy=>P8 y (Y c.names i))=(((c.names.take i).drop j).any λy=>P8 y (Y c.names i))) ?_ (k:=i) ⟨0,_,_,_,_,rfl,rfl,U,U⟩;rintro k2 _ _ ⟨j,w0,w2,w3,w7,rfl,rfl,hk2,hj⟩;refine Ex.nT ?_;refine Ex.seq ?_;refine tb (F6 j i) (λh5=>?_) (λh5=>?_)
  .have h6:=C4 h5
   rw [mY V V] at hj
   repeat' (first|refine gy ?_|refine ft (λht=>?_) λht=>?_|refine ⟨_,rfl,?_⟩|fail)
   .have g2:((c.names.take i).any λy=>P8 y (Y c.names i))=W:=by rw [hj];simp [ht]
    have e1:R9 c i=4:=by unfold R9;rw [h4,g2];rfl
    rw [hi,e1];simp [o8,pair,j3,c8.K7,Z]
   .exact ⟨k2 - 1,V,j+1,_,_,_,_,rfl,rfl,V,by rw [hj];simp [ht]⟩
  have h6:=B5 h5;rw [n9 D] at hj;have g2:((c.names.take i).any λy=>P8 y (Y c.names i))=F:=by rw [hj];rfl
  clear hj hk2 h5 h6;refine gr ?_;refine Ex.bC4 (λs=>∃(w0 w2 w3 w6:c8),s=⟨[w0,.ptr 0 0,w2,w3,.d (C6 encS c.names),.d (Z i),w6,.d (Z (R9 c i))],[.cells (c.enc.map .d)]⟩) ?_ ?_
  .skip
   refine tb (F6 i (O c.k9)) (λh5=>?_) (λh5=>?_)
   .have h6:=C4 h5
    have p1:=cd8 c i hs.sm V (λm hm=>(mB (nI (hok m hm) V)).1);have e1:R9 c i=iL c i:=by unfold R9;rw [h4,g2,if_neg U,if_neg U,if_pos V]
    rw [e1];refine gc p1 ?_;exact ⟨_,_,_,_,rfl⟩
   have h6:=B5 h5;refine tc (F6 i (s5.ns c)) gY (λh7=>?_) (λh7=>?_)
   .have h8:=C4 h7
    have p1:=cd9 c hs i V V (kV hok V);have e1:R9 c i=Y6 c i:=by unfold R9;rw [h4,g2,if_neg U,if_neg U,if_neg V,if_pos V]
    rw [e1];refine gc p1 ?_;exact ⟨_,_,_,_,rfl⟩
   .have h8:=B5 h7
    have p1:=ce0 c hs (kV (λm hm=>hok m V) (l6 _)) (λm hm=>by
     have h9:=jy (fh (hok (m+O c.k9) V) V V);have h10:Z2 c (m+O c.k9)=Y c.views m:=by unfold Z2;rw [Nat.add_sub_cancel]
     rw [h10] at h9;exact HL h9.2.2.2) (i - s5.ns c) V
    have e1:R9 c i=Y3 c (i - s5.ns c):=by unfold R9;rw [h4,g2,if_neg U,if_neg U,if_neg V,if_neg V]
    rw [e1];refine gr ?_;refine cl p1 ?_ (ha:=by rw [show ((i - s5.ns c:Nat):Int)=(i:Int) - (O c.k9:Int) - (O c.views:Int) by omega];rfl);refine gr ?_;exact ⟨_,_,_,_,rfl⟩
  rintro _ ⟨w0,w2,w3,w6,rfl⟩;refine gr ?_;refine tb (!u7 (R9 c i) 0) (λh5=>?_) (λh5=>?_)
  .refine gr ?_
   exact ⟨_,rfl,by rw [hi,h5];rfl⟩
  .refine gr ?_
   refine ⟨k,V,i+1,_,_,_,_,_,rfl,rfl,V,λm hm=>?_,by rw [hi,h5];rfl⟩
   rcases A5 m i with h6|h6
   .exact hok m h6
   .obtain rfl:m=i:=V
    exact eE (by simpa using h5)
 .obtain rfl:k=0:=V
  refine gr ?_;exact ⟨_,rfl,by rw [hi];rfl⟩
end Go.Proofs.YtibjocmpkoepoaaGreat


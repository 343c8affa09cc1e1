import Derived.Test.YtibjocmpkoepoaaGreatUD0
set_option linter.all false
open Bool renaming false_eq_true→j6,not_eq_false'→B5,not_eq_true'→o3,or_eq_false_iff→C7,true→W,false→F
open List renaming drop_of_length_le→n5,take_of_length_le→s4,length→O
open Nat renaming le_refl→j9,lt_or_ge→y7
open Option renaming some→J,none→K
namespace Go.Proofs.YtibjocmpkoepoaaGreat
open Go.y9 Go.y9.S
attribute [local irreducible] Rx Ry Rn Ex Pf
structure E7 (c:o9):Prop where
 sm:o9.small c
 items:∀k,k<O c.views->O (Y c.views k).items<=1000
 F6:∀k,k<O c.views->O (Y c.views k).F6<=1000
 on:∀k,k<O c.views->O (Y c.views k).on<=1000
 wh:∀k,k<O c.views->O (Y c.views k).wh<=1000
 CD:∀k i,k<O c.views->i<O (Y c.views k).items->O (Y (Y c.views k).items i).expr<=1000
 JS:∀k i,k<O c.views->i<O (Y c.views k).F6->O (Y (Y c.views k).F6 i).expr<=1000
 bk:∀k,k<O c.L4->O (Y c.L4 k).tables<=1000
def rL (ty:List Int)(a:sZ):Int:=if x4 a.func 0||x4 a.func 1 then 1 else (J7 a.expr ty).1
def W1 (v:Vw)(ty:List Int):List Int:=v.items.map (λx=>(J7 x.expr ty).1)++v.F6.map (rL ty)
def vt (c:o9)(prev:List (List Int))(v:Vw)(k:Nat):List Int:=Y prev (E5 c v.left k).toNat++(if K3 v.right [] then [] else Y prev (E5 c v.right k).toNat)
def eP (c:o9)(prev:List (List Int))(k:Nat):List Int :=
 if k<O c.j7 then (Y c.j7 k).o7.map P4.type
 else if x4 (Y c.views (k - O c.j7)).kind 2 then Y prev (E5 c (Y c.views (k - O c.j7)).left k).toNat
 else W1 (Y c.views (k - O c.j7)) (vt c prev (Y c.views (k - O c.j7)) k)
def jy (c:o9):Nat->List (List Int)
 |0=>[]
 |k+1=>jy c k++[eP c (jy c k) k]
def O7 (c:o9)(k:Nat):List Int:=eP c (jy c k) k
def ins (c:o9)(k:Nat):List Int:=vt c (jy c k) (Y c.views (k - O c.j7)) k
theorem Ea (c:o9):∀k,O (jy c k)=k
 |0=>rfl
 |k+1=>by simp [jy,Ea c k]
theorem R6 (c:o9):∀{k j:Nat},j<k->Y (jy c k) j=O7 c j
 |k+1,j,h=>by
  have hl:=Ea c k
  rcases y7 j k with h1|h1
  .rw [<- R6 c h1,jy,D6 D,D6 V,List.getElem_append_left V]
  grind [jy,D6,List.getElem_append_right,O7]
def pX (c:o9)(n:Nat):Prop:=∀k,O c.j7<=k->k<n->0<=E5 c (Y c.views (k - O c.j7)).left k/\(K3 (Y c.views (k - O c.j7)).right []=F->0<=E5 c (Y c.views (k - O c.j7)).right k)
theorem J2 (c:o9)(name:G4)(n:Nat):E5 c name n= -1\/(0<=E5 c name n/\E5 c name n<n/\E5 c name n<o9.ns c):=by
 grind [E5,dG,o9.sn,S7]
theorem aN {c:o9}(hs:E7 c):∀(n k:Nat),k<n->n<=o9.ns c->pX c n->O (O7 c k)<=2000
 |0,k,h,_,_=>absurd h V
 |n+1,k,h,hn,ho=>by
  rcases y7 k n with h1|h1
  .exact aN hs n k h1 V (λk h1 h2=>ho k h1 V)
  unfold O7 eP;split
  next h2=>
   have:=hs.sm.o7 k h2;simp;omega
  .have hv:k - O c.j7<O c.views:=by grind [o9.ns]
   split
   .have h3:=(ho k V V).1
    rcases J2 c (Y c.views (k - O c.j7)).left k with h4|h4
    .omega
    .rw [R6 c V]
     exact aN hs k _ V V (λk h1 h2=>ho k h1 V)
   .have h5:=hs.items _ hv
    have h6:=hs.F6 _ hv
    grind [W1]
set_option maxHeartbeats 8000000 in
theorem fU (c:o9)(hs:E7 c):∀(n s:Nat),s<n->n<=o9.ns c->pX c n->Pf A 54 [cat c,.d (Z s)] (.d (ints (O7 c s)))/\(O c.j7<=s->Pf A 113 [cat c,.d (Z s)] (.d (ints (ins c s))))
 |0,s,h,_,_=>absurd h V
 |n+1,s,h,hn,ho=>by
  have aa:o9.ns c<=2000:=by obtain ⟨f0,f1,_⟩:=hs.sm.eD;unfold o9.ns;omega
  have Sk:o9.ns c=O c.j7+O c.views:=rfl
  rcases y7 s n with h1|h1
  .exact fU c hs n s h1 V (λk h1 h2=>ho k h1 V)
  obtain rfl:s=n:=V
  have ih:∀k,k<s->Pf A 54 [cat c,.d (Z k)] (.d (ints (O7 c k))):=λk hk=>(fU c hs s k hk V (λk h1 h2=>ho k h1 V)).1
  have hlen:∀k,k<s->O (O7 c k)<=2000:=λk hk=>aN hs s k hk V (λk h1 h2=>ho k h1 V)
  have hin:O c.j7<=s->Pf A 113 [cat c,.d (Z s)] (.d (ints (ins c s))):=λht=>by
   have hv:s - O c.j7<O c.views:=V
   obtain ⟨o1,o2⟩:=ho s ht V;have b1:=J2 c (Y c.views (s - O c.j7)).left s;have b2:=J2 c (Y c.views (s - O c.j7)).right s;obtain ⟨q1,e1⟩:∃q:Nat,E5 c (Y c.views (s - O c.j7)).left s=q:=⟨_,(Int.toNat_of_nonneg o1).symm⟩;have p1:=AJ c (Y c.views (s - O c.j7)).left s hs.sm.eD V;have p2:=AJ c (Y c.views (s - O c.j7)).right s hs.sm.eD V;rw [e1] at p1;have l1:=hlen q1 V;have t1:=ih q1 V;refine Pf.go 4 ?_
   repeat' (first|refine VV (e:=(s:Int) - (O c.j7:Int)) (s - O c.j7) (h2:=?_)|refine gx ?_|fail)
   refine gc (And.intro p1 t1) ?_;refine tb (!K3 (Y c.views (s - O c.j7)).right []) (λh2=>?_) (λh2=>?_)
   .simp only [o3] at h2
    obtain ⟨q2,e2⟩:∃q:Nat,E5 c (Y c.views (s - O c.j7)).right s=q:=⟨_,(Int.toNat_of_nonneg (o2 h2)).symm⟩;rw [e2] at p2;have l2:=hlen q2 V;have t2:=ih q2 V;refine gc (And.intro p2 t2) ?_;refine ⟨_,rfl,?_⟩;simp only [ins,vt,e1,e2,Int.toNat_natCast,h2,j6,if_false];rw [R6 c V,R6 c V];rfl
   .simp only [B5] at h2
    refine gr ?_;refine ⟨_,rfl,?_⟩;simp only [ins,vt,e1,Int.toNat_natCast,h2,if_true];rw [R6 c V];simp [j5,ints,s7]
  refine ⟨?_,hin⟩;refine Pf.gr 10 ?_;refine tb (D5 s (O c.j7)) (λh2=>?_) (λh2=>?_)
  .have h3:=A7 h2
   have hcl:=hs.sm.o7 s V;refine gr ?_;refine Ex.J4 (λk T H=>∃(i:Nat) (acc:List Int),T=[.any,.d (Z s),.ptr 0 0,.any,A8 1 (λn=>[Z n]) acc,.d (Z i),.any,.any,.any,.any,.any,.any]/\H=[.cells (c.enc.map .d)]/\i+k=O (Y c.j7 s).o7/\acc=((Y c.j7 s).o7.take i).map P4.type) ?_ (k:=O (Y c.j7 s).o7) ⟨0,[],rfl,rfl,U,U⟩;rintro k _ _ ⟨i,acc,rfl,rfl,hk,hacc⟩;have hl:O acc=i:=by rw [hacc];simp;omega
   repeat' (first|refine gy ?_|refine ft (λht=>?_) λht=>?_|refine ⟨_,rfl,?_⟩|fail)
   .have h4:=A7 ht
    refine kk ⟨i+1,acc++[(Y (Y c.j7 s).o7 i).type],rfl,rfl,V,?_⟩;rw [E4 V,hacc];simp
   .have h4:=B8 ht
    rw [s4 V] at hacc;simp only [O7,eP];rw [if_pos V,<- hacc];rfl
  have h3:=B8 h2;have hv:s - O c.j7<O c.views:=V
  obtain ⟨o1,o2⟩:=ho s V V;have b1:=J2 c (Y c.views (s - O c.j7)).left s;have b2:=J2 c (Y c.views (s - O c.j7)).right s;obtain ⟨q1,e1⟩:∃q:Nat,E5 c (Y c.views (s - O c.j7)).left s=q:=⟨_,(Int.toNat_of_nonneg o1).symm⟩;have p1:=AJ c (Y c.views (s - O c.j7)).left s hs.sm.eD V;rw [e1] at p1;have l1:=hlen q1 V;have t1:=ih q1 V;have sr:O (ins c s)<=4000:=by
   simp only [ins,vt,e1,Int.toNat_natCast];rw [R6 c V];cases h5:K3 (Y c.views (s - O c.j7)).right [] with
   |true=>simp;omega
   |false =>
    have h6:=o2 h5;have h7:=hlen (E5 c (Y c.views (s - O c.j7)).right s).toNat V;rw [R6 c V];simp;omega
  have hi1:=hs.items _ hv;have hi2:=hs.F6 _ hv
  repeat' (first|refine VV (e:=(s:Int) - (O c.j7:Int)) (s - O c.j7) (h2:=?_)|refine gx ?_|fail)
  refine tb (x4 (Y c.views (s - O c.j7)).kind 2) (λh4=>?_) (λh4=>?_)
  .refine gc (And.intro p1 t1) ?_
   refine ⟨_,rfl,?_⟩;have hct:O7 c s=Y (jy c s) q1:=by
    unfold O7 eP;rw [if_neg V,h4,if_pos rfl,e1];rfl
   rw [hct,R6 c V];rfl
  refine gc (hin V) ?_;refine Ex.J4 (λk T H=>∃(i:Nat) (acc:List Int),T=[.any,.any,.any,.any,A8 1 (λn=>[Z n]) acc,.any,.ptr 1 0,.d (ints (ins c s)),.d (Z i),.any,.any,.any]/\H=[.cells (c.enc.map .d),.cells ((Y c.views (s - O c.j7)).enc.map .d)]/\i+k=O (Y c.views (s - O c.j7)).items/\acc=((Y c.views (s - O c.j7)).items.take i).map λx=>(J7 x.expr (ins c s)).1) ?_ (k:=O (Y c.views (s - O c.j7)).items) ⟨0,[],rfl,rfl,U,U⟩;rintro k _ _ ⟨i,acc,rfl,rfl,hk,hacc⟩;have hl:O acc=i:=by rw [hacc];simp;omega
  refine Ex.seq ?_;refine tb (D5 i (O (Y c.views (s - O c.j7)).items)) (λh5=>?_) (λh5=>?_)
  .have h6:=A7 h5
   refine gc (Hh (Y (Y c.views (s - O c.j7)).items i).expr (ins c s) (hs.CD (s - O c.j7) i hv V) V) ?_;refine kk ⟨i+1,acc++[(J7 (Y (Y c.views (s - O c.j7)).items i).expr (ins c s)).1],rfl,rfl,V,?_⟩;rw [E4 V,hacc];simp
  have h6:=B8 h5;rw [s4 V] at hacc;clear h5 h6 hk hl;refine gr ?_;have hl0:O acc<=1000:=by rw [hacc];simp;omega
  refine Ex.J4 (λk T H=>∃(i:Nat) (HG:List Int),T=[.any,.any,.any,.any,A8 1 (λn=>[Z n]) HG,.any,.ptr 1 0,.d (ints (ins c s)),.any,.any,.d (Z i),.any]/\H=[.cells (c.enc.map .d),.cells ((Y c.views (s - O c.j7)).enc.map .d)]/\i+k=O (Y c.views (s - O c.j7)).F6/\HG=acc++((Y c.views (s - O c.j7)).F6.take i).map (rL (ins c s))) ?_ (k:=O (Y c.views (s - O c.j7)).F6) ⟨0,acc,rfl,rfl,U,U⟩;rintro k _ _ ⟨i,HG,rfl,rfl,hk,Cl⟩;have hl:O HG=O acc+i:=by rw [Cl];simp;omega
  refine Ex.seq ?_;refine tb (D5 i (O (Y c.views (s - O c.j7)).F6)) (λh5=>?_) (λh5=>?_)
  .have h6:=A7 h5
   refine gc (Hh (Y (Y c.views (s - O c.j7)).F6 i).expr (ins c s) (hs.JS (s - O c.j7) i hv V) V) ?_;refine tb (x4 (Y (Y c.views (s - O c.j7)).F6 i).func 0||x4 (Y (Y c.views (s - O c.j7)).F6 i).func 1) (λh7=>?_) (λh7=>?_)
   .refine gr ?_
    refine kk ⟨i+1,HG++[1],rfl,rfl,V,?_⟩;rw [E4 V,Cl];simp [rL,h7]
   .refine gr ?_
    refine kk ⟨i+1,HG++[(J7 (Y (Y c.views (s - O c.j7)).F6 i).expr (ins c s)).1],rfl,rfl,V,?_⟩;rw [E4 V,Cl];simp [rL,h7]
  .have h6:=B8 h5
   rw [s4 V] at Cl;refine gr ?_;refine ⟨_,rfl,?_⟩;simp only [O7,eP];rw [if_neg V,h4,if_neg U];simp only [W1];rw [show vt c (jy c s) (Y c.views (s - O c.j7)) s=ins c s from rfl,<- hacc,<- Cl];rfl
structure xS where
 agg:Bool
 name:G4
 f:Int
 expr:List R2
instance:Inhabited xS:=⟨⟨F,[],0,[]⟩⟩
def aA (v:Vw):List xS:=v.items.map (λx=>⟨F,x.name, -1,x.expr⟩)++v.F6.map (λx=>⟨W,x.name,x.func,x.expr⟩)
def V1 (ty:List Int):List G4->List xS->Int
 |_,[]=>0
 |seen,e::r =>
  if !J3 e.name then 3
  else if seen.any λy=>K3 y e.name then 4
  else if e.agg&&(!p9 e.f 0 4||(x4 e.f 0&&D5 0 (O e.expr))) then 1
  else if e.agg&&x4 e.f 0 then V1 ty (seen++[e.name]) r
  else if !x4 (J7 e.expr ty).2 0 then (J7 e.expr ty).2
  else if e.agg&&x4 e.f 1&& !x4 (J7 e.expr ty).1 1 then 5
  else V1 ty (seen++[e.name]) r
def iA (v:Vw):O (aA v)=O v.items+O v.F6:=by simp [aA]
def qB (v:Vw){i:Nat}(h:i<O v.items):Y (aA v) i=⟨F,(Y v.items i).name, -1,(Y v.items i).expr⟩:=by
 rw [D6 (by rw [iA];omega),D6 h];simp [aA,List.getElem_append_left,h]
def uO (v:Vw){i:Nat}(h:O v.items<=i)(h2:i<O v.items+O v.F6):Y (aA v) i=⟨W,(Y v.F6 (i - O v.items)).name,(Y v.F6 (i - O v.items)).func,(Y v.F6 (i - O v.items)).expr⟩:=by
 rw [D6 (by rw [iA];omega),D6 V];simp [aA,List.getElem_append_right,h]
def Ib (v:Vw){i:Nat}(h:i<O v.items+O v.F6):(Y (aA v) i).agg=T5 (O v.items) i:=by
 rcases y7 i (O v.items) with h1|h1
 .rw [qB v h1];simp [x6];omega
 .rw [uO v h1 h];simp [x6];omega
set_option maxHeartbeats 16000000 in
def Wm (v:Vw)(ty:List Int)(h0:O v.items<=1000)(h1:O v.F6<=1000)(h2:O ty<=100000)(h3:∀i,i<O v.items->O (Y v.items i).expr<=1000)(h4:∀i,i<O v.F6->O (Y v.F6 i).expr<=1000) :
  Pf A 203 [vw v,.d (ints ty)] (.d (Z (V1 ty [] (aA v)))):=by
 have hel:=iA v;refine Pf.gr 11 ?_;refine Ex.L9 (λk T H=>∃(i:Nat) (seen:List G4),T=[.any,.d (ints ty),.ptr 0 0,.any,A8 1 (λs=>[.str s]) seen,.d (Z i),.any,.any,.any,.any,.any,.any,.any]/\H=[.cells (v.enc.map .d)]/\i+k=O (aA v)/\O seen=i/\V1 ty [] (aA v)=V1 ty seen ((aA v).drop i)) ?_ (k:=O (aA v)) ⟨0,[],rfl,rfl,U,rfl,U⟩;rintro k _ _ ⟨i,seen,rfl,rfl,hk,Of,hi⟩;refine Ex.seq ?_;refine tc (D5 i (O (aA v))) hel (λh5=>?_) (λh5=>?_)
 .have h6:=A7 h5
  have hix:i<O v.items+O v.F6:=V
  rw [C4 V] at hi;have hfl:=Ib v hix;refine gr ?_;refine Ex.xR (λs=>∃(f:Int) (H2:k9) (w9:c7),s=⟨[.any,.d (ints ty),.ptr 0 0,.any,A8 1 (λs=>[.str s]) seen,.d (Z i),.d (.str (Y (aA v) i).name),.d (Z (Y (aA v) i).f),.d (s7 R2.enc (Y (aA v) i).expr),w9,.any,.any,.any],.cells (v.enc.map .d)::H2⟩/\O (Y (aA v) i).expr<=1000) ?_ ?_
  .skip
   refine tl i (O v.items) (λh8=>?_) (λh8=>?_)
   .have he:=h3 i V
    rw [qB v V];refine gr ?_;exact ⟨-1,_,_,rfl,he⟩
   .have he:=h4 (i - O v.items) V
    rw [uO v V hix]
    repeat' (first|refine VV (e:=(i:Int) - (O v.items:Int)) (i - O v.items) (h2:=?_)|refine gx ?_|fail)
    exact ⟨0,_,_,rfl,he⟩
  rintro _ ⟨f,H2,w9,rfl,he⟩;generalize Sd:Y (aA v) i=en at *
  obtain ⟨ag,nm,ef,ex⟩:=en;simp only at *
  subst hfl;have VJ:=Hh ex ty he h2;refine gr ?_;refine tc (!J3 nm) Te (λg1=>?_) (λg1=>?_)
  .refine gr ?_
   exact ⟨_,rfl,by rw [hi];simp only [V1,g1,j5,Z,if_true]⟩
  refine gr ?_;refine Ex.bW (λk T H=>∃(j:Nat) (w0 w3 w9 El Em:c7),T=[w0,.d (ints ty),.ptr 0 0,w3,A8 1 (λs=>[.str s]) seen,.d (Z i),.d (.str nm),.d (Z ef),.d (s7 R2.enc ex),w9,.d (Z j),El,Em]/\H= .cells (v.enc.map .d)::H2/\j+k=O seen/\(seen.any λy=>K3 y nm)=((seen.drop j).any λy=>K3 y nm)) ?_ (k:=O seen) ⟨0,_,_,_,_,_,rfl,rfl,U,U⟩;rintro k2 _ _ ⟨j,w0,w3,w9,El,Em,rfl,rfl,hk2,hj⟩;refine Ex.nT ?_;refine Ex.seq ?_;refine tb (D5 j (O seen)) (λg0=>?_) (λg0=>?_)
  .have g00:=A7 g0
   rw [C4 V] at hj
   repeat' (first|refine gy ?_|refine ft (λht=>?_) λht=>?_|refine ⟨_,rfl,?_⟩|fail)
   .have g2:(seen.any λy=>K3 y nm)=W:=by rw [hj];simp [ht]
    rw [hi];simp only [V1,g1,g2,j5,Z,j6,if_true,if_false]
   .exact ⟨k2 - 1,V,j+1,_,_,_,_,_,rfl,rfl,V,by rw [hj];simp [ht]⟩
  have g00:=B8 g0;rw [n5 V] at hj;have g2:(seen.any λy=>K3 y nm)=F:=by rw [hj];rfl
  clear hj hk2 g0 g00;refine gr ?_;refine tc (T5 (O v.items) i&&(!p9 ef 0 4||(x4 ef 0&&D5 0 (O ex)))) nK (λg3=>?_) (λg3=>?_)
  .refine gr ?_
   exact ⟨_,rfl,by rw [hi];simp only [V1,g1,g2,g3,j5,Z,j6,if_true,if_false]⟩
  refine gr ?_;refine tb (T5 (O v.items) i&&x4 ef 0) (λg4=>?_) (λg4=>?_)
  .refine gr ?_
   exact kk ⟨_,_,rfl,i+1,seen++[nm],rfl,rfl,V,by simp [Of],by rw [hi];simp only [V1,g1,g2,g3,g4,j6,if_true,if_false]⟩
  refine gc VJ ?_;refine tb (!x4 (J7 ex ty).2 0) (λg5=>?_) (λg5=>?_)
  .refine gr ?_
   exact ⟨_,rfl,by rw [hi];simp only [V1,g1,g2,g3,g4,g5,j5,j6,if_true,if_false]⟩
  refine gr ?_;refine tb (T5 (O v.items) i&&x4 ef 1&& !x4 (J7 ex ty).1 1) (λg6=>?_) (λg6=>?_)
  .refine gr ?_
   exact ⟨_,rfl,by rw [hi];simp only [V1,g1,g2,g3,g4,g5,g6,j5,Z,j6,if_true,if_false]⟩
  .refine gr ?_
   exact kk ⟨_,_,rfl,i+1,seen++[nm],rfl,rfl,V,by simp [Of],by rw [hi];simp only [V1,g1,g2,g3,g4,g5,g6,j6,if_true,if_false]⟩
 .have h6:=B8 h5
  rw [n5 V] at hi;refine gr ?_;exact ⟨_,rfl,by rw [hi];rfl⟩
def T1 (c:o9)(k:Nat):Vw:=Y c.views (k - O c.j7)
def lT (c:o9)(k:Nat):List Int:=Y (jy c k) (E5 c (T1 c k).left k).toNat
def rT (c:o9)(k:Nat):List Int:=if K3 (T1 c k).right [] then [] else Y (jy c k) (E5 c (T1 c k).right k).toNat
def S4 (c:o9)(k:Nat):Int :=
 if !p9 (T1 c k).kind 0 2 then 1
 else if D5 (E5 c (T1 c k).left k) 0||(!K3 (T1 c k).right []&&D5 (E5 c (T1 c k).right k) 0) then 7
 else if !Y6 (T1 c k) then 1
 else if x4 (T1 c k).kind 2 then (if !cK x4 (lT c k) (rT c k) then 5 else 0)
 else if !x4 (L6 (lT c k) (rT c k) (T1 c k).on) 0 then L6 (lT c k) (rT c k) (T1 c k).on
 else if D5 0 (O (T1 c k).wh)&& !x4 (J7 (T1 c k).wh (ins c k)).2 0 then (J7 (T1 c k).wh (ins c k)).2
 else if D5 0 (O (T1 c k).wh)&& !x4 (J7 (T1 c k).wh (ins c k)).1 1 then 5
 else V1 (ins c k) [] (aA (T1 c k))
set_option maxHeartbeats 16000000 in
def aq3 (c:o9)(hs:E7 c)(k:Nat)(hk:O c.j7<=k)(hk2:k<o9.ns c)(ho:pX c k):Pf A 145 [cat c,.d (Z k)] (.d (Z (S4 c k))):=by
 have aa:o9.ns c<=2000:=by obtain ⟨f0,f1,_⟩:=hs.sm.eD;unfold o9.ns;omega
 have Sk:o9.ns c=O c.j7+O c.views:=rfl;have hv:k - O c.j7<O c.views:=V
 have Qu:O (T1 c k).items<=1000:=hs.items _ hv;have Uf:O (T1 c k).F6<=1000:=hs.F6 _ hv;have hv3:O (T1 c k).on<=1000:=hs.on _ hv;have hv4:O (T1 c k).wh<=1000:=hs.wh _ hv;have sx:Y c.views (k - O c.j7)=T1 c k:=rfl;have p1:=AJ c (T1 c k).left k hs.sm.eD V;have p2:=AJ c (T1 c k).right k hs.sm.eD V;have p3:=ar1 c (T1 c k) Qu Uf;have b1:=J2 c (T1 c k).left k;have b2:=J2 c (T1 c k).right k;refine Pf.go 11 ?_
 repeat' (first|refine VV (e:=(k:Int) - (O c.j7:Int)) (k - O c.j7) (h2:=?_)|refine gx ?_|fail)
 rw [sx];refine tc (!p9 (T1 c k).kind 0 2) nK (λh1=>?_) (λh1=>?_)
 .refine gr ?_
  exact ⟨_,rfl,by unfold S4;rw [h1];rfl⟩
 refine gc (And.intro p1 p2) ?_;refine tb (D5 (E5 c (T1 c k).left k) 0||(!K3 (T1 c k).right []&&D5 (E5 c (T1 c k).right k) 0)) (λh2=>?_) (λh2=>?_)
 .refine gr ?_
  exact ⟨_,rfl,by unfold S4;rw [h1,h2];rfl⟩
 have Ng :=h2;simp only [C7] at Ng;have f1:=B8 Ng.1;have f2:K3 (T1 c k).right []=F->0<=E5 c (T1 c k).right k:=λh=>by
  have:=Ng.2;simp only [h,Bool.not_false,Bool.true_and] at this;exact B8 this
 have Sl:pX c (k+1):=λm h h' =>by
  rcases y7 m k with h3|h3
  .exact ho m h h3
  .obtain rfl:m=k:=V
   exact ⟨f1,f2⟩
 obtain ⟨q1,e1⟩:∃q:Nat,E5 c (T1 c k).left k=q:=⟨_,(Int.toNat_of_nonneg f1).symm⟩;have t1:=(fU c hs (k+1) q1 V V Sl).1;have ti:=(fU c hs (k+1) k V V Sl).2 hk;have l1:=aN hs (k+1) q1 V V Sl;have eL:lT c k=O7 c q1:=by unfold lT;rw [e1,Int.toNat_natCast,R6 c V]
 refine tc (!Y6 (T1 c k)) p3 (λh3=>?_) (λh3=>?_)
 .refine gr ?_
  exact ⟨_,rfl,by unfold S4;rw [h1,h2,h3];rfl⟩
 rw [e1];refine gc t1 ?_;refine Ex.xR (λs=>∃(w6 w8:c7),s=⟨[cat c,.d (Z k),.ptr 0 0,.d (Z 0),.ptr 1 0,.d (Z q1),w6,.d (ints (O7 c q1)),w8,.any,.any,.any,.any],[.cells (c.enc.map .d),.cells ((T1 c k).enc.map .d)]⟩/\w8.I7= .d (ints (rT c k))/\O (rT c k)<=2000) ?_ ?_
 .skip
  refine tb (!K3 (T1 c k).right []) (λh4=>?_) (λh4=>?_)
  .simp only [o3] at h4
   obtain ⟨q2,e2⟩:∃q:Nat,E5 c (T1 c k).right k=q:=⟨_,(Int.toNat_of_nonneg (f2 h4)).symm⟩;have t2:=(fU c hs (k+1) q2 V V Sl).1;have l2:=aN hs (k+1) q2 V V Sl;have eR:rT c k=O7 c q2:=by unfold rT;rw [h4,e2,if_neg U,Int.toNat_natCast,R6 c V]
   rw [e2];refine gc t2 ?_;exact ⟨_,_,rfl,by rw [eR];rfl,by rw [eR];exact l2⟩
  .simp only [B5] at h4
   have eR:rT c k=[]:=by unfold rT;rw [h4,if_pos rfl]
   refine gr ?_;exact ⟨_,_,rfl,by rw [eR];rfl,by rw [eR];simp⟩
 rintro _ ⟨w6,w8,rfl,hw8,lR⟩;have hin:O (ins c k)<=100000:=by
  have:ins c k=lT c k++rT c k:=rfl;rw [this,eL];simp;omega
 have pS:=ar2 (O7 c q1) (rT c k) V;have pP:=ar3 (T1 c k).on (O7 c q1) (rT c k) hv3 V V;have pW:=Hh (T1 c k).wh (ins c k) hv4 hin;have pC:=Wm (T1 c k) (ins c k) Qu Uf hin (λi h=>hs.CD _ i hv h) (λi h=>hs.JS _ i hv h);have eL' :=eL.symm;rw [eL'];rw [<- eL] at pS pP;clear p1 p2 p3 t1 eL' eL;refine gr ?_;refine tb (x4 (T1 c k).kind 2) (λh5=>?_) (λh5=>?_)
 .refine gr ?_
  refine tB (!cK x4 (lT c k) (rT c k)) ?_ (λh6=>?_) (λh6=>?_)
  .repeat' (first|refine mvS hw8 ?_|refine cl (pS) ?_|refine gx ?_|refine fq (λhw=>?_) λhw=>?_|refine ⟨rfl,rfl,_,rfl,?_⟩|refine ⟨rfl,rfl⟩|fail)
   all_goals exact cc
  .refine gr ?_
   exact ⟨_,rfl,by unfold S4;rw [h1,h2,h3,h5,h6];rfl⟩
  .refine gr ?_
   exact ⟨_,rfl,by unfold S4;rw [h1,h2,h3,h5,h6];rfl⟩
 repeat' (first|refine mvS hw8 ?_|refine cl (pP) ?_|refine gx ?_|fail)
 refine tb (!x4 (L6 (lT c k) (rT c k) (T1 c k).on) 0) (λh6=>?_) (λh6=>?_)
 .refine gr ?_
  exact ⟨_,rfl,by unfold S4;rw [h1,h2,h3,h5,h6];rfl⟩
 refine gc ti ?_;refine tb (D5 0 (O (T1 c k).wh)) (λh7=>?_) (λh7=>?_)
 .refine gc pW ?_
  refine tb (!x4 (J7 (T1 c k).wh (ins c k)).2 0) (λh8=>?_) (λh8=>?_)
  .refine gr ?_
   exact ⟨_,rfl,by unfold S4;rw [h1,h2,h3,h5,h6,h7,h8];rfl⟩
  refine gr ?_;refine tb (!x4 (J7 (T1 c k).wh (ins c k)).1 1) (λh9=>?_) (λh9=>?_)
  .refine gr ?_
   exact ⟨_,rfl,by unfold S4;rw [h1,h2,h3,h5,h6,h7,h8,h9];rfl⟩
  refine gc pC ?_;exact ⟨_,rfl,by unfold S4;rw [h1,h2,h3,h5,h6,h7,h8,h9];rfl⟩
 .refine gc pC ?_
  exact ⟨_,rfl,by unfold S4;rw [h1,h2,h3,h5,h6,h7];rfl⟩
def iN (c:o9)(name:G4)(col:Int):Int×Int :=
 if D5 (E5 c name (o9.ns c)) 0 then (0,7)
 else if !p9 col 0 (O (O7 c (E5 c name (o9.ns c)).toNat) - 1) then (0,3)
 else (Y (O7 c (E5 c name (o9.ns c)).toNat) col.toNat,0)
def LJ {c:o9}(hs:E7 c):o9.ns c<=2000:=by obtain ⟨f0,f1,_⟩:=hs.sm.eD;unfold o9.ns;omega
def LS (c:o9)(hs:E7 c)(ho:pX c (o9.ns c))(name:G4)(col:Int):Pf A 204 [cat c,.d (.str name),.d (Z col)] (.tuple [.d (Z (iN c name col).1),.d (Z (iN c name col).2)]):=by
 have aa:=LJ hs;have Sk:o9.ns c=O c.j7+O c.views:=rfl;have p1:=AJ c name (o9.ns c) hs.sm.eD V;have b1:=J2 c name (o9.ns c);refine Pf.go 5 ?_;refine gc p1 ?_;refine tb (D5 (E5 c name (o9.ns c)) 0) (λh1=>?_) (λh1=>?_)
 .refine gr ?_
  exact ⟨_,rfl,by simp only [iN,h1,if_true];rfl⟩
 have h2:=B8 h1;obtain ⟨q,e1⟩:∃q:Nat,E5 c name (o9.ns c)=q:=⟨_,(Int.toNat_of_nonneg h2).symm⟩;have t1:=(fU c hs (o9.ns c) q V V ho).1;have l1:=aN hs (o9.ns c) q V V ho;rw [e1] at h1 ⊢;refine gc t1 ?_;refine tc (!p9 col 0 (O (O7 c q) - 1)) nK (λh3=>?_) (λh3=>?_)
 .refine gr ?_
  exact ⟨_,rfl,by simp only [iN,e1,h1,Int.toNat_natCast,h3,j6,if_false,if_true];rfl⟩
 have h4:=h3;simp [p9,x6] at h4;refine gr ?_;exact ⟨_,rfl,by simp only [iN,e1,h1,Int.toNat_natCast,h3,j6,if_false];rfl⟩
def skt (x:gW):c7:= .agg (x.enc.map .d)
def rls (x:jD):c7:= .agg (x.enc.map .d)
def bkp (x:mc):c7:= .agg (x.enc.map .d)
def AX (x:gW):Bool:= !p9 x.kind 0 2|| !p9 x.width 1 1024|| !p9 x.depth 1 8||(x4 x.kind 2&& !x4 x.depth 1)||D5 1024 (x.width * x.depth)
def xP (c:o9)(x:gW):Int:=if !x4 (iN c x.source x.col).2 0 then (iN c x.source x.col).2 else if AX x then 1 else 0
set_option maxHeartbeats 8000000 in
def Wn (c:o9)(hs:E7 c)(ho:pX c (o9.ns c))(x:gW):Pf A 205 [cat c,skt x] (.d (Z (xP c x))):=by
 have p1:=LS c hs ho x.source x.col;refine Pf.go 4 ?_;refine gc p1 ?_;refine tb (!x4 (iN c x.source x.col).2 0) (λh1=>?_) (λh1=>?_)
 .refine gr ?_
  exact ⟨_,rfl,by simp only [xP,h1,if_true];rfl⟩
 refine gr ?_;cases hW:p9 x.width 1 1024 with
 |false =>
  refine tB (W) ?_ (λh2=>?_) (λh2=>?_)
  .repeat' (first|refine cl (nK _ _ _) ?_|refine gx ?_|refine fq (λhw=>?_) λhw=>?_|refine ⟨rfl,rfl,_,rfl,?_⟩|refine ⟨rfl,rfl⟩|fail)
   all_goals first|(simp [*,j5,hW];done)|(simp_all [j5,hW];done)|(simp_all [j5,hW,y4,x6,o6,F3];done)|(simp_all [j5,hW,y4,x6,o6,F3]<;>omega)
  .refine gr ?_
   exact ⟨_,rfl,by simp [xP,h1,AX,hW,j5,Z]⟩
  .cases h2
 |true =>
 cases hD:p9 x.depth 1 8 with
 |false =>
  refine tB (W) ?_ (λh2=>?_) (λh2=>?_)
  .repeat' (first|refine cl (nK _ _ _) ?_|refine gx ?_|refine fq (λhw=>?_) λhw=>?_|refine ⟨rfl,rfl,_,rfl,?_⟩|refine ⟨rfl,rfl⟩|fail)
   all_goals first|(simp [*,j5,hW,hD];done)|(simp_all [j5,hW,hD];done)|(simp_all [j5,hW,hD,y4,x6,o6,F3];done)|(simp_all [j5,hW,hD,y4,x6,o6,F3]<;>omega)
  .refine gr ?_
   exact ⟨_,rfl,by simp [xP,h1,AX,hD,j5,Z]⟩
  .cases h2
 |true =>
 have hm: -9223372036854775808<=x.width * x.depth/\x.width * x.depth<9223372036854775808:=by
  simp [p9,x6] at hW hD;have m1:=Int.mul_le_mul hW.2 hD.2 V V;have m2:=Int.mul_nonneg (a:=x.width) (b:=x.depth) V V;omega
 refine tB (AX x) ?_ (λh2=>?_) (λh2=>?_)
 .repeat' (first|refine cl (nK _ _ _) ?_|refine mu (h0:=hm) ?_|refine gx ?_|refine fq (λhw=>?_) λhw=>?_|refine ⟨rfl,rfl,_,rfl,?_⟩|refine ⟨rfl,rfl⟩|fail)
  all_goals first|(simp [*,j5,AX,hW,hD];done)|(simp_all [j5,AX,hW,hD];done)|(simp_all [j5,AX,hW,hD,y4,x6,o6,F3];done)|(simp_all [j5,AX,hW,hD,y4,x6,o6,F3]<;>omega)
 .refine gr ?_
  exact ⟨_,rfl,by simp only [xP,h1,h2,j6,if_false,if_true];rfl⟩
 .refine gr ?_
  exact ⟨_,rfl,by simp only [xP,h1,h2,j6,if_false];rfl⟩
def Dy (c:o9)(x:jD):Int :=
 if D5 (E5 c x.source (o9.ns c)) (O c.j7) then 7
 else if !x4 (Y c.views (E5 c x.source (o9.ns c) - O c.j7).toNat).kind 1|| !x4 (Y (Y c.views (E5 c x.source (o9.ns c) - O c.j7).toNat).F6 0).func 0|| !p9 x.TG 1 1024 then 1 else 0
set_option maxHeartbeats 8000000 in
def Wo (c:o9)(hs:E7 c)(hg:∀k,k<O c.views->(Y c.views k).kind≠1\/0<O (Y c.views k).F6)(x:jD):Pf A 206 [cat c,rls x] (.d (Z (Dy c x))):=by
 have aa:=LJ hs;have Sk:o9.ns c=O c.j7+O c.views:=rfl;have p1:=AJ c x.source (o9.ns c) hs.sm.eD V;have b1:=J2 c x.source (o9.ns c);refine Pf.go 5 ?_;refine gc p1 ?_;refine tb (D5 (E5 c x.source (o9.ns c)) (O c.j7)) (λh1=>?_) (λh1=>?_)
 .refine gr ?_
  exact ⟨_,rfl,by simp only [Dy,h1,if_true];rfl⟩
 have h2:=B8 h1;have h3:=hg (E5 c x.source (o9.ns c) - O c.j7).toNat V;refine gr ?_;refine tc (!x4 (Y c.views (E5 c x.source (o9.ns c) - O c.j7).toNat).kind 1|| !x4 (Y (Y c.views (E5 c x.source (o9.ns c) - O c.j7).toNat).F6 0).func 0|| !p9 x.TG 1 1024) nK (λh4=>?_) (λh4=>?_)
 .refine gr ?_
  exact ⟨_,rfl,by simp only [Dy,h1,h4,j6,if_false,if_true];rfl⟩
 .refine gr ?_
  exact ⟨_,rfl,by simp only [Dy,h1,h4,j6,if_false];rfl⟩
def PT (c:o9):List G4->List G4->Int
 |_,[]=>0
 |seen,t::r=>if D5 (cL c t (O c.j7)) 0 then 7 else if seen.any λy=>K3 y t then 4 else PT c (seen++[t]) r
def BB (c:o9)(x:mc):Int:=if x4 (O x.tables) 0|| !p9 x.keep 1 1048576 then 1 else PT c [] x.tables
set_option maxHeartbeats 8000000 in
def Wp (c:o9)(hf:c.eD)(x:mc)(hx:O x.tables<=1000):Pf A 208 [cat c,bkp x] (.d (Z (BB c x))):=by
 have hn:O c.j7<=1000:=hf.1;refine Pf.gr 5 ?_;refine tc (x4 (O x.tables) 0|| !p9 x.keep 1 1048576) nK (λh1=>?_) (λh1=>?_)
 .refine gr ?_
  exact ⟨_,rfl,by simp only [BB,h1,if_true];rfl⟩
 refine gr ?_;refine Ex.bW (λk T H=>∃(i:Nat) (w0 w1 w4 w6:c7),T=[w0,w1,.ptr 0 0,.ptr 1 0,w4,.d (Z i),w6]/\H=[.cells (c.enc.map .d),.cells (x.enc.map .d)]/\i+k=O x.tables/\BB c x=PT c (x.tables.take i) (x.tables.drop i)) ?_ (k:=O x.tables) ⟨0,_,_,_,_,rfl,rfl,U,by simp [BB,h1]⟩;rintro k _ _ ⟨i,w0,w1,w4,w6,rfl,rfl,hk,hi⟩;refine Ex.nT ?_;refine Ex.seq ?_;refine tl i (O x.tables) (λh3=>?_) (λh3=>?_)
 .rw [C4 V] at hi
  have p1:=LU c (Y x.tables i) (O c.j7) hf V;refine gr ?_;refine tc (D5 (cL c (Y x.tables i) (O c.j7)) 0) p1 (λh4=>?_) (λh4=>?_)
  .refine gr ?_
   exact ⟨_,rfl,by rw [hi];simp only [PT,h4,if_true];rfl⟩
  refine gr ?_;refine Ex.bW (λk T H=>∃(j:Nat) (w0 w1 w4:c7),T=[w0,w1,.ptr 0 0,.ptr 1 0,w4,.d (Z i),.d (Z j)]/\H=[.cells (c.enc.map .d),.cells (x.enc.map .d)]/\j+k=i/\((x.tables.take i).any λy=>K3 y (Y x.tables i))=(((x.tables.take i).drop j).any λy=>K3 y (Y x.tables i))) ?_ (k:=i) ⟨0,_,_,_,rfl,rfl,U,U⟩;rintro k2 _ _ ⟨j,w0,w1,w4,rfl,rfl,hk2,hj⟩;refine Ex.nT ?_;refine Ex.seq ?_;refine tb (D5 j i) (λh5=>?_) (λh5=>?_)
  .have h6:=A7 h5
   rw [gV V V] at hj
   repeat' (first|refine gy ?_|refine ft (λht=>?_) λht=>?_|refine ⟨_,rfl,?_⟩|fail)
   .have g2:((x.tables.take i).any λy=>K3 y (Y x.tables i))=W:=by rw [hj];simp [ht]
    rw [hi];simp only [PT,h4,g2,j5,Z,j6,if_true,if_false]
   .exact ⟨k2 - 1,V,j+1,_,_,_,rfl,rfl,V,by rw [hj];simp [ht]⟩
  have h6:=B8 h5;rw [n5 D] at hj;have g2:((x.tables.take i).any λy=>K3 y (Y x.tables i))=F:=by rw [hj];rfl
  refine gr ?_;refine kk ⟨i+1,_,_,_,_,rfl,rfl,V,?_⟩;rw [hi,E4 V];simp only [PT,h4,g2,j6,if_false]
 .rw [n5 V] at hi
  refine gr ?_;exact ⟨_,rfl,by rw [hi];rfl⟩
def Iy (c:o9)(x:gZ):Int:=if x4 (iN c x.source x.col).2 0&& !x4 (iN c x.source x.col).1 2 then 5 else (iN c x.source x.col).2
def HN (c:o9)(x:jK):Int:=if x4 (iN c x.source x.col).2 0&& !p9 x.ttl 1 1048576 then 1 else (iN c x.source x.col).2
def Jr (c:o9)(x:me):Int:=if D5 (cL c x.table (O c.j7)) 0 then 7 else 0
def S2 (c:o9)(n:Nat):Int :=
 if n<O c.idxs then Iy c (Y c.idxs n)
 else if n - O c.idxs<O c.G7 then xP c (Y c.G7 (n - O c.idxs))
 else if n - O c.idxs - O c.G7<O c.I5 then HN c (Y c.I5 (n - O c.idxs - O c.G7))
 else if n - O c.idxs - O c.G7 - O c.I5<O c.J5 then Dy c (Y c.J5 (n - O c.idxs - O c.G7 - O c.I5))
 else if n - O c.idxs - O c.G7 - O c.I5 - O c.J5<O c.J6 then Jr c (Y c.J6 (n - O c.idxs - O c.G7 - O c.I5 - O c.J5))
 else BB c (Y c.L4 (n - O c.idxs - O c.G7 - O c.I5 - O c.J5 - O c.J6))
set_option maxHeartbeats 16000000 in
def aq4 (c:o9)(hs:E7 c)(ho:pX c (o9.ns c))(hg:∀k,k<O c.views->(Y c.views k).kind≠1\/0<O (Y c.views k).F6)(n:Nat)(hn:n<O c.idxs+O c.G7+O c.I5+O c.J5+O c.J6+O c.L4) :
  Pf A 146 [cat c,.d (Z n)] (.d (Z (S2 c n))):=by
 obtain ⟨f0,f1,f2,f3,f4,f5,f6,f7⟩:=hs.sm.eD;refine Pf.gr 5 ?_;refine tb (D5 n (O c.idxs)) (λh1=>?_) (λh1=>?_)
 .have h1' :=A7 h1
  have p1:=LS c hs ho (Y c.idxs n).source (Y c.idxs n).col;have e1:S2 c n=Iy c (Y c.idxs n):=by unfold S2;rw [if_pos V]
  refine gc p1 ?_;refine tb (x4 (iN c (Y c.idxs n).source (Y c.idxs n).col).2 0&& !x4 (iN c (Y c.idxs n).source (Y c.idxs n).col).1 2) (λh2=>?_) (λh2=>?_)
  .refine gr ?_
   exact ⟨_,rfl,by rw [e1];unfold Iy;rw [h2];rfl⟩
  .refine gr ?_
   exact ⟨_,rfl,by rw [e1];unfold Iy;rw [h2];rfl⟩
 have h1' :=B8 h1;refine gr ?_;generalize Eh:n - O c.idxs=m1;have g1:(n:Int) - (O c.idxs:Int)=(m1:Int):=V
 rw [g1];refine tb (D5 m1 (O c.G7)) (λh3=>?_) (λh3=>?_)
 .have XV :=A7 h3
  have p1:=Wn c hs ho (Y c.G7 m1);have e1:S2 c n=xP c (Y c.G7 m1):=by unfold S2;rw [if_neg V,Eh,if_pos V]
  refine gc p1 ?_;exact ⟨_,rfl,by rw [e1];rfl⟩
 have XV :=B8 h3;refine gr ?_;generalize hm2:m1 - O c.G7=m2;have g2:(m1:Int) - (O c.G7:Int)=(m2:Int):=V
 rw [g2];refine tb (D5 m2 (O c.I5)) (λh4=>?_) (λh4=>?_)
 .have h4' :=A7 h4
  have p1:=LS c hs ho (Y c.I5 m2).source (Y c.I5 m2).col;have e1:S2 c n=HN c (Y c.I5 m2):=by unfold S2;rw [if_neg V,Eh,if_neg V,hm2,if_pos V]
  refine gc p1 ?_;refine tc (x4 (iN c (Y c.I5 m2).source (Y c.I5 m2).col).2 0&& !p9 (Y c.I5 m2).ttl 1 1048576) nK (λh2=>?_) (λh2=>?_)
  .refine gr ?_
   exact ⟨_,rfl,by rw [e1];unfold HN;rw [h2];rfl⟩
  .refine gr ?_
   exact ⟨_,rfl,by rw [e1];unfold HN;rw [h2];rfl⟩
 have h4' :=B8 h4;refine gr ?_;generalize Vx:m2 - O c.I5=m3;have g3:(m2:Int) - (O c.I5:Int)=(m3:Int):=V
 rw [g3];refine tb (D5 m3 (O c.J5)) (λh5=>?_) (λh5=>?_)
 .have h5' :=A7 h5
  have p1:=Wo c hs hg (Y c.J5 m3);have e1:S2 c n=Dy c (Y c.J5 m3):=by unfold S2;rw [if_neg V,Eh,if_neg V,hm2,if_neg V,Vx,if_pos V]
  refine gc p1 ?_;exact ⟨_,rfl,by rw [e1];rfl⟩
 have h5' :=B8 h5;refine gr ?_;generalize hm4:m3 - O c.J5=m4;have g4:(m3:Int) - (O c.J5:Int)=(m4:Int):=V
 rw [g4];refine tb (D5 m4 (O c.J6)) (λh6=>?_) (λh6=>?_)
 .have h6' :=A7 h6
  have p1:=LU c (Y c.J6 m4).table (O c.j7) hs.sm.eD V;have e1:S2 c n=Jr c (Y c.J6 m4):=by unfold S2;rw [if_neg V,Eh,if_neg V,hm2,if_neg V,Vx,if_neg V,hm4,if_pos V]
  refine gr ?_;refine tc (D5 (cL c (Y c.J6 m4).table (O c.j7)) 0) p1 (λh2=>?_) (λh2=>?_)
  .refine gr ?_
   exact ⟨_,rfl,by rw [e1];unfold Jr;rw [h2];rfl⟩
  .refine gr ?_
   exact ⟨_,rfl,by rw [e1];unfold Jr;rw [h2];rfl⟩
 have h6' :=B8 h6;have hb:=hs.bk (m4 - O c.J6) V;have p1:=Wp c hs.sm.eD (Y c.L4 (m4 - O c.J6)) hb;have e1:S2 c n=BB c (Y c.L4 (m4 - O c.J6)):=by unfold S2;rw [if_neg V,Eh,if_neg V,hm2,if_neg V,Vx,if_neg V,hm4,if_neg V]
 repeat' (first|refine cl (p1) ?_|refine VV (e:=(m4:Int) - (O c.J6:Int)) (m4 - O c.J6) (h2:=?_)|refine gx ?_|fail)
 exact ⟨_,rfl,by rw [e1];rfl⟩
def Ex.XI {A:Go.y9.Prog}{l:F9}{b:Nat}{c:K7}{st:St}{Q:G6->St->Prop}(P:St->Prop)(h1:Ex A l b c st (jO (λ_ _=>False) P))(h2:∀s,P s->Q .normal s):Ex A l b c st Q:=by
 refine h1.mono λx s h=>?_
 cases x with
 |normal=>exact h2 s h
 |exit i=>exact h.elim
 |ret=>exact h.elim
def yV (a b c d e f:Int):Bool:=D5 16 a||D5 16 b||D5 16 c||D5 16 d||D5 16 e||D5 16 f
def tooMany (c:o9):Bool:=D5 8 (O c.j7)||D5 12 (O c.views)||yV (O c.idxs) (O c.G7) (O c.I5) (O c.J5) (O c.J6) (O c.L4)
def max2 (x y:Int):Int:=if y>x then y else x
def OA (x y:Int):D5 16 (max2 x y)=(D5 16 x||D5 16 y):=by
 grind [max2,y4,decide]
def Lt (a b c d e f:Int):D5 16 (max2 (max2 (max2 (max2 (max2 a b) c) d) e) f)=yV a b c d e f:=by
 simp [OA,yV]
def M5 (c:o9)(i:Nat):Int :=
 if !J3 (Y c.names i) then 3 else if (c.names.take i).any λy=>K3 y (Y c.names i) then 4
 else if i<O c.j7 then bF c i else if i<o9.ns c then S4 c i else S2 c (i - o9.ns c)
def dR (c:o9):Nat->Nat->Int×Int
 |0,_=>(0,0)
 |k+1,i=>if !x4 (M5 c i) 0 then (i,M5 c i) else dR c k (i+1)
def R3 (c:o9):Int×Int:=if tooMany c then (0,8) else dR c (O c.names) 0
theorem uT {c:o9}{m:Nat}(h:M5 c m=0):(!J3 (Y c.names m))=F/\((c.names.take m).any λy=>K3 y (Y c.names m))=F:=by
 grind [M5,J3,Y,K3]
def S1 {c:o9}{m:Nat}(h:M5 c m=0)(hm:m<O c.j7):bF c m=0:=by
 grind [M5]
def bz {c:o9}{m:Nat}(h:M5 c m=0)(hm:O c.j7<=m)(hm2:m<o9.ns c):S4 c m=0:=by
 grind [M5]
theorem cg {c:o9}{m:Nat}(h:bF c m=0):0<O (Y c.j7 m).o7/\O (Y c.j7 m).o7<=8:=by
 grind [bF,p9,x6]
def eC {c:o9}{m:Nat}(h:S4 c m=0):p9 (T1 c m).kind 0 2=W/\0<=E5 c (T1 c m).left m/\(K3 (T1 c m).right []=F->0<=E5 c (T1 c m).right m)/\Y6 (T1 c m)=W:=by
 unfold S4 at h;split at h
 .omega
 .split at h
  .omega
  .split at h
   all_goals simp_all [Bool.not_eq_true,C7,B8]
def zw {v:Vw}(h:Y6 v=W):v.kind≠1\/0<O v.F6:=by
 cases h1:x4 v.kind 1 with
 |false=>simp_all [jF]
 |true =>
  grind [Y6,x4]
def gR (c:o9)(i:Nat):Prop:=∀m,m<i->M5 c m=0
def fS {c:o9}{i:Nat}(h:gR c i)(hi:i<=o9.ns c):pX c i:=λk h1 h2=>by
 have:=eC (bz (h k h2) h1 V);exact ⟨this.2.1,this.2.2.1⟩
def bB (c:o9):O c.names=o9.ns c+(O c.idxs+O c.G7+O c.I5+O c.J5+O c.J6+O c.L4):=by simp [o9.names,o9.ns];omega
set_option maxHeartbeats 16000000 in
def ap8 (c:o9)(hs:E7 c):Pf A 95 [cat c] (pair (R3 c)):=by
 have hnl:=bB c;have aa:o9.ns c=O c.j7+O c.views:=rfl;obtain ⟨f0,f1,f2,f3,f4,f5,f6,f7⟩:=id hs.sm.eD;have Yc:=Lt (O c.idxs) (O c.G7) (O c.I5) (O c.J5) (O c.J6) (O c.L4);refine Pf.gr 7 ?_;refine tB (tooMany c) ?_ (λh1=>?_) (λh1=>?_)
 .repeat' (first|refine mm (d:= .int .i64 (max2 (max2 (max2 (max2 (max2 (O c.idxs) (O c.G7)) (O c.I5)) (O c.J5)) (O c.J6)) (O c.L4))) ?_|refine gx ?_|refine fq (λhw=>?_) λhw=>?_|refine ⟨rfl,rfl,_,rfl,?_⟩|refine ⟨rfl,rfl⟩|fail)
  all_goals first|(simp [*,j5,tooMany,Yc];done)|(simp_all [j5,tooMany,Yc];done)|(simp_all [j5,tooMany,Yc,y4,x6,o6,F3];done)|(simp_all [j5,tooMany,Yc,y4,x6,o6,F3]<;>omega)
 .refine gr ?_
  exact ⟨_,rfl,by unfold R3;rw [h1];rfl⟩
 refine gc (WY c hs.sm.eD) ?_;refine Ex.bW (λk T H=>∃(i:Nat) (w0 w2 w3 w6 w7:c7),T=[w0,.ptr 0 0,w2,w3,.d (s7 encS c.names),.d (Z i),w6,w7]/\H=[.cells (c.enc.map .d)]/\i+k=O c.names/\gR c i/\R3 c=dR c k i) ?_ (k:=O c.names) ⟨0,_,_,_,_,_,rfl,rfl,U,λm h=>absurd h V,by unfold R3;rw [h1];rfl⟩;rintro k _ _ ⟨i,w0,w2,w3,w6,w7,rfl,rfl,hk,hok,hi⟩;refine Ex.nT ?_;refine Ex.seq ?_;refine tl i (O c.names) (λh3=>?_) (λh3=>?_)
 .obtain ⟨k,rfl⟩:∃k',k=k' +1:=⟨k - 1,V⟩
  rw [dR] at hi;refine gr ?_;refine tc (!J3 (Y c.names i)) Te (λh4=>?_) (λh4=>?_)
  .refine gr ?_
   have e1:M5 c i=3:=by unfold M5;rw [h4];rfl
   exact ⟨_,rfl,by rw [hi,e1];simp [o6,pair,j5,c7.I7,Z]⟩
  refine gr ?_;refine Ex.bW (λk T H=>∃(j:Nat) (w0 w2 w3 w7:c7),T=[w0,.ptr 0 0,w2,w3,.d (s7 encS c.names),.d (Z i),.d (Z j),w7]/\H=[.cells (c.enc.map .d)]/\j+k=i/\((c.names.take i).any λy=>K3 y (Y c.names i))=(((c.names.take i).drop j).any λy=>K3 y (Y c.names i))) ?_ (k:=i) ⟨0,_,_,_,_,rfl,rfl,U,U⟩;rintro k2 _ _ ⟨j,w0,w2,w3,w7,rfl,rfl,hk2,hj⟩;refine Ex.nT ?_;refine Ex.seq ?_;refine tb (D5 j i) (λh5=>?_) (λh5=>?_)
  .have h6:=A7 h5
   rw [gV V V] at hj
   repeat' (first|refine gy ?_|refine ft (λht=>?_) λht=>?_|refine ⟨_,rfl,?_⟩|fail)
   .have g2:((c.names.take i).any λy=>K3 y (Y c.names i))=W:=by rw [hj];simp [ht]
    have e1:M5 c i=4:=by unfold M5;rw [h4,g2];rfl
    rw [hi,e1];simp [o6,pair,j5,c7.I7,Z]
   .exact ⟨k2 - 1,V,j+1,_,_,_,_,rfl,rfl,V,by rw [hj];simp [ht]⟩
  have h6:=B8 h5;rw [n5 D] at hj;have g2:((c.names.take i).any λy=>K3 y (Y c.names i))=F:=by rw [hj];rfl
  clear hj hk2 h5 h6;refine gr ?_;refine Ex.XI (λs=>∃(w0 w2 w3 w6:c7),s=⟨[w0,.ptr 0 0,w2,w3,.d (s7 encS c.names),.d (Z i),w6,.d (Z (M5 c i))],[.cells (c.enc.map .d)]⟩) ?_ ?_
  .skip
   refine tb (D5 i (O c.j7)) (λh5=>?_) (λh5=>?_)
   .have h6:=A7 h5
    have p1:=aq2 c i hs.sm V (λm hm=>(cg (S1 (hok m hm) V)).1);have e1:M5 c i=bF c i:=by unfold M5;rw [h4,g2,if_neg U,if_neg U,if_pos V]
    rw [e1];refine gc p1 ?_;exact ⟨_,_,_,_,rfl⟩
   have h6:=B8 h5;refine tc (D5 i (o9.ns c)) aa (λh7=>?_) (λh7=>?_)
   .have h8:=A7 h7
    have p1:=aq3 c hs i V V (fS hok V);have e1:M5 c i=S4 c i:=by unfold M5;rw [h4,g2,if_neg U,if_neg U,if_neg V,if_pos V]
    rw [e1];refine gc p1 ?_;exact ⟨_,_,_,_,rfl⟩
   .have h8:=B8 h7
    have p1:=aq4 c hs (fS (λm hm=>hok m V) (j9 _)) (λm hm=>by
     have h9:=eC (bz (hok (m+O c.j7) V) V V);have RO:T1 c (m+O c.j7)=Y c.views m:=by unfold T1;rw [Nat.add_sub_cancel]
     rw [RO] at h9;exact zw h9.2.2.2) (i - o9.ns c) V
    have e1:M5 c i=S2 c (i - o9.ns c):=by unfold M5;rw [h4,g2,if_neg U,if_neg U,if_neg V,if_neg V]
    rw [e1];refine gr ?_;refine cl p1 ?_ (ha:=by rw [show ((i - o9.ns c:Nat):Int)=(i:Int) - (O c.j7:Int) - (O c.views:Int) by omega];rfl);refine gr ?_;exact ⟨_,_,_,_,rfl⟩
  rintro _ ⟨w0,w2,w3,w6,rfl⟩;refine gr ?_;refine tb (!x4 (M5 c i) 0) (λh5=>?_) (λh5=>?_)
  .refine gr ?_
   exact ⟨_,rfl,by rw [hi,h5];rfl⟩
  .refine gr ?_
   refine ⟨k,V,i+1,_,_,_,_,_,rfl,rfl,V,λm hm=>?_,by rw [hi,h5];rfl⟩
   rcases y7 m i with h6|h6
   .exact hok m h6
   .obtain rfl:m=i:=V
    exact W6 (by simpa using h5)
 .obtain rfl:k=0:=V
  refine gr ?_;exact ⟨_,rfl,by rw [hi];rfl⟩
end Go.Proofs.YtibjocmpkoepoaaGreat


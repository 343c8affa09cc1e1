import Derived.Test.YtibjocmpkoepoaaGreatD0
set_option linter.all false
open Bool renaming false_eq_true→j6,not_eq_false'→B7,not_eq_true'→o9,or_eq_false_iff→B2,true→W,false→F
open Int renaming toNat_natCast→G6
open List renaming drop_of_length_le→n5,take_of_length_le→s9,length→O
open Nat renaming le_refl→k9,lt_or_ge→y8
open Option renaming some→J,none→K
namespace Go.Proofs.YtibjocmpkoepoaaGreat
open Go.z6 Go.z6.S
attribute [local irreducible] Rx Ry Rn Ex Pf
structure D9 (c:p7):Prop where
 sm:p7.small c
 items:∀k,k<O c.views->O (Y c.views k).items<=1000
 E3:∀k,k<O c.views->O (Y c.views k).E3<=1000
 on:∀k,k<O c.views->O (Y c.views k).on<=1000
 wh:∀k,k<O c.views->O (Y c.views k).wh<=1000
 DB:∀k i,k<O c.views->i<O (Y c.views k).items->O (Y (Y c.views k).items i).expr<=1000
 La:∀k i,k<O c.views->i<O (Y c.views k).E3->O (Y (Y c.views k).E3 i).expr<=1000
 bk:∀k,k<O c.K6->O (Y c.K6 k).tables<=1000
def sI (ty:List Int)(a:uc):Int:=if s7 a.func 0||s7 a.func 1 then 1 else (K4 a.expr ty).1
def X7 (v:Vw)(ty:List Int):List Int:=v.items.map (λx=>(K4 x.expr ty).1)++v.E3.map (sI ty)
def wA (c:p7)(prev:List (List Int))(v:Vw)(k:Nat):List Int:=Y prev (F0 c v.left k).toNat++(if K7 v.right [] then [] else Y prev (F0 c v.right k).toNat)
def fC (c:p7)(prev:List (List Int))(k:Nat):List Int :=
 if k<O c.j7 then (Y c.j7 k).o4.map Q1.type
 else if s7 (Y c.views (k - O c.j7)).kind 2 then Y prev (F0 c (Y c.views (k - O c.j7)).left k).toNat
 else X7 (Y c.views (k - O c.j7)) (wA c prev (Y c.views (k - O c.j7)) k)
def ki (c:p7):Nat->List (List Int)
 |0=>[]
 |k+1=>ki c k++[fC c (ki c k) k]
def M3 (c:p7)(k:Nat):List Int:=fC c (ki c k) k
def ins (c:p7)(k:Nat):List Int:=wA c (ki c k) (Y c.views (k - O c.j7)) k
theorem EW (c:p7):∀k,O (ki c k)=k
 |0=>rfl
 |k+1=>by simp [ki,EW c k]
theorem S4 (c:p7):∀{k j:Nat},j<k->Y (ki c k) j=M3 c j
 |k+1,j,h=>by
  have hl:=EW c k
  rcases y8 j k with h1|h1
  .rw [<- S4 c h1,ki,A7 D,A7 V,List.getElem_append_left V]
  grind [ki,A7,List.getElem_append_right,M3]
def qP (c:p7)(n:Nat):Prop:=∀k,O c.j7<=k->k<n->0<=F0 c (Y c.views (k - O c.j7)).left k/\(K7 (Y c.views (k - O c.j7)).right []=F->0<=F0 c (Y c.views (k - O c.j7)).right k)
theorem J8 (c:p7)(name:I4)(n:Nat):F0 c name n= -1\/(0<=F0 c name n/\F0 c name n<n/\F0 c name n<p7.ns c):=by
 grind [F0,dR,p7.sn,S3]
theorem aX {c:p7}(hs:D9 c):∀(n k:Nat),k<n->n<=p7.ns c->qP c n->O (M3 c k)<=2000
 |0,k,h,_,_=>absurd h V
 |n+1,k,h,hn,ho=>by
  rcases y8 k n with h1|h1
  .exact aX hs n k h1 V (λk h1 h2=>ho k h1 V)
  unfold M3 fC;split
  next h2=>
   have:=hs.sm.o4 k h2;simp;omega
  .have hv:k - O c.j7<O c.views:=by grind [p7.ns]
   split
   .have h3:=(ho k V V).1
    rcases J8 c (Y c.views (k - O c.j7)).left k with h4|h4
    .omega
    .rw [S4 c V]
     exact aX hs k _ V V (λk h1 h2=>ho k h1 V)
   .have h5:=hs.items _ hv
    have h6:=hs.E3 _ hv
    grind [X7]
set_option maxHeartbeats 8000000 in
theorem gH (c:p7)(hs:D9 c):∀(n s:Nat),s<n->n<=p7.ns c->qP c n->Pf A 54 [cat c,.d (Z s)] (.d (ints (M3 c s)))/\(O c.j7<=s->Pf A 113 [cat c,.d (Z s)] (.d (ints (ins c s))))
 |0,s,h,_,_=>absurd h V
 |n+1,s,h,hn,ho=>by
  have aO:p7.ns c<=2000:=by obtain ⟨f0,f1,_⟩:=hs.sm.dP;unfold p7.ns;omega
  have TI:p7.ns c=O c.j7+O c.views:=rfl
  rcases y8 s n with h1|h1
  .exact gH c hs n s h1 V (λk h1 h2=>ho k h1 V)
  obtain rfl:s=n:=V
  have ih:∀k,k<s->Pf A 54 [cat c,.d (Z k)] (.d (ints (M3 c k))):=λk hk=>(gH c hs s k hk V (λk h1 h2=>ho k h1 V)).1
  have hlen:∀k,k<s->O (M3 c k)<=2000:=λk hk=>aX hs s k hk V (λk h1 h2=>ho k h1 V)
  have hin:O c.j7<=s->Pf A 113 [cat c,.d (Z s)] (.d (ints (ins c s))):=λht=>by
   have hv:s - O c.j7<O c.views:=V
   obtain ⟨o1,o2⟩:=ho s ht V;have b1:=J8 c (Y c.views (s - O c.j7)).left s;have b2:=J8 c (Y c.views (s - O c.j7)).right s;obtain ⟨q1,e1⟩:∃q:Nat,F0 c (Y c.views (s - O c.j7)).left s=q:=⟨_,(Int.toNat_of_nonneg o1).symm⟩;have p1:=Bz c (Y c.views (s - O c.j7)).left s hs.sm.dP V;have p2:=Bz c (Y c.views (s - O c.j7)).right s hs.sm.dP V;rw [e1] at p1;have l1:=hlen q1 V;have t1:=ih q1 V;refine Pf.go 4 ?_
   repeat' (first|refine VB (e:=(s:Int) - (O c.j7:Int)) (s - O c.j7) (h2:=?_)|refine gx ?_|fail)
   refine gc (And.intro p1 t1) ?_;refine tb (!K7 (Y c.views (s - O c.j7)).right []) (λh2=>?_) (λh2=>?_)
   .simp only [o9] at h2
    obtain ⟨q2,e2⟩:∃q:Nat,F0 c (Y c.views (s - O c.j7)).right s=q:=⟨_,(Int.toNat_of_nonneg (o2 h2)).symm⟩;rw [e2] at p2;have l2:=hlen q2 V;have t2:=ih q2 V;refine gc (And.intro p2 t2) ?_;refine ⟨_,rfl,?_⟩;simp only [ins,wA,e1,e2,G6,h2,j6,if_false];rw [S4 c V,S4 c V];rfl
   .simp only [B7] at h2
    refine gr ?_;refine ⟨_,rfl,?_⟩;simp only [ins,wA,e1,G6,h2,if_true];rw [S4 c V];simp [j4,ints,x3]
  refine ⟨?_,hin⟩;refine Pf.gr 10 ?_;refine tb (D0 s (O c.j7)) (λh2=>?_) (λh2=>?_)
  .have h3:=A5 h2
   have hcl:=hs.sm.o4 s V;refine gr ?_;refine Ex.J1 (λk T H=>∃(i:Nat) (acc:List Int),T=[.any,.d (Z s),.ptr 0 0,.any,A8 1 (λn=>[Z n]) acc,.d (Z i),.any,.any,.any,.any,.any,.any]/\H=[.cells (c.enc.map .d)]/\i+k=O (Y c.j7 s).o4/\acc=((Y c.j7 s).o4.take i).map Q1.type) ?_ (k:=O (Y c.j7 s).o4) ⟨0,[],rfl,rfl,U,U⟩;rintro k _ _ ⟨i,acc,rfl,rfl,hk,hacc⟩;have hl:O acc=i:=by rw [hacc];simp;omega
   repeat' (first|refine gy ?_|refine ft (λht=>?_) λht=>?_|refine ⟨_,rfl,?_⟩|fail)
   .have h4:=A5 ht
    refine kk ⟨i+1,acc++[(Y (Y c.j7 s).o4 i).type],rfl,rfl,V,?_⟩;rw [D2 V,hacc];simp
   .have h4:=A9 ht
    rw [s9 V] at hacc;simp only [M3,fC];rw [if_pos V,<- hacc];rfl
  have h3:=A9 h2;have hv:s - O c.j7<O c.views:=V
  obtain ⟨o1,o2⟩:=ho s V V;have b1:=J8 c (Y c.views (s - O c.j7)).left s;have b2:=J8 c (Y c.views (s - O c.j7)).right s;obtain ⟨q1,e1⟩:∃q:Nat,F0 c (Y c.views (s - O c.j7)).left s=q:=⟨_,(Int.toNat_of_nonneg o1).symm⟩;have p1:=Bz c (Y c.views (s - O c.j7)).left s hs.sm.dP V;rw [e1] at p1;have l1:=hlen q1 V;have t1:=ih q1 V;have xZ:O (ins c s)<=4000:=by
   simp only [ins,wA,e1,G6];rw [S4 c V];cases h5:K7 (Y c.views (s - O c.j7)).right [] with
   |true=>simp;omega
   |false =>
    have h6:=o2 h5;have h7:=hlen (F0 c (Y c.views (s - O c.j7)).right s).toNat V;rw [S4 c V];simp;omega
  have hi1:=hs.items _ hv;have hi2:=hs.E3 _ hv
  repeat' (first|refine VB (e:=(s:Int) - (O c.j7:Int)) (s - O c.j7) (h2:=?_)|refine gx ?_|fail)
  refine tb (s7 (Y c.views (s - O c.j7)).kind 2) (λh4=>?_) (λh4=>?_)
  .refine gc (And.intro p1 t1) ?_
   refine ⟨_,rfl,?_⟩;have WC:M3 c s=Y (ki c s) q1:=by
    unfold M3 fC;rw [if_neg V,h4,if_pos rfl,e1];rfl
   rw [WC,S4 c V];rfl
  refine gc (hin V) ?_;refine Ex.J1 (λk T H=>∃(i:Nat) (acc:List Int),T=[.any,.any,.any,.any,A8 1 (λn=>[Z n]) acc,.any,.ptr 1 0,.d (ints (ins c s)),.d (Z i),.any,.any,.any]/\H=[.cells (c.enc.map .d),.cells ((Y c.views (s - O c.j7)).enc.map .d)]/\i+k=O (Y c.views (s - O c.j7)).items/\acc=((Y c.views (s - O c.j7)).items.take i).map λx=>(K4 x.expr (ins c s)).1) ?_ (k:=O (Y c.views (s - O c.j7)).items) ⟨0,[],rfl,rfl,U,U⟩;rintro k _ _ ⟨i,acc,rfl,rfl,hk,hacc⟩;have hl:O acc=i:=by rw [hacc];simp;omega
  refine Ex.seq ?_;refine tb (D0 i (O (Y c.views (s - O c.j7)).items)) (λh5=>?_) (λh5=>?_)
  .have h6:=A5 h5
   refine gc (Ir (Y (Y c.views (s - O c.j7)).items i).expr (ins c s) (hs.DB (s - O c.j7) i hv V) V) ?_;refine kk ⟨i+1,acc++[(K4 (Y (Y c.views (s - O c.j7)).items i).expr (ins c s)).1],rfl,rfl,V,?_⟩;rw [D2 V,hacc];simp
  have h6:=A9 h5;rw [s9 V] at hacc;clear h5 h6 hk hl;refine gr ?_;have hl0:O acc<=1000:=by rw [hacc];simp;omega
  refine Ex.J1 (λk T H=>∃(i:Nat) (IM:List Int),T=[.any,.any,.any,.any,A8 1 (λn=>[Z n]) IM,.any,.ptr 1 0,.d (ints (ins c s)),.any,.any,.d (Z i),.any]/\H=[.cells (c.enc.map .d),.cells ((Y c.views (s - O c.j7)).enc.map .d)]/\i+k=O (Y c.views (s - O c.j7)).E3/\IM=acc++((Y c.views (s - O c.j7)).E3.take i).map (sI (ins c s))) ?_ (k:=O (Y c.views (s - O c.j7)).E3) ⟨0,acc,rfl,rfl,U,U⟩;rintro k _ _ ⟨i,IM,rfl,rfl,hk,De⟩;have hl:O IM=O acc+i:=by rw [De];simp;omega
  refine Ex.seq ?_;refine tb (D0 i (O (Y c.views (s - O c.j7)).E3)) (λh5=>?_) (λh5=>?_)
  .have h6:=A5 h5
   refine gc (Ir (Y (Y c.views (s - O c.j7)).E3 i).expr (ins c s) (hs.La (s - O c.j7) i hv V) V) ?_;refine tb (s7 (Y (Y c.views (s - O c.j7)).E3 i).func 0||s7 (Y (Y c.views (s - O c.j7)).E3 i).func 1) (λh7=>?_) (λh7=>?_)
   .refine gr ?_
    refine kk ⟨i+1,IM++[1],rfl,rfl,V,?_⟩;rw [D2 V,De];simp [sI,h7]
   .refine gr ?_
    refine kk ⟨i+1,IM++[(K4 (Y (Y c.views (s - O c.j7)).E3 i).expr (ins c s)).1],rfl,rfl,V,?_⟩;rw [D2 V,De];simp [sI,h7]
  .have h6:=A9 h5
   rw [s9 V] at De;refine gr ?_;refine ⟨_,rfl,?_⟩;simp only [M3,fC];rw [if_neg V,h4,if_neg U];simp only [X7];rw [show wA c (ki c s) (Y c.views (s - O c.j7)) s=ins c s from rfl,<- hacc,<- De];rfl
structure yV where
 agg:Bool
 name:I4
 f:Int
 expr:List Q9
instance:Inhabited yV:=⟨⟨F,[],0,[]⟩⟩
def aM (v:Vw):List yV:=v.items.map (λx=>⟨F,x.name, -1,x.expr⟩)++v.E3.map (λx=>⟨W,x.name,x.func,x.expr⟩)
def W3 (ty:List Int):List I4->List yV->Int
 |_,[]=>0
 |seen,e::r =>
  if !K1 e.name then 3
  else if seen.any λy=>K7 y e.name then 4
  else if e.agg&&(!p9 e.f 0 4||(s7 e.f 0&&D0 0 (O e.expr))) then 1
  else if e.agg&&s7 e.f 0 then W3 ty (seen++[e.name]) r
  else if !s7 (K4 e.expr ty).2 0 then (K4 e.expr ty).2
  else if e.agg&&s7 e.f 1&& !s7 (K4 e.expr ty).1 1 then 5
  else W3 ty (seen++[e.name]) r
def iV (v:Vw):O (aM v)=O v.items+O v.E3:=by simp [aM]
def rG (v:Vw){i:Nat}(h:i<O v.items):Y (aM v) i=⟨F,(Y v.items i).name, -1,(Y v.items i).expr⟩:=by
 rw [A7 (by rw [iV];omega),A7 h];simp [aM,List.getElem_append_left,h]
def vN (v:Vw){i:Nat}(h:O v.items<=i)(h2:i<O v.items+O v.E3):Y (aM v) i=⟨W,(Y v.E3 (i - O v.items)).name,(Y v.E3 (i - O v.items)).func,(Y v.E3 (i - O v.items)).expr⟩:=by
 rw [A7 (by rw [iV];omega),A7 V];simp [aM,List.getElem_append_right,h]
def Jh (v:Vw){i:Nat}(h:i<O v.items+O v.E3):(Y (aM v) i).agg=U4 (O v.items) i:=by
 rcases y8 i (O v.items) with h1|h1
 .rw [rG v h1];simp [r7];omega
 .rw [vN v h1 h];simp [r7];omega
set_option maxHeartbeats 16000000 in
def XW (v:Vw)(ty:List Int)(h0:O v.items<=1000)(h1:O v.E3<=1000)(h2:O ty<=100000)(h3:∀i,i<O v.items->O (Y v.items i).expr<=1000)(h4:∀i,i<O v.E3->O (Y v.E3 i).expr<=1000) :
  Pf A 203 [vw v,.d (ints ty)] (.d (Z (W3 ty [] (aM v)))):=by
 have hel:=iV v;refine Pf.gr 11 ?_;refine Ex.L4 (λk T H=>∃(i:Nat) (seen:List I4),T=[.any,.d (ints ty),.ptr 0 0,.any,A8 1 (λs=>[.str s]) seen,.d (Z i),.any,.any,.any,.any,.any,.any,.any]/\H=[.cells (v.enc.map .d)]/\i+k=O (aM v)/\O seen=i/\W3 ty [] (aM v)=W3 ty seen ((aM v).drop i)) ?_ (k:=O (aM v)) ⟨0,[],rfl,rfl,U,rfl,U⟩;rintro k _ _ ⟨i,seen,rfl,rfl,hk,KL,hi⟩;refine Ex.seq ?_;refine tc (D0 i (O (aM v))) hel (λh5=>?_) (λh5=>?_)
 .have h6:=A5 h5
  have hix:i<O v.items+O v.E3:=V
  rw [C5 V] at hi;have hfl:=Jh v hix;refine gr ?_;refine Ex.xG (λs=>∃(f:Int) (H2:k8) (w9:c7),s=⟨[.any,.d (ints ty),.ptr 0 0,.any,A8 1 (λs=>[.str s]) seen,.d (Z i),.d (.str (Y (aM v) i).name),.d (Z (Y (aM v) i).f),.d (x3 Q9.enc (Y (aM v) i).expr),w9,.any,.any,.any],.cells (v.enc.map .d)::H2⟩/\O (Y (aM v) i).expr<=1000) ?_ ?_
  .skip
   refine tl i (O v.items) (λh8=>?_) (λh8=>?_)
   .have he:=h3 i V
    rw [rG v V];refine gr ?_;exact ⟨-1,_,_,rfl,he⟩
   .have he:=h4 (i - O v.items) V
    rw [vN v V hix]
    repeat' (first|refine VB (e:=(i:Int) - (O v.items:Int)) (i - O v.items) (h2:=?_)|refine gx ?_|fail)
    exact ⟨0,_,_,rfl,he⟩
  rintro _ ⟨f,H2,w9,rfl,he⟩;generalize TB:Y (aM v) i=en at *
  obtain ⟨ag,nm,ef,ex⟩:=en;simp only at *
  subst hfl;have Xd:=Ir ex ty he h2;refine gr ?_;refine tc (!K1 nm) Uu (λg1=>?_) (λg1=>?_)
  .refine gr ?_
   exact ⟨_,rfl,by rw [hi];simp only [W3,g1,j4,Z,if_true]⟩
  refine gr ?_;refine Ex.Y1 (λk T H=>∃(j:Nat) (w0 w3 w9 uy uz:c7),T=[w0,.d (ints ty),.ptr 0 0,w3,A8 1 (λs=>[.str s]) seen,.d (Z i),.d (.str nm),.d (Z ef),.d (x3 Q9.enc ex),w9,.d (Z j),uy,uz]/\H= .cells (v.enc.map .d)::H2/\j+k=O seen/\(seen.any λy=>K7 y nm)=((seen.drop j).any λy=>K7 y nm)) ?_ (k:=O seen) ⟨0,_,_,_,_,_,rfl,rfl,U,U⟩;rintro k2 _ _ ⟨j,w0,w3,w9,uy,uz,rfl,rfl,hk2,hj⟩;refine Ex.nT ?_;refine Ex.seq ?_;refine tb (D0 j (O seen)) (λg0=>?_) (λg0=>?_)
  .have g00:=A5 g0
   rw [C5 V] at hj
   repeat' (first|refine gy ?_|refine ft (λht=>?_) λht=>?_|refine ⟨_,rfl,?_⟩|fail)
   .have g2:(seen.any λy=>K7 y nm)=W:=by rw [hj];simp [ht]
    rw [hi];simp only [W3,g1,g2,j4,Z,j6,if_true,if_false]
   .exact ⟨k2 - 1,V,j+1,_,_,_,_,_,rfl,rfl,V,by rw [hj];simp [ht]⟩
  have g00:=A9 g0;rw [n5 V] at hj;have g2:(seen.any λy=>K7 y nm)=F:=by rw [hj];rfl
  clear hj hk2 g0 g00;refine gr ?_;refine tc (U4 (O v.items) i&&(!p9 ef 0 4||(s7 ef 0&&D0 0 (O ex)))) oP (λg3=>?_) (λg3=>?_)
  .refine gr ?_
   exact ⟨_,rfl,by rw [hi];simp only [W3,g1,g2,g3,j4,Z,j6,if_true,if_false]⟩
  refine gr ?_;refine tb (U4 (O v.items) i&&s7 ef 0) (λg4=>?_) (λg4=>?_)
  .refine gr ?_
   exact kk ⟨_,_,rfl,i+1,seen++[nm],rfl,rfl,V,by simp [KL],by rw [hi];simp only [W3,g1,g2,g3,g4,j6,if_true,if_false]⟩
  refine gc Xd ?_;refine tb (!s7 (K4 ex ty).2 0) (λg5=>?_) (λg5=>?_)
  .refine gr ?_
   exact ⟨_,rfl,by rw [hi];simp only [W3,g1,g2,g3,g4,g5,j4,j6,if_true,if_false]⟩
  refine gr ?_;refine tb (U4 (O v.items) i&&s7 ef 1&& !s7 (K4 ex ty).1 1) (λg6=>?_) (λg6=>?_)
  .refine gr ?_
   exact ⟨_,rfl,by rw [hi];simp only [W3,g1,g2,g3,g4,g5,g6,j4,Z,j6,if_true,if_false]⟩
  .refine gr ?_
   exact kk ⟨_,_,rfl,i+1,seen++[nm],rfl,rfl,V,by simp [KL],by rw [hi];simp only [W3,g1,g2,g3,g4,g5,g6,j6,if_true,if_false]⟩
 .have h6:=A9 h5
  rw [n5 V] at hi;refine gr ?_;exact ⟨_,rfl,by rw [hi];rfl⟩
def T7 (c:p7)(k:Nat):Vw:=Y c.views (k - O c.j7)
def lT (c:p7)(k:Nat):List Int:=Y (ki c k) (F0 c (T7 c k).left k).toNat
def rT (c:p7)(k:Nat):List Int:=if K7 (T7 c k).right [] then [] else Y (ki c k) (F0 c (T7 c k).right k).toNat
def T1 (c:p7)(k:Nat):Int :=
 if !p9 (T7 c k).kind 0 2 then 1
 else if D0 (F0 c (T7 c k).left k) 0||(!K7 (T7 c k).right []&&D0 (F0 c (T7 c k).right k) 0) then 7
 else if !Z6 (T7 c k) then 1
 else if s7 (T7 c k).kind 2 then (if !dh s7 (lT c k) (rT c k) then 5 else 0)
 else if !s7 (L8 (lT c k) (rT c k) (T7 c k).on) 0 then L8 (lT c k) (rT c k) (T7 c k).on
 else if D0 0 (O (T7 c k).wh)&& !s7 (K4 (T7 c k).wh (ins c k)).2 0 then (K4 (T7 c k).wh (ins c k)).2
 else if D0 0 (O (T7 c k).wh)&& !s7 (K4 (T7 c k).wh (ins c k)).1 1 then 5
 else W3 (ins c k) [] (aM (T7 c k))
set_option maxHeartbeats 16000000 in
def ay0 (c:p7)(hs:D9 c)(k:Nat)(hk:O c.j7<=k)(hk2:k<p7.ns c)(ho:qP c k):Pf A 145 [cat c,.d (Z k)] (.d (Z (T1 c k))):=by
 have aO:p7.ns c<=2000:=by obtain ⟨f0,f1,_⟩:=hs.sm.dP;unfold p7.ns;omega
 have TI:p7.ns c=O c.j7+O c.views:=rfl;have hv:k - O c.j7<O c.views:=V
 have Vv:O (T7 c k).items<=1000:=hs.items _ hv;have Vx:O (T7 c k).E3<=1000:=hs.E3 _ hv;have hv3:O (T7 c k).on<=1000:=hs.on _ hv;have hv4:O (T7 c k).wh<=1000:=hs.wh _ hv;have tj:Y c.views (k - O c.j7)=T7 c k:=rfl;have p1:=Bz c (T7 c k).left k hs.sm.dP V;have p2:=Bz c (T7 c k).right k hs.sm.dP V;have p3:=ay6 c (T7 c k) Vv Vx;have b1:=J8 c (T7 c k).left k;have b2:=J8 c (T7 c k).right k;refine Pf.go 11 ?_
 repeat' (first|refine VB (e:=(k:Int) - (O c.j7:Int)) (k - O c.j7) (h2:=?_)|refine gx ?_|fail)
 rw [tj];refine tc (!p9 (T7 c k).kind 0 2) oP (λh1=>?_) (λh1=>?_)
 .refine gr ?_
  exact ⟨_,rfl,by unfold T1;rw [h1];rfl⟩
 refine gc (And.intro p1 p2) ?_;refine tb (D0 (F0 c (T7 c k).left k) 0||(!K7 (T7 c k).right []&&D0 (F0 c (T7 c k).right k) 0)) (λh2=>?_) (λh2=>?_)
 .refine gr ?_
  exact ⟨_,rfl,by unfold T1;rw [h1,h2];rfl⟩
 have OK :=h2;simp only [B2] at OK;have f1:=A9 OK.1;have f2:K7 (T7 c k).right []=F->0<=F0 c (T7 c k).right k:=λh=>by
  have:=OK.2;simp only [h,Bool.not_false,Bool.true_and] at this;exact A9 this
 have TJ:qP c (k+1):=λm h h' =>by
  rcases y8 m k with h3|h3
  .exact ho m h h3
  .obtain rfl:m=k:=V
   exact ⟨f1,f2⟩
 obtain ⟨q1,e1⟩:∃q:Nat,F0 c (T7 c k).left k=q:=⟨_,(Int.toNat_of_nonneg f1).symm⟩;have t1:=(gH c hs (k+1) q1 V V TJ).1;have ti:=(gH c hs (k+1) k V V TJ).2 hk;have l1:=aX hs (k+1) q1 V V TJ;have eL:lT c k=M3 c q1:=by unfold lT;rw [e1,G6,S4 c V]
 refine tc (!Z6 (T7 c k)) p3 (λh3=>?_) (λh3=>?_)
 .refine gr ?_
  exact ⟨_,rfl,by unfold T1;rw [h1,h2,h3];rfl⟩
 rw [e1];refine gc t1 ?_;refine Ex.xG (λs=>∃(w6 w8:c7),s=⟨[cat c,.d (Z k),.ptr 0 0,.d (Z 0),.ptr 1 0,.d (Z q1),w6,.d (ints (M3 c q1)),w8,.any,.any,.any,.any],[.cells (c.enc.map .d),.cells ((T7 c k).enc.map .d)]⟩/\w8.I7= .d (ints (rT c k))/\O (rT c k)<=2000) ?_ ?_
 .skip
  refine tb (!K7 (T7 c k).right []) (λh4=>?_) (λh4=>?_)
  .simp only [o9] at h4
   obtain ⟨q2,e2⟩:∃q:Nat,F0 c (T7 c k).right k=q:=⟨_,(Int.toNat_of_nonneg (f2 h4)).symm⟩;have t2:=(gH c hs (k+1) q2 V V TJ).1;have l2:=aX hs (k+1) q2 V V TJ;have eR:rT c k=M3 c q2:=by unfold rT;rw [h4,e2,if_neg U,G6,S4 c V]
   rw [e2];refine gc t2 ?_;exact ⟨_,_,rfl,by rw [eR];rfl,by rw [eR];exact l2⟩
  .simp only [B7] at h4
   have eR:rT c k=[]:=by unfold rT;rw [h4,if_pos rfl]
   refine gr ?_;exact ⟨_,_,rfl,by rw [eR];rfl,by rw [eR];simp⟩
 rintro _ ⟨w6,w8,rfl,hw8,lR⟩;have hin:O (ins c k)<=100000:=by
  have:ins c k=lT c k++rT c k:=rfl;rw [this,eL];simp;omega
 have pS:=ay7 (M3 c q1) (rT c k) V;have pP:=ay8 (T7 c k).on (M3 c q1) (rT c k) hv3 V V;have pW:=Ir (T7 c k).wh (ins c k) hv4 hin;have pC:=XW (T7 c k) (ins c k) Vv Vx hin (λi h=>hs.DB _ i hv h) (λi h=>hs.La _ i hv h);have eL' :=eL.symm;rw [eL'];rw [<- eL] at pS pP;clear p1 p2 p3 t1 eL' eL;refine gr ?_;refine tb (s7 (T7 c k).kind 2) (λh5=>?_) (λh5=>?_)
 .refine gr ?_
  refine tB (!dh s7 (lT c k) (rT c k)) ?_ (λh6=>?_) (λh6=>?_)
  .repeat' (first|refine mvS hw8 ?_|refine cl (pS) ?_|refine gx ?_|refine fq (λhw=>?_) λhw=>?_|refine ⟨rfl,rfl,_,rfl,?_⟩|refine ⟨rfl,rfl⟩|fail)
   all_goals exact cc
  .refine gr ?_
   exact ⟨_,rfl,by unfold T1;rw [h1,h2,h3,h5,h6];rfl⟩
  .refine gr ?_
   exact ⟨_,rfl,by unfold T1;rw [h1,h2,h3,h5,h6];rfl⟩
 repeat' (first|refine mvS hw8 ?_|refine cl (pP) ?_|refine gx ?_|fail)
 refine tb (!s7 (L8 (lT c k) (rT c k) (T7 c k).on) 0) (λh6=>?_) (λh6=>?_)
 .refine gr ?_
  exact ⟨_,rfl,by unfold T1;rw [h1,h2,h3,h5,h6];rfl⟩
 refine gc ti ?_;refine tb (D0 0 (O (T7 c k).wh)) (λh7=>?_) (λh7=>?_)
 .refine gc pW ?_
  refine tb (!s7 (K4 (T7 c k).wh (ins c k)).2 0) (λh8=>?_) (λh8=>?_)
  .refine gr ?_
   exact ⟨_,rfl,by unfold T1;rw [h1,h2,h3,h5,h6,h7,h8];rfl⟩
  refine gr ?_;refine tb (!s7 (K4 (T7 c k).wh (ins c k)).1 1) (λh9=>?_) (λh9=>?_)
  .refine gr ?_
   exact ⟨_,rfl,by unfold T1;rw [h1,h2,h3,h5,h6,h7,h8,h9];rfl⟩
  refine gc pC ?_;exact ⟨_,rfl,by unfold T1;rw [h1,h2,h3,h5,h6,h7,h8,h9];rfl⟩
 .refine gc pC ?_
  exact ⟨_,rfl,by unfold T1;rw [h1,h2,h3,h5,h6,h7];rfl⟩
def jr (c:p7)(name:I4)(col:Int):Int×Int :=
 if D0 (F0 c name (p7.ns c)) 0 then (0,7)
 else if !p9 col 0 (O (M3 c (F0 c name (p7.ns c)).toNat) - 1) then (0,3)
 else (Y (M3 c (F0 c name (p7.ns c)).toNat) col.toNat,0)
def MY {c:p7}(hs:D9 c):p7.ns c<=2000:=by obtain ⟨f0,f1,_⟩:=hs.sm.dP;unfold p7.ns;omega
def Nl (c:p7)(hs:D9 c)(ho:qP c (p7.ns c))(name:I4)(col:Int):Pf A 204 [cat c,.d (.str name),.d (Z col)] (.tuple [.d (Z (jr c name col).1),.d (Z (jr c name col).2)]):=by
 have aO:=MY hs;have TI:p7.ns c=O c.j7+O c.views:=rfl;have p1:=Bz c name (p7.ns c) hs.sm.dP V;have b1:=J8 c name (p7.ns c);refine Pf.go 5 ?_;refine gc p1 ?_;refine tb (D0 (F0 c name (p7.ns c)) 0) (λh1=>?_) (λh1=>?_)
 .refine gr ?_
  exact ⟨_,rfl,by simp only [jr,h1,if_true];rfl⟩
 have h2:=A9 h1;obtain ⟨q,e1⟩:∃q:Nat,F0 c name (p7.ns c)=q:=⟨_,(Int.toNat_of_nonneg h2).symm⟩;have t1:=(gH c hs (p7.ns c) q V V ho).1;have l1:=aX hs (p7.ns c) q V V ho;rw [e1] at h1 ⊢;refine gc t1 ?_;refine tc (!p9 col 0 (O (M3 c q) - 1)) oP (λh3=>?_) (λh3=>?_)
 .refine gr ?_
  exact ⟨_,rfl,by simp only [jr,e1,h1,G6,h3,j6,if_false,if_true];rfl⟩
 have h4:=h3;simp [p9,r7] at h4;refine gr ?_;exact ⟨_,rfl,by simp only [jr,e1,h1,G6,h3,j6,if_false];rfl⟩
def skt (x:iI):c7:= .agg (x.enc.map .d)
def rls (x:kA):c7:= .agg (x.enc.map .d)
def bkp (x:nq):c7:= .agg (x.enc.map .d)
def BL (x:iI):Bool:= !p9 x.kind 0 2|| !p9 x.width 1 1024|| !p9 x.depth 1 8||(s7 x.kind 2&& !s7 x.depth 1)||D0 1024 (x.width * x.depth)
def yT (c:p7)(x:iI):Int:=if !s7 (jr c x.source x.col).2 0 then (jr c x.source x.col).2 else if BL x then 1 else 0
set_option maxHeartbeats 8000000 in
def XX (c:p7)(hs:D9 c)(ho:qP c (p7.ns c))(x:iI):Pf A 205 [cat c,skt x] (.d (Z (yT c x))):=by
 have p1:=Nl c hs ho x.source x.col;refine Pf.go 4 ?_;refine gc p1 ?_;refine tb (!s7 (jr c x.source x.col).2 0) (λh1=>?_) (λh1=>?_)
 .refine gr ?_
  exact ⟨_,rfl,by simp only [yT,h1,if_true];rfl⟩
 refine gr ?_;cases hW:p9 x.width 1 1024 with
 |false =>
  refine tB (W) ?_ (λh2=>?_) (λh2=>?_)
  .repeat' (first|refine cl (oP _ _ _) ?_|refine gx ?_|refine fq (λhw=>?_) λhw=>?_|refine ⟨rfl,rfl,_,rfl,?_⟩|refine ⟨rfl,rfl⟩|fail)
   all_goals first|(simp [*,j4,hW];done)|(simp_all [j4,hW];done)|(simp_all [j4,hW,s4,r7,o6,E2];done)|(simp_all [j4,hW,s4,r7,o6,E2]<;>omega)
  .refine gr ?_
   exact ⟨_,rfl,by simp [yT,h1,BL,hW,j4,Z]⟩
  .cases h2
 |true =>
 cases hD:p9 x.depth 1 8 with
 |false =>
  refine tB (W) ?_ (λh2=>?_) (λh2=>?_)
  .repeat' (first|refine cl (oP _ _ _) ?_|refine gx ?_|refine fq (λhw=>?_) λhw=>?_|refine ⟨rfl,rfl,_,rfl,?_⟩|refine ⟨rfl,rfl⟩|fail)
   all_goals first|(simp [*,j4,hW,hD];done)|(simp_all [j4,hW,hD];done)|(simp_all [j4,hW,hD,s4,r7,o6,E2];done)|(simp_all [j4,hW,hD,s4,r7,o6,E2]<;>omega)
  .refine gr ?_
   exact ⟨_,rfl,by simp [yT,h1,BL,hD,j4,Z]⟩
  .cases h2
 |true =>
 have hm: -9223372036854775808<=x.width * x.depth/\x.width * x.depth<9223372036854775808:=by
  simp [p9,r7] at hW hD;have m1:=Int.mul_le_mul hW.2 hD.2 V V;have m2:=Int.mul_nonneg (a:=x.width) (b:=x.depth) V V;omega
 refine tB (BL x) ?_ (λh2=>?_) (λh2=>?_)
 .repeat' (first|refine cl (oP _ _ _) ?_|refine mu (h0:=hm) ?_|refine gx ?_|refine fq (λhw=>?_) λhw=>?_|refine ⟨rfl,rfl,_,rfl,?_⟩|refine ⟨rfl,rfl⟩|fail)
  all_goals first|(simp [*,j4,BL,hW,hD];done)|(simp_all [j4,BL,hW,hD];done)|(simp_all [j4,BL,hW,hD,s4,r7,o6,E2];done)|(simp_all [j4,BL,hW,hD,s4,r7,o6,E2]<;>omega)
 .refine gr ?_
  exact ⟨_,rfl,by simp only [yT,h1,h2,j6,if_false,if_true];rfl⟩
 .refine gr ?_
  exact ⟨_,rfl,by simp only [yT,h1,h2,j6,if_false];rfl⟩
def Er (c:p7)(x:kA):Int :=
 if D0 (F0 c x.source (p7.ns c)) (O c.j7) then 7
 else if !s7 (Y c.views (F0 c x.source (p7.ns c) - O c.j7).toNat).kind 1|| !s7 (Y (Y c.views (F0 c x.source (p7.ns c) - O c.j7).toNat).E3 0).func 0|| !p9 x.UW 1 1024 then 1 else 0
set_option maxHeartbeats 8000000 in
def XY (c:p7)(hs:D9 c)(hg:∀k,k<O c.views->(Y c.views k).kind≠1\/0<O (Y c.views k).E3)(x:kA):Pf A 206 [cat c,rls x] (.d (Z (Er c x))):=by
 have aO:=MY hs;have TI:p7.ns c=O c.j7+O c.views:=rfl;have p1:=Bz c x.source (p7.ns c) hs.sm.dP V;have b1:=J8 c x.source (p7.ns c);refine Pf.go 5 ?_;refine gc p1 ?_;refine tb (D0 (F0 c x.source (p7.ns c)) (O c.j7)) (λh1=>?_) (λh1=>?_)
 .refine gr ?_
  exact ⟨_,rfl,by simp only [Er,h1,if_true];rfl⟩
 have h2:=A9 h1;have h3:=hg (F0 c x.source (p7.ns c) - O c.j7).toNat V;refine gr ?_;refine tc (!s7 (Y c.views (F0 c x.source (p7.ns c) - O c.j7).toNat).kind 1|| !s7 (Y (Y c.views (F0 c x.source (p7.ns c) - O c.j7).toNat).E3 0).func 0|| !p9 x.UW 1 1024) oP (λh4=>?_) (λh4=>?_)
 .refine gr ?_
  exact ⟨_,rfl,by simp only [Er,h1,h4,j6,if_false,if_true];rfl⟩
 .refine gr ?_
  exact ⟨_,rfl,by simp only [Er,h1,h4,j6,if_false];rfl⟩
def Rv (c:p7):List I4->List I4->Int
 |_,[]=>0
 |seen,t::r=>if D0 (dm c t (O c.j7)) 0 then 7 else if seen.any λy=>K7 y t then 4 else Rv c (seen++[t]) r
def Cq (c:p7)(x:nq):Int:=if s7 (O x.tables) 0|| !p9 x.keep 1 1048576 then 1 else Rv c [] x.tables
set_option maxHeartbeats 8000000 in
def XZ (c:p7)(hf:c.dP)(x:nq)(hx:O x.tables<=1000):Pf A 208 [cat c,bkp x] (.d (Z (Cq c x))):=by
 have hn:O c.j7<=1000:=hf.1;refine Pf.gr 5 ?_;refine tc (s7 (O x.tables) 0|| !p9 x.keep 1 1048576) oP (λh1=>?_) (λh1=>?_)
 .refine gr ?_
  exact ⟨_,rfl,by simp only [Cq,h1,if_true];rfl⟩
 refine gr ?_;refine Ex.Y1 (λk T H=>∃(i:Nat) (w0 w1 w4 w6:c7),T=[w0,w1,.ptr 0 0,.ptr 1 0,w4,.d (Z i),w6]/\H=[.cells (c.enc.map .d),.cells (x.enc.map .d)]/\i+k=O x.tables/\Cq c x=Rv c (x.tables.take i) (x.tables.drop i)) ?_ (k:=O x.tables) ⟨0,_,_,_,_,rfl,rfl,U,by simp [Cq,h1]⟩;rintro k _ _ ⟨i,w0,w1,w4,w6,rfl,rfl,hk,hi⟩;refine Ex.nT ?_;refine Ex.seq ?_;refine tl i (O x.tables) (λh3=>?_) (λh3=>?_)
 .rw [C5 V] at hi
  have p1:=Nn c (Y x.tables i) (O c.j7) hf V;refine gr ?_;refine tc (D0 (dm c (Y x.tables i) (O c.j7)) 0) p1 (λh4=>?_) (λh4=>?_)
  .refine gr ?_
   exact ⟨_,rfl,by rw [hi];simp only [Rv,h4,if_true];rfl⟩
  refine gr ?_;refine Ex.Y1 (λk T H=>∃(j:Nat) (w0 w1 w4:c7),T=[w0,w1,.ptr 0 0,.ptr 1 0,w4,.d (Z i),.d (Z j)]/\H=[.cells (c.enc.map .d),.cells (x.enc.map .d)]/\j+k=i/\((x.tables.take i).any λy=>K7 y (Y x.tables i))=(((x.tables.take i).drop j).any λy=>K7 y (Y x.tables i))) ?_ (k:=i) ⟨0,_,_,_,rfl,rfl,U,U⟩;rintro k2 _ _ ⟨j,w0,w1,w4,rfl,rfl,hk2,hj⟩;refine Ex.nT ?_;refine Ex.seq ?_;refine tb (D0 j i) (λh5=>?_) (λh5=>?_)
  .have h6:=A5 h5
   rw [iH V V] at hj
   repeat' (first|refine gy ?_|refine ft (λht=>?_) λht=>?_|refine ⟨_,rfl,?_⟩|fail)
   .have g2:((x.tables.take i).any λy=>K7 y (Y x.tables i))=W:=by rw [hj];simp [ht]
    rw [hi];simp only [Rv,h4,g2,j4,Z,j6,if_true,if_false]
   .exact ⟨k2 - 1,V,j+1,_,_,_,rfl,rfl,V,by rw [hj];simp [ht]⟩
  have h6:=A9 h5;rw [n5 D] at hj;have g2:((x.tables.take i).any λy=>K7 y (Y x.tables i))=F:=by rw [hj];rfl
  refine gr ?_;refine kk ⟨i+1,_,_,_,_,rfl,rfl,V,?_⟩;rw [hi,D2 V];simp only [Rv,h4,g2,j6,if_false]
 .rw [n5 V] at hi
  refine gr ?_;exact ⟨_,rfl,by rw [hi];rfl⟩
def JA (c:p7)(x:iL):Int:=if s7 (jr c x.source x.col).2 0&& !s7 (jr c x.source x.col).1 2 then 5 else (jr c x.source x.col).2
def IT (c:p7)(x:kG):Int:=if s7 (jr c x.source x.col).2 0&& !p9 x.ttl 1 1048576 then 1 else (jr c x.source x.col).2
def Ku (c:p7)(x:nr):Int:=if D0 (dm c x.table (O c.j7)) 0 then 7 else 0
def S9 (c:p7)(n:Nat):Int :=
 if n<O c.idxs then JA c (Y c.idxs n)
 else if n - O c.idxs<O c.F4 then yT c (Y c.F4 (n - O c.idxs))
 else if n - O c.idxs - O c.F4<O c.H8 then IT c (Y c.H8 (n - O c.idxs - O c.F4))
 else if n - O c.idxs - O c.F4 - O c.H8<O c.J5 then Er c (Y c.J5 (n - O c.idxs - O c.F4 - O c.H8))
 else if n - O c.idxs - O c.F4 - O c.H8 - O c.J5<O c.J9 then Ku c (Y c.J9 (n - O c.idxs - O c.F4 - O c.H8 - O c.J5))
 else Cq c (Y c.K6 (n - O c.idxs - O c.F4 - O c.H8 - O c.J5 - O c.J9))
set_option maxHeartbeats 16000000 in
def ay1 (c:p7)(hs:D9 c)(ho:qP c (p7.ns c))(hg:∀k,k<O c.views->(Y c.views k).kind≠1\/0<O (Y c.views k).E3)(n:Nat)(hn:n<O c.idxs+O c.F4+O c.H8+O c.J5+O c.J9+O c.K6) :
  Pf A 146 [cat c,.d (Z n)] (.d (Z (S9 c n))):=by
 obtain ⟨f0,f1,f2,f3,f4,f5,f6,f7⟩:=hs.sm.dP;refine Pf.gr 5 ?_;refine tb (D0 n (O c.idxs)) (λh1=>?_) (λh1=>?_)
 .have h1' :=A5 h1
  have p1:=Nl c hs ho (Y c.idxs n).source (Y c.idxs n).col;have e1:S9 c n=JA c (Y c.idxs n):=by unfold S9;rw [if_pos V]
  refine gc p1 ?_;refine tb (s7 (jr c (Y c.idxs n).source (Y c.idxs n).col).2 0&& !s7 (jr c (Y c.idxs n).source (Y c.idxs n).col).1 2) (λh2=>?_) (λh2=>?_)
  .refine gr ?_
   exact ⟨_,rfl,by rw [e1];unfold JA;rw [h2];rfl⟩
  .refine gr ?_
   exact ⟨_,rfl,by rw [e1];unfold JA;rw [h2];rfl⟩
 have h1' :=A9 h1;refine gr ?_;generalize Ff:n - O c.idxs=m1;have g1:(n:Int) - (O c.idxs:Int)=(m1:Int):=V
 rw [g1];refine tb (D0 m1 (O c.F4)) (λh3=>?_) (λh3=>?_)
 .have ZB :=A5 h3
  have p1:=XX c hs ho (Y c.F4 m1);have e1:S9 c n=yT c (Y c.F4 m1):=by unfold S9;rw [if_neg V,Ff,if_pos V]
  refine gc p1 ?_;exact ⟨_,rfl,by rw [e1];rfl⟩
 have ZB :=A9 h3;refine gr ?_;generalize hm2:m1 - O c.F4=m2;have g2:(m1:Int) - (O c.F4:Int)=(m2:Int):=V
 rw [g2];refine tb (D0 m2 (O c.H8)) (λh4=>?_) (λh4=>?_)
 .have h4' :=A5 h4
  have p1:=Nl c hs ho (Y c.H8 m2).source (Y c.H8 m2).col;have e1:S9 c n=IT c (Y c.H8 m2):=by unfold S9;rw [if_neg V,Ff,if_neg V,hm2,if_pos V]
  refine gc p1 ?_;refine tc (s7 (jr c (Y c.H8 m2).source (Y c.H8 m2).col).2 0&& !p9 (Y c.H8 m2).ttl 1 1048576) oP (λh2=>?_) (λh2=>?_)
  .refine gr ?_
   exact ⟨_,rfl,by rw [e1];unfold IT;rw [h2];rfl⟩
  .refine gr ?_
   exact ⟨_,rfl,by rw [e1];unfold IT;rw [h2];rfl⟩
 have h4' :=A9 h4;refine gr ?_;generalize WQ:m2 - O c.H8=m3;have g3:(m2:Int) - (O c.H8:Int)=(m3:Int):=V
 rw [g3];refine tb (D0 m3 (O c.J5)) (λh5=>?_) (λh5=>?_)
 .have h5' :=A5 h5
  have p1:=XY c hs hg (Y c.J5 m3);have e1:S9 c n=Er c (Y c.J5 m3):=by unfold S9;rw [if_neg V,Ff,if_neg V,hm2,if_neg V,WQ,if_pos V]
  refine gc p1 ?_;exact ⟨_,rfl,by rw [e1];rfl⟩
 have h5' :=A9 h5;refine gr ?_;generalize hm4:m3 - O c.J5=m4;have g4:(m3:Int) - (O c.J5:Int)=(m4:Int):=V
 rw [g4];refine tb (D0 m4 (O c.J9)) (λh6=>?_) (λh6=>?_)
 .have h6' :=A5 h6
  have p1:=Nn c (Y c.J9 m4).table (O c.j7) hs.sm.dP V;have e1:S9 c n=Ku c (Y c.J9 m4):=by unfold S9;rw [if_neg V,Ff,if_neg V,hm2,if_neg V,WQ,if_neg V,hm4,if_pos V]
  refine gr ?_;refine tc (D0 (dm c (Y c.J9 m4).table (O c.j7)) 0) p1 (λh2=>?_) (λh2=>?_)
  .refine gr ?_
   exact ⟨_,rfl,by rw [e1];unfold Ku;rw [h2];rfl⟩
  .refine gr ?_
   exact ⟨_,rfl,by rw [e1];unfold Ku;rw [h2];rfl⟩
 have h6' :=A9 h6;have hb:=hs.bk (m4 - O c.J9) V;have p1:=XZ c hs.sm.dP (Y c.K6 (m4 - O c.J9)) hb;have e1:S9 c n=Cq c (Y c.K6 (m4 - O c.J9)):=by unfold S9;rw [if_neg V,Ff,if_neg V,hm2,if_neg V,WQ,if_neg V,hm4,if_neg V]
 repeat' (first|refine cl (p1) ?_|refine VB (e:=(m4:Int) - (O c.J9:Int)) (m4 - O c.J9) (h2:=?_)|refine gx ?_|fail)
 exact ⟨_,rfl,by rw [e1];rfl⟩
def Ex.Zo {A:Go.z6.Prog}{l:G9}{b:Nat}{c:L2}{st:St}{Q:H9->St->Prop}(P:St->Prop)(h1:Ex A l b c st (kJ (λ_ _=>False) P))(h2:∀s,P s->Q .normal s):Ex A l b c st Q:=by
 refine h1.mono λx s h=>?_
 cases x with
 |normal=>exact h2 s h
 |exit i=>exact h.elim
 |ret=>exact h.elim
def zV (a b c d e f:Int):Bool:=D0 16 a||D0 16 b||D0 16 c||D0 16 d||D0 16 e||D0 16 f
def tooMany (c:p7):Bool:=D0 8 (O c.j7)||D0 12 (O c.views)||zV (O c.idxs) (O c.F4) (O c.H8) (O c.J5) (O c.J9) (O c.K6)
def max2 (x y:Int):Int:=if y>x then y else x
def Qj (x y:Int):D0 16 (max2 x y)=(D0 16 x||D0 16 y):=by
 grind [max2,s4,decide]
def MQ (a b c d e f:Int):D0 16 (max2 (max2 (max2 (max2 (max2 a b) c) d) e) f)=zV a b c d e f:=by
 simp [Qj,zV]
def M9 (c:p7)(i:Nat):Int :=
 if !K1 (Y c.names i) then 3 else if (c.names.take i).any λy=>K7 y (Y c.names i) then 4
 else if i<O c.j7 then bQ c i else if i<p7.ns c then T1 c i else S9 c (i - p7.ns c)
def ep (c:p7):Nat->Nat->Int×Int
 |0,_=>(0,0)
 |k+1,i=>if !s7 (M9 c i) 0 then (i,M9 c i) else ep c k (i+1)
def S1 (c:p7):Int×Int:=if tooMany c then (0,8) else ep c (O c.names) 0
theorem oB {c:p7}{m:Nat}(h:M9 c m=0):(!K1 (Y c.names m))=F/\((c.names.take m).any λy=>K7 y (Y c.names m))=F:=by
 grind [M9,K1,Y,K7]
def S8 {c:p7}{m:Nat}(h:M9 c m=0)(hm:m<O c.j7):bQ c m=0:=by
 grind [M9]
def bK {c:p7}{m:Nat}(h:M9 c m=0)(hm:O c.j7<=m)(hm2:m<p7.ns c):T1 c m=0:=by
 grind [M9]
theorem cB {c:p7}{m:Nat}(h:bQ c m=0):0<O (Y c.j7 m).o4/\O (Y c.j7 m).o4<=8:=by
 grind [bQ,p9,r7]
def eX {c:p7}{m:Nat}(h:T1 c m=0):p9 (T7 c m).kind 0 2=W/\0<=F0 c (T7 c m).left m/\(K7 (T7 c m).right []=F->0<=F0 c (T7 c m).right m)/\Z6 (T7 c m)=W:=by
 unfold T1 at h;split at h
 .omega
 .split at h
  .omega
  .split at h
   all_goals simp_all [Bool.not_eq_true,B2,A9]
def Ak {v:Vw}(h:Z6 v=W):v.kind≠1\/0<O v.E3:=by
 cases h1:s7 v.kind 1 with
 |false=>simp_all [iW]
 |true =>
  grind [Z6,s7]
def iD (c:p7)(i:Nat):Prop:=∀m,m<i->M9 c m=0
def gE {c:p7}{i:Nat}(h:iD c i)(hi:i<=p7.ns c):qP c i:=λk h1 h2=>by
 have:=eX (bK (h k h2) h1 V);exact ⟨this.2.1,this.2.2.1⟩
def bN (c:p7):O c.names=p7.ns c+(O c.idxs+O c.F4+O c.H8+O c.J5+O c.J9+O c.K6):=by simp [p7.names,p7.ns];omega
set_option maxHeartbeats 16000000 in
def ax5 (c:p7)(hs:D9 c):Pf A 95 [cat c] (pair (S1 c)):=by
 have hnl:=bN c;have aO:p7.ns c=O c.j7+O c.views:=rfl;obtain ⟨f0,f1,f2,f3,f4,f5,f6,f7⟩:=id hs.sm.dP;have ZI:=MQ (O c.idxs) (O c.F4) (O c.H8) (O c.J5) (O c.J9) (O c.K6);refine Pf.gr 7 ?_;refine tB (tooMany c) ?_ (λh1=>?_) (λh1=>?_)
 .repeat' (first|refine mm (d:= .int .i64 (max2 (max2 (max2 (max2 (max2 (O c.idxs) (O c.F4)) (O c.H8)) (O c.J5)) (O c.J9)) (O c.K6))) ?_|refine gx ?_|refine fq (λhw=>?_) λhw=>?_|refine ⟨rfl,rfl,_,rfl,?_⟩|refine ⟨rfl,rfl⟩|fail)
  all_goals first|(simp [*,j4,tooMany,ZI];done)|(simp_all [j4,tooMany,ZI];done)|(simp_all [j4,tooMany,ZI,s4,r7,o6,E2];done)|(simp_all [j4,tooMany,ZI,s4,r7,o6,E2]<;>omega)
 .refine gr ?_
  exact ⟨_,rfl,by unfold S1;rw [h1];rfl⟩
 refine gc (YF c hs.sm.dP) ?_;refine Ex.Y1 (λk T H=>∃(i:Nat) (w0 w2 w3 w6 w7:c7),T=[w0,.ptr 0 0,w2,w3,.d (x3 encS c.names),.d (Z i),w6,w7]/\H=[.cells (c.enc.map .d)]/\i+k=O c.names/\iD c i/\S1 c=ep c k i) ?_ (k:=O c.names) ⟨0,_,_,_,_,_,rfl,rfl,U,λm h=>absurd h V,by unfold S1;rw [h1];rfl⟩;rintro k _ _ ⟨i,w0,w2,w3,w6,w7,rfl,rfl,hk,hok,hi⟩;refine Ex.nT ?_;refine Ex.seq ?_;refine tl i (O c.names) (λh3=>?_) (λh3=>?_)
 .obtain ⟨k,rfl⟩:∃k',k=k' +1:=⟨k - 1,V⟩
  rw [ep] at hi;refine gr ?_;refine tc (!K1 (Y c.names i)) Uu (λh4=>?_) (λh4=>?_)
  .refine gr ?_
   have e1:M9 c i=3:=by unfold M9;rw [h4];rfl
   exact ⟨_,rfl,by rw [hi,e1];simp [o6,pair,j4,c7.I7,Z]⟩
  refine gr ?_;refine Ex.Y1 (λk T H=>∃(j:Nat) (w0 w2 w3 w7:c7),T=[w0,.ptr 0 0,w2,w3,.d (x3 encS c.names),.d (Z i),.d (Z j),w7]/\H=[.cells (c.enc.map .d)]/\j+k=i/\((c.names.take i).any λy=>K7 y (Y c.names i))=(((c.names.take i).drop j).any λy=>K7 y (Y c.names i))) ?_ (k:=i) ⟨0,_,_,_,_,rfl,rfl,U,U⟩;rintro k2 _ _ ⟨j,w0,w2,w3,w7,rfl,rfl,hk2,hj⟩;refine Ex.nT ?_;refine Ex.seq ?_;refine tb (D0 j i) (λh5=>?_) (λh5=>?_)
  .have h6:=A5 h5
   rw [iH V V] at hj
   repeat' (first|refine gy ?_|refine ft (λht=>?_) λht=>?_|refine ⟨_,rfl,?_⟩|fail)
   .have g2:((c.names.take i).any λy=>K7 y (Y c.names i))=W:=by rw [hj];simp [ht]
    have e1:M9 c i=4:=by unfold M9;rw [h4,g2];rfl
    rw [hi,e1];simp [o6,pair,j4,c7.I7,Z]
   .exact ⟨k2 - 1,V,j+1,_,_,_,_,rfl,rfl,V,by rw [hj];simp [ht]⟩
  have h6:=A9 h5;rw [n5 D] at hj;have g2:((c.names.take i).any λy=>K7 y (Y c.names i))=F:=by rw [hj];rfl
  clear hj hk2 h5 h6;refine gr ?_;refine Ex.Zo (λs=>∃(w0 w2 w3 w6:c7),s=⟨[w0,.ptr 0 0,w2,w3,.d (x3 encS c.names),.d (Z i),w6,.d (Z (M9 c i))],[.cells (c.enc.map .d)]⟩) ?_ ?_
  .skip
   refine tb (D0 i (O c.j7)) (λh5=>?_) (λh5=>?_)
   .have h6:=A5 h5
    have p1:=ax9 c i hs.sm V (λm hm=>(cB (S8 (hok m hm) V)).1);have e1:M9 c i=bQ c i:=by unfold M9;rw [h4,g2,if_neg U,if_neg U,if_pos V]
    rw [e1];refine gc p1 ?_;exact ⟨_,_,_,_,rfl⟩
   have h6:=A9 h5;refine tc (D0 i (p7.ns c)) aO (λh7=>?_) (λh7=>?_)
   .have h8:=A5 h7
    have p1:=ay0 c hs i V V (gE hok V);have e1:M9 c i=T1 c i:=by unfold M9;rw [h4,g2,if_neg U,if_neg U,if_neg V,if_pos V]
    rw [e1];refine gc p1 ?_;exact ⟨_,_,_,_,rfl⟩
   .have h8:=A9 h7
    have p1:=ay1 c hs (gE (λm hm=>hok m V) (k9 _)) (λm hm=>by
     have h9:=eX (bK (hok (m+O c.j7) V) V V);have OJ:T7 c (m+O c.j7)=Y c.views m:=by unfold T7;rw [Nat.add_sub_cancel]
     rw [OJ] at h9;exact Ak h9.2.2.2) (i - p7.ns c) V
    have e1:M9 c i=S9 c (i - p7.ns c):=by unfold M9;rw [h4,g2,if_neg U,if_neg U,if_neg V,if_neg V]
    rw [e1];refine gr ?_;refine cl p1 ?_ (ha:=by rw [show ((i - p7.ns c:Nat):Int)=(i:Int) - (O c.j7:Int) - (O c.views:Int) by omega];rfl);refine gr ?_;exact ⟨_,_,_,_,rfl⟩
  rintro _ ⟨w0,w2,w3,w6,rfl⟩;refine gr ?_;refine tb (!s7 (M9 c i) 0) (λh5=>?_) (λh5=>?_)
  .refine gr ?_
   exact ⟨_,rfl,by rw [hi,h5];rfl⟩
  .refine gr ?_
   refine ⟨k,V,i+1,_,_,_,_,_,rfl,rfl,V,λm hm=>?_,by rw [hi,h5];rfl⟩
   rcases y8 m i with h6|h6
   .exact hok m h6
   .obtain rfl:m=i:=V
    exact W9 (by simpa using h5)
 .obtain rfl:k=0:=V
  refine gr ?_;exact ⟨_,rfl,by rw [hi];rfl⟩
end Go.Proofs.YtibjocmpkoepoaaGreat


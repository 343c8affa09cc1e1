import Derived.Test.YtibjocmpkoepoaaGreatD0
set_option linter.all false
open Bool renaming false_eq_true→j5,not_eq_false'→C5,not_eq_true'→o5,or_eq_false_iff→D5,true→W,false→F
open List renaming drop_of_length_le→n5,take_of_length_le→A4,length→O
open Nat renaming le_refl→k9,lt_or_ge→A7
open Option renaming some→J,none→K
namespace Go.Proofs.YtibjocmpkoepoaaGreat
open Go.A5 Go.A5.S
attribute [local irreducible] Rx Ry Rn Ex Pf
structure G8 (c:p9):Prop where
 sm:p9.small c
 items:∀k,k<O c.views->O (Y c.views k).items<=1000
 I6:∀k,k<O c.views->O (Y c.views k).I6<=1000
 on:∀k,k<O c.views->O (Y c.views k).on<=1000
 wh:∀k,k<O c.views->O (Y c.views k).wh<=1000
 JC:∀k i,k<O c.views->i<O (Y c.views k).items->O (Y (Y c.views k).items i).expr<=1000
 TG:∀k i,k<O c.views->i<O (Y c.views k).I6->O (Y (Y c.views k).I6 i).expr<=1000
 bk:∀k,k<O c.Q3->O (Y c.Q3 k).tables<=1000
def xx (ty:List Int)(a:zA):Int:=if x5 a.func 0||x5 a.func 1 then 1 else (M8 a.expr ty).1
def bf (v:Vw)(ty:List Int):List Int:=v.items.map (λx=>(M8 x.expr ty).1)++v.I6.map (xx ty)
def Bo (c:p9)(prev:List (List Int))(v:Vw)(k:Nat):List Int:=Y prev (F8 c v.left k).toNat++(if O4 v.right [] then [] else Y prev (F8 c v.right k).toNat)
def iZ (c:p9)(prev:List (List Int))(k:Nat):List Int :=
 if k<O c.j7 then (Y c.j7 k).o7.map U4.type
 else if x5 (Y c.views (k - O c.j7)).kind 2 then Y prev (F8 c (Y c.views (k - O c.j7)).left k).toNat
 else bf (Y c.views (k - O c.j7)) (Bo c prev (Y c.views (k - O c.j7)) k)
def od (c:p9):Nat->List (List Int)
 |0=>[]
 |k+1=>od c k++[iZ c (od c k) k]
def T6 (c:p9)(k:Nat):List Int:=iZ c (od c k) k
def ins (c:p9)(k:Nat):List Int:=Bo c (od c k) (Y c.views (k - O c.j7)) k
theorem KS (c:p9):∀k,O (od c k)=k
 |0=>rfl
 |k+1=>by simp [od,KS c k]
theorem W7 (c:p9):∀{k j:Nat},j<k->Y (od c k) j=T6 c j
 |k+1,j,h=>by
  have hl:=KS c k
  rcases A7 j k with h1|h1
  .rw [<- W7 c h1,od,F9 D,F9 V,List.getElem_append_left V]
  grind [od,F9,List.getElem_append_right,T6]
def uX (c:p9)(n:Nat):Prop:=∀k,O c.j7<=k->k<n->0<=F8 c (Y c.views (k - O c.j7)).left k/\(O4 (Y c.views (k - O c.j7)).right []=F->0<=F8 c (Y c.views (k - O c.j7)).right k)
theorem L9 (c:p9)(name:K0)(n:Nat):F8 c name n= -1\/(0<=F8 c name n/\F8 c name n<n/\F8 c name n<p9.ns c):=by
 grind [F8,gQ,p9.sn,Z6]
theorem dI {c:p9}(hs:G8 c):∀(n k:Nat),k<n->n<=p9.ns c->uX c n->O (T6 c k)<=2000
 |0,k,h,_,_=>absurd h V
 |n+1,k,h,hn,ho=>by
  rcases A7 k n with h1|h1
  .exact dI hs n k h1 V (λk h1 h2=>ho k h1 V)
  unfold T6 iZ;split
  next h2=>
   have:=hs.sm.o7 k h2;simp;omega
  .have hv:k - O c.j7<O c.views:=by grind [p9.ns]
   split
   .have h3:=(ho k V V).1
    rcases L9 c (Y c.views (k - O c.j7)).left k with h4|h4
    .omega
    .rw [W7 c V]
     exact dI hs k _ V V (λk h1 h2=>ho k h1 V)
   .have h5:=hs.items _ hv
    have h6:=hs.I6 _ hv
    grind [bf]
set_option maxHeartbeats 8000000 in
theorem kg (c:p9)(hs:G8 c):∀(n s:Nat),s<n->n<=p9.ns c->uX c n->Pf A 54 [cat c,.d (Z s)] (.d (ints (T6 c s)))/\(O c.j7<=s->Pf A 113 [cat c,.d (Z s)] (.d (ints (ins c s))))
 |0,s,h,_,_=>absurd h V
 |n+1,s,h,hn,ho=>by
  have eD:p9.ns c<=2000:=by obtain ⟨f0,f1,_⟩:=hs.sm.iC;unfold p9.ns;omega
  have an4:p9.ns c=O c.j7+O c.views:=rfl
  rcases A7 s n with h1|h1
  .exact kg c hs n s h1 V (λk h1 h2=>ho k h1 V)
  obtain rfl:s=n:=V
  have ih:∀k,k<s->Pf A 54 [cat c,.d (Z k)] (.d (ints (T6 c k))):=λk hk=>(kg c hs s k hk V (λk h1 h2=>ho k h1 V)).1
  have hlen:∀k,k<s->O (T6 c k)<=2000:=λk hk=>dI hs s k hk V (λk h1 h2=>ho k h1 V)
  have hin:O c.j7<=s->Pf A 113 [cat c,.d (Z s)] (.d (ints (ins c s))):=λht=>by
   have hv:s - O c.j7<O c.views:=V
   obtain ⟨o1,o2⟩:=ho s ht V;have b1:=L9 c (Y c.views (s - O c.j7)).left s;have b2:=L9 c (Y c.views (s - O c.j7)).right s;obtain ⟨q1,e1⟩:∃q:Nat,F8 c (Y c.views (s - O c.j7)).left s=q:=⟨_,(Int.toNat_of_nonneg o1).symm⟩;have p1:=HA c (Y c.views (s - O c.j7)).left s hs.sm.iC V;have p2:=HA c (Y c.views (s - O c.j7)).right s hs.sm.iC V;rw [e1] at p1;have l1:=hlen q1 V;have t1:=ih q1 V;refine Pf.go 4 ?_
   repeat' (first|refine ixI (e:=(s:Int) - (O c.j7:Int)) (s - O c.j7) (h2:=?_)|refine gx ?_|fail)
   refine gc (And.intro p1 t1) ?_;refine tb (!O4 (Y c.views (s - O c.j7)).right []) (λh2=>?_) (λh2=>?_)
   .simp only [o5] at h2
    obtain ⟨q2,e2⟩:∃q:Nat,F8 c (Y c.views (s - O c.j7)).right s=q:=⟨_,(Int.toNat_of_nonneg (o2 h2)).symm⟩;rw [e2] at p2;have l2:=hlen q2 V;have t2:=ih q2 V;refine gc (And.intro p2 t2) ?_;refine ⟨_,rfl,?_⟩;simp only [ins,Bo,e1,e2,Int.toNat_natCast,h2,j5,if_false];rw [W7 c V,W7 c V];rfl
   .simp only [C5] at h2
    refine gr ?_;refine ⟨_,rfl,?_⟩;simp only [ins,Bo,e1,Int.toNat_natCast,h2,if_true];rw [W7 c V];simp [j4,ints,y6]
  refine ⟨?_,hin⟩;refine Pf.gr 10 ?_;refine tb (F0 s (O c.j7)) (λh2=>?_) (λh2=>?_)
  .have h3:=C8 h2
   have hcl:=hs.sm.o7 s V;refine gr ?_;refine Ex.M4 (λk T H=>∃(i:Nat) (acc:List Int),T=[.any,.d (Z s),.ptr 0 0,.any,B9 1 (λn=>[Z n]) acc,.d (Z i),.any,.any,.any,.any,.any,.any]/\H=[.cells (c.enc.map .d)]/\i+k=O (Y c.j7 s).o7/\acc=((Y c.j7 s).o7.take i).map U4.type) ?_ (k:=O (Y c.j7 s).o7) ⟨0,[],rfl,rfl,U,U⟩;rintro k _ _ ⟨i,acc,rfl,rfl,hk,hacc⟩;have hl:O acc=i:=by rw [hacc];simp;omega
   repeat' (first|refine gy ?_|refine ft (λht=>?_) λht=>?_|refine ⟨_,rfl,?_⟩|fail)
   .have h4:=C8 ht
    refine kk ⟨i+1,acc++[(Y (Y c.j7 s).o7 i).type],rfl,rfl,V,?_⟩;rw [H8 V,hacc];simp
   .have h4:=D4 ht
    rw [A4 V] at hacc;simp only [T6,iZ];rw [if_pos V,<- hacc];rfl
  have h3:=D4 h2;have hv:s - O c.j7<O c.views:=V
  obtain ⟨o1,o2⟩:=ho s V V;have b1:=L9 c (Y c.views (s - O c.j7)).left s;have b2:=L9 c (Y c.views (s - O c.j7)).right s;obtain ⟨q1,e1⟩:∃q:Nat,F8 c (Y c.views (s - O c.j7)).left s=q:=⟨_,(Int.toNat_of_nonneg o1).symm⟩;have p1:=HA c (Y c.views (s - O c.j7)).left s hs.sm.iC V;rw [e1] at p1;have l1:=hlen q1 V;have t1:=ih q1 V;have Df:O (ins c s)<=4000:=by
   simp only [ins,Bo,e1,Int.toNat_natCast];rw [W7 c V];cases h5:O4 (Y c.views (s - O c.j7)).right [] with
   |true=>simp;omega
   |false =>
    have h6:=o2 h5;have h7:=hlen (F8 c (Y c.views (s - O c.j7)).right s).toNat V;rw [W7 c V];simp;omega
  have hi1:=hs.items _ hv;have hi2:=hs.I6 _ hv
  repeat' (first|refine ixI (e:=(s:Int) - (O c.j7:Int)) (s - O c.j7) (h2:=?_)|refine gx ?_|fail)
  refine tb (x5 (Y c.views (s - O c.j7)).kind 2) (λh4=>?_) (λh4=>?_)
  .refine gc (And.intro p1 t1) ?_
   refine ⟨_,rfl,?_⟩;have hct:T6 c s=Y (od c s) q1:=by
    unfold T6 iZ;rw [if_neg V,h4,if_pos rfl,e1];rfl
   rw [hct,W7 c V];rfl
  refine gc (hin V) ?_;refine Ex.M4 (λk T H=>∃(i:Nat) (acc:List Int),T=[.any,.any,.any,.any,B9 1 (λn=>[Z n]) acc,.any,.ptr 1 0,.d (ints (ins c s)),.d (Z i),.any,.any,.any]/\H=[.cells (c.enc.map .d),.cells ((Y c.views (s - O c.j7)).enc.map .d)]/\i+k=O (Y c.views (s - O c.j7)).items/\acc=((Y c.views (s - O c.j7)).items.take i).map λx=>(M8 x.expr (ins c s)).1) ?_ (k:=O (Y c.views (s - O c.j7)).items) ⟨0,[],rfl,rfl,U,U⟩;rintro k _ _ ⟨i,acc,rfl,rfl,hk,hacc⟩;have hl:O acc=i:=by rw [hacc];simp;omega
  refine Ex.seq ?_;refine tb (F0 i (O (Y c.views (s - O c.j7)).items)) (λh5=>?_) (λh5=>?_)
  .have h6:=C8 h5
   refine gc (Ph (Y (Y c.views (s - O c.j7)).items i).expr (ins c s) (hs.JC (s - O c.j7) i hv V) V) ?_;refine kk ⟨i+1,acc++[(M8 (Y (Y c.views (s - O c.j7)).items i).expr (ins c s)).1],rfl,rfl,V,?_⟩;rw [H8 V,hacc];simp
  have h6:=D4 h5;rw [A4 V] at hacc;clear h5 h6 hk hl;refine gr ?_;have hl0:O acc<=1000:=by rw [hacc];simp;omega
  refine Ex.M4 (λk T H=>∃(i:Nat) (Rw:List Int),T=[.any,.any,.any,.any,B9 1 (λn=>[Z n]) Rw,.any,.ptr 1 0,.d (ints (ins c s)),.any,.any,.d (Z i),.any]/\H=[.cells (c.enc.map .d),.cells ((Y c.views (s - O c.j7)).enc.map .d)]/\i+k=O (Y c.views (s - O c.j7)).I6/\Rw=acc++((Y c.views (s - O c.j7)).I6.take i).map (xx (ins c s))) ?_ (k:=O (Y c.views (s - O c.j7)).I6) ⟨0,acc,rfl,rfl,U,U⟩;rintro k _ _ ⟨i,Rw,rfl,rfl,hk,Ji⟩;have hl:O Rw=O acc+i:=by rw [Ji];simp;omega
  refine Ex.seq ?_;refine tb (F0 i (O (Y c.views (s - O c.j7)).I6)) (λh5=>?_) (λh5=>?_)
  .have h6:=C8 h5
   refine gc (Ph (Y (Y c.views (s - O c.j7)).I6 i).expr (ins c s) (hs.TG (s - O c.j7) i hv V) V) ?_;refine tb (x5 (Y (Y c.views (s - O c.j7)).I6 i).func 0||x5 (Y (Y c.views (s - O c.j7)).I6 i).func 1) (λh7=>?_) (λh7=>?_)
   .refine gr ?_
    refine kk ⟨i+1,Rw++[1],rfl,rfl,V,?_⟩;rw [H8 V,Ji];simp [xx,h7]
   .refine gr ?_
    refine kk ⟨i+1,Rw++[(M8 (Y (Y c.views (s - O c.j7)).I6 i).expr (ins c s)).1],rfl,rfl,V,?_⟩;rw [H8 V,Ji];simp [xx,h7]
  .have h6:=D4 h5
   rw [A4 V] at Ji;refine gr ?_;refine ⟨_,rfl,?_⟩;simp only [T6,iZ];rw [if_neg V,h4,if_neg U];simp only [bf];rw [show Bo c (od c s) (Y c.views (s - O c.j7)) s=ins c s from rfl,<- hacc,<- Ji];rfl
structure DY where
 agg:Bool
 name:K0
 f:Int
 expr:List X0
instance:Inhabited DY:=⟨⟨F,[],0,[]⟩⟩
def de (v:Vw):List DY:=v.items.map (λx=>⟨F,x.name, -1,x.expr⟩)++v.I6.map (λx=>⟨W,x.name,x.func,x.expr⟩)
def aP (ty:List Int):List K0->List DY->Int
 |_,[]=>0
 |seen,e::r =>
  if !M3 e.name then 3
  else if seen.any λy=>O4 y e.name then 4
  else if e.agg&&(!s4 e.f 0 4||(x5 e.f 0&&F0 0 (O e.expr))) then 1
  else if e.agg&&x5 e.f 0 then aP ty (seen++[e.name]) r
  else if !x5 (M8 e.expr ty).2 0 then (M8 e.expr ty).2
  else if e.agg&&x5 e.f 1&& !x5 (M8 e.expr ty).1 1 then 5
  else aP ty (seen++[e.name]) r
def mF (v:Vw):O (de v)=O v.items+O v.I6:=by simp [de]
def wv (v:Vw){i:Nat}(h:i<O v.items):Y (de v) i=⟨F,(Y v.items i).name, -1,(Y v.items i).expr⟩:=by
 rw [F9 (by rw [mF];omega),F9 h];simp [de,List.getElem_append_left,h]
def AU (v:Vw){i:Nat}(h:O v.items<=i)(h2:i<O v.items+O v.I6):Y (de v) i=⟨W,(Y v.I6 (i - O v.items)).name,(Y v.I6 (i - O v.items)).func,(Y v.I6 (i - O v.items)).expr⟩:=by
 rw [F9 (by rw [mF];omega),F9 V];simp [de,List.getElem_append_right,h]
def RS (v:Vw){i:Nat}(h:i<O v.items+O v.I6):(Y (de v) i).agg=aH (O v.items) i:=by
 rcases A7 i (O v.items) with h1|h1
 .rw [wv v h1];simp [x8];omega
 .rw [AU v h1 h];simp [x8];omega
set_option maxHeartbeats 16000000 in
def aI0 (v:Vw)(ty:List Int)(h0:O v.items<=1000)(h1:O v.I6<=1000)(h2:O ty<=100000)(h3:∀i,i<O v.items->O (Y v.items i).expr<=1000)(h4:∀i,i<O v.I6->O (Y v.I6 i).expr<=1000) :
  Pf A 203 [vw v,.d (ints ty)] (.d (Z (aP ty [] (de v)))):=by
 have hel:=mF v;refine Pf.gr 11 ?_;refine Ex.S4 (λk T H=>∃(i:Nat) (seen:List K0),T=[.any,.d (ints ty),.ptr 0 0,.any,B9 1 (λs=>[.str s]) seen,.d (Z i),.any,.any,.any,.any,.any,.any,.any]/\H=[.cells (v.enc.map .d)]/\i+k=O (de v)/\O seen=i/\aP ty [] (de v)=aP ty seen ((de v).drop i)) ?_ (k:=O (de v)) ⟨0,[],rfl,rfl,U,rfl,U⟩;rintro k _ _ ⟨i,seen,rfl,rfl,hk,YO,hi⟩;refine Ex.seq ?_;refine tc (F0 i (O (de v))) hel (λh5=>?_) (λh5=>?_)
 .have h6:=C8 h5
  have hix:i<O v.items+O v.I6:=V
  rw [D8 V] at hi;have hfl:=RS v hix;refine gr ?_;refine Ex.DO (λs=>∃(f:Int) (H2:j9) (w9:c7),s=⟨[.any,.d (ints ty),.ptr 0 0,.any,B9 1 (λs=>[.str s]) seen,.d (Z i),.d (.str (Y (de v) i).name),.d (Z (Y (de v) i).f),.d (y6 X0.enc (Y (de v) i).expr),w9,.any,.any,.any],.cells (v.enc.map .d)::H2⟩/\O (Y (de v) i).expr<=1000) ?_ ?_
  .skip
   refine tl i (O v.items) (λh8=>?_) (λh8=>?_)
   .have he:=h3 i V
    rw [wv v V];refine gr ?_;exact ⟨-1,_,_,rfl,he⟩
   .have he:=h4 (i - O v.items) V
    rw [AU v V hix]
    repeat' (first|refine ixI (e:=(i:Int) - (O v.items:Int)) (i - O v.items) (h2:=?_)|refine gx ?_|fail)
    exact ⟨0,_,_,rfl,he⟩
  rintro _ ⟨f,H2,w9,rfl,he⟩;generalize hen:Y (de v) i=en at *
  obtain ⟨ag,nm,ef,ex⟩:=en;simp only at *
  subst hfl;have aF2:=Ph ex ty he h2;refine gr ?_;refine tc (!M3 nm) ar5 (λg1=>?_) (λg1=>?_)
  .refine gr ?_
   exact ⟨_,rfl,by rw [hi];simp only [aP,g1,j4,Z,if_true]⟩
  refine gr ?_;refine Ex.fh (λk T H=>∃(j:Nat) (w0 w3 w9 Mt Mu:c7),T=[w0,.d (ints ty),.ptr 0 0,w3,B9 1 (λs=>[.str s]) seen,.d (Z i),.d (.str nm),.d (Z ef),.d (y6 X0.enc ex),w9,.d (Z j),Mt,Mu]/\H= .cells (v.enc.map .d)::H2/\j+k=O seen/\(seen.any λy=>O4 y nm)=((seen.drop j).any λy=>O4 y nm)) ?_ (k:=O seen) ⟨0,_,_,_,_,_,rfl,rfl,U,U⟩;rintro k2 _ _ ⟨j,w0,w3,w9,Mt,Mu,rfl,rfl,hk2,hj⟩;refine Ex.nT ?_;refine Ex.seq ?_;refine tb (F0 j (O seen)) (λg0=>?_) (λg0=>?_)
  .have g00:=C8 g0
   rw [D8 V] at hj
   repeat' (first|refine gy ?_|refine ft (λht=>?_) λht=>?_|refine ⟨_,rfl,?_⟩|fail)
   .have g2:(seen.any λy=>O4 y nm)=W:=by rw [hj];simp [ht]
    rw [hi];simp only [aP,g1,g2,j4,Z,j5,if_true,if_false]
   .exact ⟨k2 - 1,V,j+1,_,_,_,_,_,rfl,rfl,V,by rw [hj];simp [ht]⟩
  have g00:=D4 g0;rw [n5 V] at hj;have g2:(seen.any λy=>O4 y nm)=F:=by rw [hj];rfl
  clear hj hk2 g0 g00;refine gr ?_;refine tc (aH (O v.items) i&&(!s4 ef 0 4||(x5 ef 0&&F0 0 (O ex)))) tE (λg3=>?_) (λg3=>?_)
  .refine gr ?_
   exact ⟨_,rfl,by rw [hi];simp only [aP,g1,g2,g3,j4,Z,j5,if_true,if_false]⟩
  refine gr ?_;refine tb (aH (O v.items) i&&x5 ef 0) (λg4=>?_) (λg4=>?_)
  .refine gr ?_
   exact kk ⟨_,_,rfl,i+1,seen++[nm],rfl,rfl,V,by simp [YO],by rw [hi];simp only [aP,g1,g2,g3,g4,j5,if_true,if_false]⟩
  refine gc aF2 ?_;refine tb (!x5 (M8 ex ty).2 0) (λg5=>?_) (λg5=>?_)
  .refine gr ?_
   exact ⟨_,rfl,by rw [hi];simp only [aP,g1,g2,g3,g4,g5,j4,j5,if_true,if_false]⟩
  refine gr ?_;refine tb (aH (O v.items) i&&x5 ef 1&& !x5 (M8 ex ty).1 1) (λg6=>?_) (λg6=>?_)
  .refine gr ?_
   exact ⟨_,rfl,by rw [hi];simp only [aP,g1,g2,g3,g4,g5,g6,j4,Z,j5,if_true,if_false]⟩
  .refine gr ?_
   exact kk ⟨_,_,rfl,i+1,seen++[nm],rfl,rfl,V,by simp [YO],by rw [hi];simp only [aP,g1,g2,g3,g4,g5,g6,j5,if_true,if_false]⟩
 .have h6:=D4 h5
  rw [n5 V] at hi;refine gr ?_;exact ⟨_,rfl,by rw [hi];rfl⟩
def Z0 (c:p9)(k:Nat):Vw:=Y c.views (k - O c.j7)
def lT (c:p9)(k:Nat):List Int:=Y (od c k) (F8 c (Z0 c k).left k).toNat
def rT (c:p9)(k:Nat):List Int:=if O4 (Z0 c k).right [] then [] else Y (od c k) (F8 c (Z0 c k).right k).toNat
def Y3 (c:p9)(k:Nat):Int :=
 if !s4 (Z0 c k).kind 0 2 then 1
 else if F0 (F8 c (Z0 c k).left k) 0||(!O4 (Z0 c k).right []&&F0 (F8 c (Z0 c k).right k) 0) then 7
 else if !bQ (Z0 c k) then 1
 else if x5 (Z0 c k).kind 2 then (if !gu x5 (lT c k) (rT c k) then 5 else 0)
 else if !x5 (P5 (lT c k) (rT c k) (Z0 c k).on) 0 then P5 (lT c k) (rT c k) (Z0 c k).on
 else if F0 0 (O (Z0 c k).wh)&& !x5 (M8 (Z0 c k).wh (ins c k)).2 0 then (M8 (Z0 c k).wh (ins c k)).2
 else if F0 0 (O (Z0 c k).wh)&& !x5 (M8 (Z0 c k).wh (ins c k)).1 1 then 5
 else aP (ins c k) [] (de (Z0 c k))
set_option maxHeartbeats 16000000 in
def br8 (c:p9)(hs:G8 c)(k:Nat)(hk:O c.j7<=k)(hk2:k<p9.ns c)(ho:uX c k):Pf A 145 [cat c,.d (Z k)] (.d (Z (Y3 c k))):=by
 have eD:p9.ns c<=2000:=by obtain ⟨f0,f1,_⟩:=hs.sm.iC;unfold p9.ns;omega
 have an4:p9.ns c=O c.j7+O c.views:=rfl;have hv:k - O c.j7<O c.views:=V
 have hv1:O (Z0 c k).items<=1000:=hs.items _ hv;have hv2:O (Z0 c k).I6<=1000:=hs.I6 _ hv;have hv3:O (Z0 c k).on<=1000:=hs.on _ hv;have hv4:O (Z0 c k).wh<=1000:=hs.wh _ hv;have xS:Y c.views (k - O c.j7)=Z0 c k:=rfl;have p1:=HA c (Z0 c k).left k hs.sm.iC V;have p2:=HA c (Z0 c k).right k hs.sm.iC V;have p3:=bs6 c (Z0 c k) hv1 hv2;have b1:=L9 c (Z0 c k).left k;have b2:=L9 c (Z0 c k).right k;refine Pf.go 11 ?_
 repeat' (first|refine ixI (e:=(k:Int) - (O c.j7:Int)) (k - O c.j7) (h2:=?_)|refine gx ?_|fail)
 rw [xS];refine tc (!s4 (Z0 c k).kind 0 2) tE (λh1=>?_) (λh1=>?_)
 .refine gr ?_
  exact ⟨_,rfl,by unfold Y3;rw [h1];rfl⟩
 refine gc (And.intro p1 p2) ?_;refine tb (F0 (F8 c (Z0 c k).left k) 0||(!O4 (Z0 c k).right []&&F0 (F8 c (Z0 c k).right k) 0)) (λh2=>?_) (λh2=>?_)
 .refine gr ?_
  exact ⟨_,rfl,by unfold Y3;rw [h1,h2];rfl⟩
 have XP :=h2;simp only [D5] at XP;have f1:=D4 XP.1;have f2:O4 (Z0 c k).right []=F->0<=F8 c (Z0 c k).right k:=λh=>by
  have:=XP.2;simp only [h,Bool.not_false,Bool.true_and] at this;exact D4 this
 have ho2:uX c (k+1):=λm h h' =>by
  rcases A7 m k with h3|h3
  .exact ho m h h3
  .obtain rfl:m=k:=V
   exact ⟨f1,f2⟩
 obtain ⟨q1,e1⟩:∃q:Nat,F8 c (Z0 c k).left k=q:=⟨_,(Int.toNat_of_nonneg f1).symm⟩;have t1:=(kg c hs (k+1) q1 V V ho2).1;have ti:=(kg c hs (k+1) k V V ho2).2 hk;have l1:=dI hs (k+1) q1 V V ho2;have eL:lT c k=T6 c q1:=by unfold lT;rw [e1,Int.toNat_natCast,W7 c V]
 refine tc (!bQ (Z0 c k)) p3 (λh3=>?_) (λh3=>?_)
 .refine gr ?_
  exact ⟨_,rfl,by unfold Y3;rw [h1,h2,h3];rfl⟩
 rw [e1];refine gc t1 ?_;refine Ex.DO (λs=>∃(w6 w8:c7),s=⟨[cat c,.d (Z k),.ptr 0 0,.d (Z 0),.ptr 1 0,.d (Z q1),w6,.d (ints (T6 c q1)),w8,.any,.any,.any,.any],[.cells (c.enc.map .d),.cells ((Z0 c k).enc.map .d)]⟩/\w8.K9= .d (ints (rT c k))/\O (rT c k)<=2000) ?_ ?_
 .skip
  refine tb (!O4 (Z0 c k).right []) (λh4=>?_) (λh4=>?_)
  .simp only [o5] at h4
   obtain ⟨q2,e2⟩:∃q:Nat,F8 c (Z0 c k).right k=q:=⟨_,(Int.toNat_of_nonneg (f2 h4)).symm⟩;have t2:=(kg c hs (k+1) q2 V V ho2).1;have l2:=dI hs (k+1) q2 V V ho2;have eR:rT c k=T6 c q2:=by unfold rT;rw [h4,e2,if_neg U,Int.toNat_natCast,W7 c V]
   rw [e2];refine gc t2 ?_;exact ⟨_,_,rfl,by rw [eR];rfl,by rw [eR];exact l2⟩
  .simp only [C5] at h4
   have eR:rT c k=[]:=by unfold rT;rw [h4,if_pos rfl]
   refine gr ?_;exact ⟨_,_,rfl,by rw [eR];rfl,by rw [eR];simp⟩
 rintro _ ⟨w6,w8,rfl,hw8,lR⟩;have hin:O (ins c k)<=100000:=by
  have:ins c k=lT c k++rT c k:=rfl;rw [this,eL];simp;omega
 have pS:=bs7 (T6 c q1) (rT c k) V;have pP:=bs8 (Z0 c k).on (T6 c q1) (rT c k) hv3 V V;have pW:=Ph (Z0 c k).wh (ins c k) hv4 hin;have pC:=aI0 (Z0 c k) (ins c k) hv1 hv2 hin (λi h=>hs.JC _ i hv h) (λi h=>hs.TG _ i hv h);have eL' :=eL.symm;rw [eL'];rw [<- eL] at pS pP;clear p1 p2 p3 t1 eL' eL;refine gr ?_;refine tb (x5 (Z0 c k).kind 2) (λh5=>?_) (λh5=>?_)
 .refine gr ?_
  refine tB (!gu x5 (lT c k) (rT c k)) ?_ (λh6=>?_) (λh6=>?_)
  .repeat' (first|refine mvS hw8 ?_|refine cl (pS) ?_|refine gx ?_|refine fq (λhw=>?_) λhw=>?_|refine ⟨rfl,rfl,_,rfl,?_⟩|refine ⟨rfl,rfl⟩|fail)
   all_goals exact cc
  .refine gr ?_
   exact ⟨_,rfl,by unfold Y3;rw [h1,h2,h3,h5,h6];rfl⟩
  .refine gr ?_
   exact ⟨_,rfl,by unfold Y3;rw [h1,h2,h3,h5,h6];rfl⟩
 repeat' (first|refine mvS hw8 ?_|refine cl (pP) ?_|refine gx ?_|fail)
 refine tb (!x5 (P5 (lT c k) (rT c k) (Z0 c k).on) 0) (λh6=>?_) (λh6=>?_)
 .refine gr ?_
  exact ⟨_,rfl,by unfold Y3;rw [h1,h2,h3,h5,h6];rfl⟩
 refine gc ti ?_;refine tb (F0 0 (O (Z0 c k).wh)) (λh7=>?_) (λh7=>?_)
 .refine gc pW ?_
  refine tb (!x5 (M8 (Z0 c k).wh (ins c k)).2 0) (λh8=>?_) (λh8=>?_)
  .refine gr ?_
   exact ⟨_,rfl,by unfold Y3;rw [h1,h2,h3,h5,h6,h7,h8];rfl⟩
  refine gr ?_;refine tb (!x5 (M8 (Z0 c k).wh (ins c k)).1 1) (λh9=>?_) (λh9=>?_)
  .refine gr ?_
   exact ⟨_,rfl,by unfold Y3;rw [h1,h2,h3,h5,h6,h7,h8,h9];rfl⟩
  refine gc pC ?_;exact ⟨_,rfl,by unfold Y3;rw [h1,h2,h3,h5,h6,h7,h8,h9];rfl⟩
 .refine gc pC ?_
  exact ⟨_,rfl,by unfold Y3;rw [h1,h2,h3,h5,h6,h7];rfl⟩
def mQ (c:p9)(name:K0)(col:Int):Int×Int :=
 if F0 (F8 c name (p9.ns c)) 0 then (0,7)
 else if !s4 col 0 (O (T6 c (F8 c name (p9.ns c)).toNat) - 1) then (0,3)
 else (Y (T6 c (F8 c name (p9.ns c)).toNat) col.toNat,0)
def Vj {c:p9}(hs:G8 c):p9.ns c<=2000:=by obtain ⟨f0,f1,_⟩:=hs.sm.iC;unfold p9.ns;omega
def Vt (c:p9)(hs:G8 c)(ho:uX c (p9.ns c))(name:K0)(col:Int):Pf A 204 [cat c,.d (.str name),.d (Z col)] (.tuple [.d (Z (mQ c name col).1),.d (Z (mQ c name col).2)]):=by
 have eD:=Vj hs;have an4:p9.ns c=O c.j7+O c.views:=rfl;have p1:=HA c name (p9.ns c) hs.sm.iC V;have b1:=L9 c name (p9.ns c);refine Pf.go 5 ?_;refine gc p1 ?_;refine tb (F0 (F8 c name (p9.ns c)) 0) (λh1=>?_) (λh1=>?_)
 .refine gr ?_
  exact ⟨_,rfl,by simp only [mQ,h1,if_true];rfl⟩
 have h2:=D4 h1;obtain ⟨q,e1⟩:∃q:Nat,F8 c name (p9.ns c)=q:=⟨_,(Int.toNat_of_nonneg h2).symm⟩;have t1:=(kg c hs (p9.ns c) q V V ho).1;have l1:=dI hs (p9.ns c) q V V ho;rw [e1] at h1 ⊢;refine gc t1 ?_;refine tc (!s4 col 0 (O (T6 c q) - 1)) tE (λh3=>?_) (λh3=>?_)
 .refine gr ?_
  exact ⟨_,rfl,by simp only [mQ,e1,h1,Int.toNat_natCast,h3,j5,if_false,if_true];rfl⟩
 have h4:=h3;simp [s4,x8] at h4;refine gr ?_;exact ⟨_,rfl,by simp only [mQ,e1,h1,Int.toNat_natCast,h3,j5,if_false];rfl⟩
def skt (x:mb):c7:= .agg (x.enc.map .d)
def rls (x:oo):c7:= .agg (x.enc.map .d)
def bkp (x:ru):c7:= .agg (x.enc.map .d)
def HP (x:mb):Bool:= !s4 x.kind 0 2|| !s4 x.width 1 1024|| !s4 x.depth 1 8||(x5 x.kind 2&& !x5 x.depth 1)||F0 1024 (x.width * x.depth)
def DK (c:p9)(x:mb):Int:=if !x5 (mQ c x.source x.col).2 0 then (mQ c x.source x.col).2 else if HP x then 1 else 0
set_option maxHeartbeats 8000000 in
def aI1 (c:p9)(hs:G8 c)(ho:uX c (p9.ns c))(x:mb):Pf A 205 [cat c,skt x] (.d (Z (DK c x))):=by
 have p1:=Vt c hs ho x.source x.col;refine Pf.go 4 ?_;refine gc p1 ?_;refine tb (!x5 (mQ c x.source x.col).2 0) (λh1=>?_) (λh1=>?_)
 .refine gr ?_
  exact ⟨_,rfl,by simp only [DK,h1,if_true];rfl⟩
 refine gr ?_;cases hW:s4 x.width 1 1024 with
 |false =>
  refine tB (W) ?_ (λh2=>?_) (λh2=>?_)
  .repeat' (first|refine cl (tE _ _ _) ?_|refine gx ?_|refine fq (λhw=>?_) λhw=>?_|refine ⟨rfl,rfl,_,rfl,?_⟩|refine ⟨rfl,rfl⟩|fail)
   all_goals first|(simp [*,j4,hW];done)|(simp_all [j4,hW];done)|(simp_all [j4,hW,A1,x8,o9,I9];done)|(simp_all [j4,hW,A1,x8,o9,I9]<;>omega)
  .refine gr ?_
   exact ⟨_,rfl,by simp [DK,h1,HP,hW,j4,Z]⟩
  .cases h2
 |true =>
 cases hD:s4 x.depth 1 8 with
 |false =>
  refine tB (W) ?_ (λh2=>?_) (λh2=>?_)
  .repeat' (first|refine cl (tE _ _ _) ?_|refine gx ?_|refine fq (λhw=>?_) λhw=>?_|refine ⟨rfl,rfl,_,rfl,?_⟩|refine ⟨rfl,rfl⟩|fail)
   all_goals first|(simp [*,j4,hW,hD];done)|(simp_all [j4,hW,hD];done)|(simp_all [j4,hW,hD,A1,x8,o9,I9];done)|(simp_all [j4,hW,hD,A1,x8,o9,I9]<;>omega)
  .refine gr ?_
   exact ⟨_,rfl,by simp [DK,h1,HP,hD,j4,Z]⟩
  .cases h2
 |true =>
 have hm: -9223372036854775808<=x.width * x.depth/\x.width * x.depth<9223372036854775808:=by
  simp [s4,x8] at hW hD;have m1:=Int.mul_le_mul hW.2 hD.2 V V;have m2:=Int.mul_nonneg (a:=x.width) (b:=x.depth) V V;omega
 refine tB (HP x) ?_ (λh2=>?_) (λh2=>?_)
 .repeat' (first|refine cl (tE _ _ _) ?_|refine mu (h0:=hm) ?_|refine gx ?_|refine fq (λhw=>?_) λhw=>?_|refine ⟨rfl,rfl,_,rfl,?_⟩|refine ⟨rfl,rfl⟩|fail)
  all_goals first|(simp [*,j4,HP,hW,hD];done)|(simp_all [j4,HP,hW,hD];done)|(simp_all [j4,HP,hW,hD,A1,x8,o9,I9];done)|(simp_all [j4,HP,hW,hD,A1,x8,o9,I9]<;>omega)
 .refine gr ?_
  exact ⟨_,rfl,by simp only [DK,h1,h2,j5,if_false,if_true];rfl⟩
 .refine gr ?_
  exact ⟨_,rfl,by simp only [DK,h1,h2,j5,if_false];rfl⟩
def Km (c:p9)(x:oo):Int :=
 if F0 (F8 c x.source (p9.ns c)) (O c.j7) then 7
 else if !x5 (Y c.views (F8 c x.source (p9.ns c) - O c.j7).toNat).kind 1|| !x5 (Y (Y c.views (F8 c x.source (p9.ns c) - O c.j7).toNat).I6 0).func 0|| !s4 x.thr 1 1024 then 1 else 0
set_option maxHeartbeats 8000000 in
def aI2 (c:p9)(hs:G8 c)(hg:∀k,k<O c.views->(Y c.views k).kind≠1\/0<O (Y c.views k).I6)(x:oo):Pf A 206 [cat c,rls x] (.d (Z (Km c x))):=by
 have eD:=Vj hs;have an4:p9.ns c=O c.j7+O c.views:=rfl;have p1:=HA c x.source (p9.ns c) hs.sm.iC V;have b1:=L9 c x.source (p9.ns c);refine Pf.go 5 ?_;refine gc p1 ?_;refine tb (F0 (F8 c x.source (p9.ns c)) (O c.j7)) (λh1=>?_) (λh1=>?_)
 .refine gr ?_
  exact ⟨_,rfl,by simp only [Km,h1,if_true];rfl⟩
 have h2:=D4 h1;have h3:=hg (F8 c x.source (p9.ns c) - O c.j7).toNat V;refine gr ?_;refine tc (!x5 (Y c.views (F8 c x.source (p9.ns c) - O c.j7).toNat).kind 1|| !x5 (Y (Y c.views (F8 c x.source (p9.ns c) - O c.j7).toNat).I6 0).func 0|| !s4 x.thr 1 1024) tE (λh4=>?_) (λh4=>?_)
 .refine gr ?_
  exact ⟨_,rfl,by simp only [Km,h1,h4,j5,if_false,if_true];rfl⟩
 .refine gr ?_
  exact ⟨_,rfl,by simp only [Km,h1,h4,j5,if_false];rfl⟩
def bkE (c:p9):List K0->List K0->Int
 |_,[]=>0
 |seen,t::r=>if F0 (gv c t (O c.j7)) 0 then 7 else if seen.any λy=>O4 y t then 4 else bkE c (seen++[t]) r
def Iw (c:p9)(x:ru):Int:=if x5 (O x.tables) 0|| !s4 x.keep 1 1048576 then 1 else bkE c [] x.tables
set_option maxHeartbeats 8000000 in
def aI3 (c:p9)(hf:c.iC)(x:ru)(hx:O x.tables<=1000):Pf A 208 [cat c,bkp x] (.d (Z (Iw c x))):=by
 have hn:O c.j7<=1000:=hf.1;refine Pf.gr 5 ?_;refine tc (x5 (O x.tables) 0|| !s4 x.keep 1 1048576) tE (λh1=>?_) (λh1=>?_)
 .refine gr ?_
  exact ⟨_,rfl,by simp only [Iw,h1,if_true];rfl⟩
 refine gr ?_;refine Ex.fh (λk T H=>∃(i:Nat) (w0 w1 w4 w6:c7),T=[w0,w1,.ptr 0 0,.ptr 1 0,w4,.d (Z i),w6]/\H=[.cells (c.enc.map .d),.cells (x.enc.map .d)]/\i+k=O x.tables/\Iw c x=bkE c (x.tables.take i) (x.tables.drop i)) ?_ (k:=O x.tables) ⟨0,_,_,_,_,rfl,rfl,U,by simp [Iw,h1]⟩;rintro k _ _ ⟨i,w0,w1,w4,w6,rfl,rfl,hk,hi⟩;refine Ex.nT ?_;refine Ex.seq ?_;refine tl i (O x.tables) (λh3=>?_) (λh3=>?_)
 .rw [D8 V] at hi
  have p1:=Vu c (Y x.tables i) (O c.j7) hf V;refine gr ?_;refine tc (F0 (gv c (Y x.tables i) (O c.j7)) 0) p1 (λh4=>?_) (λh4=>?_)
  .refine gr ?_
   exact ⟨_,rfl,by rw [hi];simp only [bkE,h4,if_true];rfl⟩
  refine gr ?_;refine Ex.fh (λk T H=>∃(j:Nat) (w0 w1 w4:c7),T=[w0,w1,.ptr 0 0,.ptr 1 0,w4,.d (Z i),.d (Z j)]/\H=[.cells (c.enc.map .d),.cells (x.enc.map .d)]/\j+k=i/\((x.tables.take i).any λy=>O4 y (Y x.tables i))=(((x.tables.take i).drop j).any λy=>O4 y (Y x.tables i))) ?_ (k:=i) ⟨0,_,_,_,rfl,rfl,U,U⟩;rintro k2 _ _ ⟨j,w0,w1,w4,rfl,rfl,hk2,hj⟩;refine Ex.nT ?_;refine Ex.seq ?_;refine tb (F0 j i) (λh5=>?_) (λh5=>?_)
  .have h6:=C8 h5
   rw [lV V V] at hj
   repeat' (first|refine gy ?_|refine ft (λht=>?_) λht=>?_|refine ⟨_,rfl,?_⟩|fail)
   .have g2:((x.tables.take i).any λy=>O4 y (Y x.tables i))=W:=by rw [hj];simp [ht]
    rw [hi];simp only [bkE,h4,g2,j4,Z,j5,if_true,if_false]
   .exact ⟨k2 - 1,V,j+1,_,_,_,rfl,rfl,V,by rw [hj];simp [ht]⟩
  have h6:=D4 h5;rw [n5 D] at hj;have g2:((x.tables.take i).any λy=>O4 y (Y x.tables i))=F:=by rw [hj];rfl
  refine gr ?_;refine kk ⟨i+1,_,_,_,_,rfl,rfl,V,?_⟩;rw [hi,H8 V];simp only [bkE,h4,g2,j5,if_false]
 .rw [n5 V] at hi
  refine gr ?_;exact ⟨_,rfl,by rw [hi];rfl⟩
def Sk (c:p9)(x:mg):Int:=if x5 (mQ c x.source x.col).2 0&& !x5 (mQ c x.source x.col).1 2 then 5 else (mQ c x.source x.col).2
def RD (c:p9)(x:oF):Int:=if x5 (mQ c x.source x.col).2 0&& !s4 x.ttl 1 1048576 then 1 else (mQ c x.source x.col).2
def Tf (c:p9)(x:rA):Int:=if F0 (gv c x.table (O c.j7)) 0 then 7 else 0
def Y1 (c:p9)(n:Nat):Int :=
 if n<O c.idxs then Sk c (Y c.idxs n)
 else if n - O c.idxs<O c.J7 then DK c (Y c.J7 (n - O c.idxs))
 else if n - O c.idxs - O c.J7<O c.L0 then RD c (Y c.L0 (n - O c.idxs - O c.J7))
 else if n - O c.idxs - O c.J7 - O c.L0<O c.M7 then Km c (Y c.M7 (n - O c.idxs - O c.J7 - O c.L0))
 else if n - O c.idxs - O c.J7 - O c.L0 - O c.M7<O c.O0 then Tf c (Y c.O0 (n - O c.idxs - O c.J7 - O c.L0 - O c.M7))
 else Iw c (Y c.Q3 (n - O c.idxs - O c.J7 - O c.L0 - O c.M7 - O c.O0))
set_option maxHeartbeats 16000000 in
def br9 (c:p9)(hs:G8 c)(ho:uX c (p9.ns c))(hg:∀k,k<O c.views->(Y c.views k).kind≠1\/0<O (Y c.views k).I6)(n:Nat)(hn:n<O c.idxs+O c.J7+O c.L0+O c.M7+O c.O0+O c.Q3) :
  Pf A 146 [cat c,.d (Z n)] (.d (Z (Y1 c n))):=by
 obtain ⟨f0,f1,f2,f3,f4,f5,f6,f7⟩:=hs.sm.iC;refine Pf.gr 5 ?_;refine tb (F0 n (O c.idxs)) (λh1=>?_) (λh1=>?_)
 .have h1' :=C8 h1
  have p1:=Vt c hs ho (Y c.idxs n).source (Y c.idxs n).col;have e1:Y1 c n=Sk c (Y c.idxs n):=by unfold Y1;rw [if_pos V]
  refine gc p1 ?_;refine tb (x5 (mQ c (Y c.idxs n).source (Y c.idxs n).col).2 0&& !x5 (mQ c (Y c.idxs n).source (Y c.idxs n).col).1 2) (λh2=>?_) (λh2=>?_)
  .refine gr ?_
   exact ⟨_,rfl,by rw [e1];unfold Sk;rw [h2];rfl⟩
  .refine gr ?_
   exact ⟨_,rfl,by rw [e1];unfold Sk;rw [h2];rfl⟩
 have h1' :=D4 h1;refine gr ?_;generalize Mp:n - O c.idxs=m1;have g1:(n:Int) - (O c.idxs:Int)=(m1:Int):=V
 rw [g1];refine tb (F0 m1 (O c.J7)) (λh3=>?_) (λh3=>?_)
 .have h3' :=C8 h3
  have p1:=aI1 c hs ho (Y c.J7 m1);have e1:Y1 c n=DK c (Y c.J7 m1):=by unfold Y1;rw [if_neg V,Mp,if_pos V]
  refine gc p1 ?_;exact ⟨_,rfl,by rw [e1];rfl⟩
 have h3' :=D4 h3;refine gr ?_;generalize hm2:m1 - O c.J7=m2;have g2:(m1:Int) - (O c.J7:Int)=(m2:Int):=V
 rw [g2];refine tb (F0 m2 (O c.L0)) (λh4=>?_) (λh4=>?_)
 .have h4' :=C8 h4
  have p1:=Vt c hs ho (Y c.L0 m2).source (Y c.L0 m2).col;have e1:Y1 c n=RD c (Y c.L0 m2):=by unfold Y1;rw [if_neg V,Mp,if_neg V,hm2,if_pos V]
  refine gc p1 ?_;refine tc (x5 (mQ c (Y c.L0 m2).source (Y c.L0 m2).col).2 0&& !s4 (Y c.L0 m2).ttl 1 1048576) tE (λh2=>?_) (λh2=>?_)
  .refine gr ?_
   exact ⟨_,rfl,by rw [e1];unfold RD;rw [h2];rfl⟩
  .refine gr ?_
   exact ⟨_,rfl,by rw [e1];unfold RD;rw [h2];rfl⟩
 have h4' :=D4 h4;refine gr ?_;generalize hm3:m2 - O c.L0=m3;have g3:(m2:Int) - (O c.L0:Int)=(m3:Int):=V
 rw [g3];refine tb (F0 m3 (O c.M7)) (λh5=>?_) (λh5=>?_)
 .have h5' :=C8 h5
  have p1:=aI2 c hs hg (Y c.M7 m3);have e1:Y1 c n=Km c (Y c.M7 m3):=by unfold Y1;rw [if_neg V,Mp,if_neg V,hm2,if_neg V,hm3,if_pos V]
  refine gc p1 ?_;exact ⟨_,rfl,by rw [e1];rfl⟩
 have h5' :=D4 h5;refine gr ?_;generalize hm4:m3 - O c.M7=m4;have g4:(m3:Int) - (O c.M7:Int)=(m4:Int):=V
 rw [g4];refine tb (F0 m4 (O c.O0)) (λh6=>?_) (λh6=>?_)
 .have h6' :=C8 h6
  have p1:=Vu c (Y c.O0 m4).table (O c.j7) hs.sm.iC V;have e1:Y1 c n=Tf c (Y c.O0 m4):=by unfold Y1;rw [if_neg V,Mp,if_neg V,hm2,if_neg V,hm3,if_neg V,hm4,if_pos V]
  refine gr ?_;refine tc (F0 (gv c (Y c.O0 m4).table (O c.j7)) 0) p1 (λh2=>?_) (λh2=>?_)
  .refine gr ?_
   exact ⟨_,rfl,by rw [e1];unfold Tf;rw [h2];rfl⟩
  .refine gr ?_
   exact ⟨_,rfl,by rw [e1];unfold Tf;rw [h2];rfl⟩
 have h6' :=D4 h6;have hb:=hs.bk (m4 - O c.O0) V;have p1:=aI3 c hs.sm.iC (Y c.Q3 (m4 - O c.O0)) hb;have e1:Y1 c n=Iw c (Y c.Q3 (m4 - O c.O0)):=by unfold Y1;rw [if_neg V,Mp,if_neg V,hm2,if_neg V,hm3,if_neg V,hm4,if_neg V]
 repeat' (first|refine cl (p1) ?_|refine ixI (e:=(m4:Int) - (O c.O0:Int)) (m4 - O c.O0) (h2:=?_)|refine gx ?_|fail)
 exact ⟨_,rfl,by rw [e1];rfl⟩
def Ex.aO8 {A:Go.A5.Prog}{l:J2}{b:Nat}{c:p7}{st:St}{Q:J6->St->Prop}(P:St->Prop)(h1:Ex A l b c st (oI (λ_ _=>False) P))(h2:∀s,P s->Q .normal s):Ex A l b c st Q:=by
 refine h1.mono λx s h=>?_
 cases x with
 |normal=>exact h2 s h
 |exit i=>exact h.elim
 |ret=>exact h.elim
def EN (a b c d e f:Int):Bool:=F0 16 a||F0 16 b||F0 16 c||F0 16 d||F0 16 e||F0 16 f
def tooMany (c:p9):Bool:=F0 8 (O c.j7)||F0 12 (O c.views)||EN (O c.idxs) (O c.J7) (O c.L0) (O c.M7) (O c.O0) (O c.Q3)
def max2 (x y:Int):Int:=if y>x then y else x
def Zf (x y:Int):F0 16 (max2 x y)=(F0 16 x||F0 16 y):=by
 grind [max2,A1,decide]
def Va (a b c d e f:Int):F0 16 (max2 (max2 (max2 (max2 (max2 a b) c) d) e) f)=EN a b c d e f:=by
 simp [Zf,EN]
def Q6 (c:p9)(i:Nat):Int :=
 if !M3 (Y c.names i) then 3 else if (c.names.take i).any λy=>O4 y (Y c.names i) then 4
 else if i<O c.j7 then eH c i else if i<p9.ns c then Y3 c i else Y1 c (i - p9.ns c)
def ic (c:p9):Nat->Nat->Int×Int
 |0,_=>(0,0)
 |k+1,i=>if !x5 (Q6 c i) 0 then (i,Q6 c i) else ic c k (i+1)
def W5 (c:p9):Int×Int:=if tooMany c then (0,8) else ic c (O c.names) 0
theorem AZ {c:p9}{m:Nat}(h:Q6 c m=0):(!M3 (Y c.names m))=F/\((c.names.take m).any λy=>O4 y (Y c.names m))=F:=by
 grind [Q6,M3,Y,O4]
def Y0 {c:p9}{m:Nat}(h:Q6 c m=0)(hm:m<O c.j7):eH c m=0:=by
 grind [Q6]
def eC {c:p9}{m:Nat}(h:Q6 c m=0)(hm:O c.j7<=m)(hm2:m<p9.ns c):Y3 c m=0:=by
 grind [Q6]
theorem fA {c:p9}{m:Nat}(h:eH c m=0):0<O (Y c.j7 m).o7/\O (Y c.j7 m).o7<=8:=by
 grind [eH,s4,x8]
def iK {c:p9}{m:Nat}(h:Y3 c m=0):s4 (Z0 c m).kind 0 2=W/\0<=F8 c (Z0 c m).left m/\(O4 (Z0 c m).right []=F->0<=F8 c (Z0 c m).right m)/\bQ (Z0 c m)=W:=by
 unfold Y3 at h;split at h
 .omega
 .split at h
  .omega
  .split at h
   all_goals simp_all [Bool.not_eq_true,D5,D4]
def Fh {v:Vw}(h:bQ v=W):v.kind≠1\/0<O v.I6:=by
 cases h1:x5 v.kind 1 with
 |false=>simp_all [ot]
 |true =>
  grind [bQ,x5]
def lP (c:p9)(i:Nat):Prop:=∀m,m<i->Q6 c m=0
def jY {c:p9}{i:Nat}(h:lP c i)(hi:i<=p9.ns c):uX c i:=λk h1 h2=>by
 have:=iK (eC (h k h2) h1 V);exact ⟨this.2.1,this.2.2.1⟩
def eF (c:p9):O c.names=p9.ns c+(O c.idxs+O c.J7+O c.L0+O c.M7+O c.O0+O c.Q3):=by simp [p9.names,p9.ns];omega
set_option maxHeartbeats 16000000 in
def br3 (c:p9)(hs:G8 c):Pf A 95 [cat c] (pair (W5 c)):=by
 have hnl:=eF c;have eD:p9.ns c=O c.j7+O c.views:=rfl;obtain ⟨f0,f1,f2,f3,f4,f5,f6,f7⟩:=id hs.sm.iC;have hmm:=Va (O c.idxs) (O c.J7) (O c.L0) (O c.M7) (O c.O0) (O c.Q3);refine Pf.gr 7 ?_;refine tB (tooMany c) ?_ (λh1=>?_) (λh1=>?_)
 .repeat' (first|refine mm (d:= .int .i64 (max2 (max2 (max2 (max2 (max2 (O c.idxs) (O c.J7)) (O c.L0)) (O c.M7)) (O c.O0)) (O c.Q3))) ?_|refine gx ?_|refine fq (λhw=>?_) λhw=>?_|refine ⟨rfl,rfl,_,rfl,?_⟩|refine ⟨rfl,rfl⟩|fail)
  all_goals first|(simp [*,j4,tooMany,hmm];done)|(simp_all [j4,tooMany,hmm];done)|(simp_all [j4,tooMany,hmm,A1,x8,o9,I9];done)|(simp_all [j4,tooMany,hmm,A1,x8,o9,I9]<;>omega)
 .refine gr ?_
  exact ⟨_,rfl,by unfold W5;rw [h1];rfl⟩
 refine gc (aL6 c hs.sm.iC) ?_;refine Ex.fh (λk T H=>∃(i:Nat) (w0 w2 w3 w6 w7:c7),T=[w0,.ptr 0 0,w2,w3,.d (y6 encS c.names),.d (Z i),w6,w7]/\H=[.cells (c.enc.map .d)]/\i+k=O c.names/\lP c i/\W5 c=ic c k i) ?_ (k:=O c.names) ⟨0,_,_,_,_,_,rfl,rfl,U,λm h=>absurd h V,by unfold W5;rw [h1];rfl⟩;rintro k _ _ ⟨i,w0,w2,w3,w6,w7,rfl,rfl,hk,hok,hi⟩;refine Ex.nT ?_;refine Ex.seq ?_;refine tl i (O c.names) (λh3=>?_) (λh3=>?_)
 .obtain ⟨k,rfl⟩:∃k',k=k' +1:=⟨k - 1,V⟩
  rw [ic] at hi;refine gr ?_;refine tc (!M3 (Y c.names i)) ar5 (λh4=>?_) (λh4=>?_)
  .refine gr ?_
   have e1:Q6 c i=3:=by unfold Q6;rw [h4];rfl
   exact ⟨_,rfl,by rw [hi,e1];simp [o9,pair,j4,c7.K9,Z]⟩
  refine gr ?_;refine Ex.fh (λk T H=>∃(j:Nat) (w0 w2 w3 w7:c7),T=[w0,.ptr 0 0,w2,w3,.d (y6 encS c.names),.d (Z i),.d (Z j),w7]/\H=[.cells (c.enc.map .d)]/\j+k=i/\((c.names.take i).any λy=>O4 y (Y c.names i))=(((c.names.take i).drop j).any λy=>O4 y (Y c.names i))) ?_ (k:=i) ⟨0,_,_,_,_,rfl,rfl,U,U⟩;rintro k2 _ _ ⟨j,w0,w2,w3,w7,rfl,rfl,hk2,hj⟩;refine Ex.nT ?_;refine Ex.seq ?_;refine tb (F0 j i) (λh5=>?_) (λh5=>?_)
  .have h6:=C8 h5
   rw [lV V V] at hj
   repeat' (first|refine gy ?_|refine ft (λht=>?_) λht=>?_|refine ⟨_,rfl,?_⟩|fail)
   .have g2:((c.names.take i).any λy=>O4 y (Y c.names i))=W:=by rw [hj];simp [ht]
    have e1:Q6 c i=4:=by unfold Q6;rw [h4,g2];rfl
    rw [hi,e1];simp [o9,pair,j4,c7.K9,Z]
   .exact ⟨k2 - 1,V,j+1,_,_,_,_,rfl,rfl,V,by rw [hj];simp [ht]⟩
  have h6:=D4 h5;rw [n5 D] at hj;have g2:((c.names.take i).any λy=>O4 y (Y c.names i))=F:=by rw [hj];rfl
  clear hj hk2 h5 h6;refine gr ?_;refine Ex.aO8 (λs=>∃(w0 w2 w3 w6:c7),s=⟨[w0,.ptr 0 0,w2,w3,.d (y6 encS c.names),.d (Z i),w6,.d (Z (Q6 c i))],[.cells (c.enc.map .d)]⟩) ?_ ?_
  .skip
   refine tb (F0 i (O c.j7)) (λh5=>?_) (λh5=>?_)
   .have h6:=C8 h5
    have p1:=br7 c i hs.sm V (λm hm=>(fA (Y0 (hok m hm) V)).1);have e1:Q6 c i=eH c i:=by unfold Q6;rw [h4,g2,if_neg U,if_neg U,if_pos V]
    rw [e1];refine gc p1 ?_;exact ⟨_,_,_,_,rfl⟩
   have h6:=D4 h5;refine tc (F0 i (p9.ns c)) eD (λh7=>?_) (λh7=>?_)
   .have h8:=C8 h7
    have p1:=br8 c hs i V V (jY hok V);have e1:Q6 c i=Y3 c i:=by unfold Q6;rw [h4,g2,if_neg U,if_neg U,if_neg V,if_pos V]
    rw [e1];refine gc p1 ?_;exact ⟨_,_,_,_,rfl⟩
   .have h8:=D4 h7
    have p1:=br9 c hs (jY (λm hm=>hok m V) (k9 _)) (λm hm=>by
     have h9:=iK (eC (hok (m+O c.j7) V) V V);have h10:Z0 c (m+O c.j7)=Y c.views m:=by unfold Z0;rw [Nat.add_sub_cancel]
     rw [h10] at h9;exact Fh h9.2.2.2) (i - p9.ns c) V
    have e1:Q6 c i=Y1 c (i - p9.ns c):=by unfold Q6;rw [h4,g2,if_neg U,if_neg U,if_neg V,if_neg V]
    rw [e1];refine gr ?_;refine cl p1 ?_ (ha:=by rw [show ((i - p9.ns c:Nat):Int)=(i:Int) - (O c.j7:Int) - (O c.views:Int) by omega];rfl);refine gr ?_;exact ⟨_,_,_,_,rfl⟩
  rintro _ ⟨w0,w2,w3,w6,rfl⟩;refine gr ?_;refine tb (!x5 (Q6 c i) 0) (λh5=>?_) (λh5=>?_)
  .refine gr ?_
   exact ⟨_,rfl,by rw [hi,h5];rfl⟩
  .refine gr ?_
   refine ⟨k,V,i+1,_,_,_,_,_,rfl,rfl,V,λm hm=>?_,by rw [hi,h5];rfl⟩
   rcases A7 m i with h6|h6
   .exact hok m h6
   .obtain rfl:m=i:=V
    exact br (by simpa using h5)
 .obtain rfl:k=0:=V
  refine gr ?_;exact ⟨_,rfl,by rw [hi];rfl⟩
end Go.Proofs.YtibjocmpkoepoaaGreat


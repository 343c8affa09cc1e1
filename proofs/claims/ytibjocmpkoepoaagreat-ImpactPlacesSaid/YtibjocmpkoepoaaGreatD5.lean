import Derived.Test.YtibjocmpkoepoaaGreatD0
set_option linter.all false
open Bool renaming false_eq_true→e8,not_eq_false'→D5,not_eq_true'→o8,or_eq_false_iff→E5,true→W,false→F
open List renaming drop_of_length_le→o7,take_of_length_le→y6,length→O
open Nat renaming le_refl→o6,lt_or_ge→x9
open Option renaming some→J,none→K
namespace Go.Proofs.YtibjocmpkoepoaaGreat
open Go.B3 Go.B3.S
attribute [local irreducible] Rx Ry Rn Ex Pf
structure J8 (c:s6):Prop where
 sm:s6.small c
 items:∀k,k<O c.views->O (Y c.views k).items<=1000
 L7:∀k,k<O c.views->O (Y c.views k).L7<=1000
 on:∀k,k<O c.views->O (Y c.views k).on<=1000
 wh:∀k,k<O c.views->O (Y c.views k).wh<=1000
 Lq:∀k i,k<O c.views->i<O (Y c.views k).items->O (Y (Y c.views k).items i).expr<=1000
 WJ:∀k i,k<O c.views->i<O (Y c.views k).L7->O (Y (Y c.views k).L7 i).expr<=1000
 bk:∀k,k<O c.W6->O (Y c.W6 k).tables<=1000
def yC (ty:List Int)(a:Ke):Int:=if A1 a.func 0||A1 a.func 1 then 1 else (O1 a.expr ty).1
def cL (v:Vw)(ty:List Int):List Int:=v.items.map (λx=>(O1 x.expr ty).1)++v.L7.map (yC ty)
def FR (c:s6)(prev:List (List Int))(v:Vw)(k:Nat):List Int:=Y prev (K7 c v.left k).toNat++(if Q2 v.right [] then [] else Y prev (K7 c v.right k).toNat)
def lY (c:s6)(prev:List (List Int))(k:Nat):List Int :=
 if k<O c.k9 then (Y c.k9 k).p9.map dY.type
 else if A1 (Y c.views (k - O c.k9)).kind 2 then Y prev (K7 c (Y c.views (k - O c.k9)).left k).toNat
 else cL (Y c.views (k - O c.k9)) (FR c prev (Y c.views (k - O c.k9)) k)
def yj (c:s6):Nat->List (List Int)
 |0=>[]
 |k+1=>yj c k++[lY c (yj c k) k]
def aS (c:s6)(k:Nat):List Int:=lY c (yj c k) k
def ins (c:s6)(k:Nat):List Int:=FR c (yj c k) (Y c.views (k - O c.k9)) k
theorem MH (c:s6):∀k,O (yj c k)=k
 |0=>rfl
 |k+1=>by simp [yj,MH c k]
theorem aB (c:s6):∀{k j:Nat},j<k->Y (yj c k) j=aS c j
 |k+1,j,h=>by
  have hl:=MH c k
  rcases x9 j k with h1|h1
  .rw [<- aB c h1,yj,H6 D,H6 V,List.getElem_append_left V]
  grind [yj,H6,List.getElem_append_right,aS]
def vZ (c:s6)(n:Nat):Prop:=∀k,O c.k9<=k->k<n->0<=K7 c (Y c.views (k - O c.k9)).left k/\(Q2 (Y c.views (k - O c.k9)).right []=F->0<=K7 c (Y c.views (k - O c.k9)).right k)
def O5 (c:s6)(name:M6)(n:Nat):K7 c name n= -1\/(0<=K7 c name n/\K7 c name n<n/\K7 c name n<s6.ns c):=by
 grind [K7,iH,s6.sn,aQ]
theorem ee {c:s6}(hs:J8 c):∀(n k:Nat),k<n->n<=s6.ns c->vZ c n->O (aS c k)<=2000
 |0,k,h,_,_=>absurd h V
 |n+1,k,h,hn,ho=>by
  rcases x9 k n with h1|h1
  .exact ee hs n k h1 V (λk h1 h2=>ho k h1 V)
  unfold aS lY;split
  next h2=>
   have:=hs.sm.p9 k h2;simp;omega
  .have hv:k - O c.k9<O c.views:=by grind [s6.ns]
   split
   .have h3:=(ho k V V).1
    rcases O5 c (Y c.views (k - O c.k9)).left k with h4|h4
    .omega
    .rw [aB c V]
     exact ee hs k _ V V (λk h1 h2=>ho k h1 V)
   .have h5:=hs.items _ hv
    have h6:=hs.L7 _ hv
    grind [cL]
set_option maxHeartbeats 8000000 in
theorem kX (c:s6)(hs:J8 c):∀(n s:Nat),s<n->n<=s6.ns c->vZ c n->Pf A 54 [cat c,.d (Z s)] (.d (ints (aS c s)))/\(O c.k9<=s->Pf A 113 [cat c,.d (Z s)] (.d (ints (ins c s))))
 |0,s,h,_,_=>absurd h V
 |n+1,s,h,hn,ho=>by
  have gv:s6.ns c<=2000:=by obtain ⟨f0,f1,_⟩:=hs.sm.lH;unfold s6.ns;omega
  have aJ7:s6.ns c=O c.k9+O c.views:=rfl
  rcases x9 s n with h1|h1
  .exact kX c hs n s h1 V (λk h1 h2=>ho k h1 V)
  obtain rfl:s=n:=V
  have ih:∀k,k<s->Pf A 54 [cat c,.d (Z k)] (.d (ints (aS c k))):=λk hk=>(kX c hs s k hk V (λk h1 h2=>ho k h1 V)).1
  have hlen:∀k,k<s->O (aS c k)<=2000:=λk hk=>ee hs s k hk V (λk h1 h2=>ho k h1 V)
  have hin:O c.k9<=s->Pf A 113 [cat c,.d (Z s)] (.d (ints (ins c s))):=λht=>by
   have hv:s - O c.k9<O c.views:=V
   obtain ⟨o1,o2⟩:=ho s ht V;have b1:=O5 c (Y c.views (s - O c.k9)).left s;have b2:=O5 c (Y c.views (s - O c.k9)).right s;obtain ⟨q1,e1⟩:∃q:Nat,K7 c (Y c.views (s - O c.k9)).left s=q:=⟨_,(Int.toNat_of_nonneg o1).symm⟩;have p1:=Jg c (Y c.views (s - O c.k9)).left s hs.sm.lH V;have p2:=Jg c (Y c.views (s - O c.k9)).right s hs.sm.lH V;rw [e1] at p1;have l1:=hlen q1 V;have t1:=ih q1 V;refine Pf.go 4 ?_
   repeat' (first|refine ixI (e:=(s:Int) - (O c.k9:Int)) (s - O c.k9) (h2:=?_)|refine gx ?_|fail)
   refine gc (And.intro p1 t1) ?_;refine tb (!Q2 (Y c.views (s - O c.k9)).right []) (λh2=>?_) (λh2=>?_)
   .simp only [o8] at h2
    obtain ⟨q2,e2⟩:∃q:Nat,K7 c (Y c.views (s - O c.k9)).right s=q:=⟨_,(Int.toNat_of_nonneg (o2 h2)).symm⟩;rw [e2] at p2;have l2:=hlen q2 V;have t2:=ih q2 V;refine gc (And.intro p2 t2) ?_;refine ⟨_,rfl,?_⟩;simp only [ins,FR,e1,e2,Int.toNat_natCast,h2,e8,if_false];rw [aB c V,aB c V];rfl
   .simp only [D5] at h2
    refine gr ?_;refine ⟨_,rfl,?_⟩;simp only [ins,FR,e1,Int.toNat_natCast,h2,if_true];rw [aB c V];simp [j5,ints,B8]
  refine ⟨?_,hin⟩;refine Pf.gr 10 ?_;refine tb (J2 s (O c.k9)) (λh2=>?_) (λh2=>?_)
  .have h3:=F5 h2
   have hcl:=hs.sm.p9 s V;refine gr ?_;refine Ex.R8 (λk T H=>∃(i:Nat) (acc:List Int),T=[.any,.d (Z s),.ptr 0 0,.any,L1 1 (λn=>[Z n]) acc,.d (Z i),.any,.any,.any,.any,.any,.any]/\H=[.cells (c.enc.map .d)]/\i+k=O (Y c.k9 s).p9/\acc=((Y c.k9 s).p9.take i).map dY.type) ?_ (k:=O (Y c.k9 s).p9) ⟨0,[],rfl,rfl,U,U⟩;rintro k _ _ ⟨i,acc,rfl,rfl,hk,hacc⟩;have hl:O acc=i:=by rw [hacc];simp;omega
   repeat' (first|refine gy ?_|refine ft (λht=>?_) λht=>?_|refine ⟨_,rfl,?_⟩|fail)
   .have h4:=F5 ht
    refine kk ⟨i+1,acc++[(Y (Y c.k9 s).p9 i).type],rfl,rfl,V,?_⟩;rw [N7 V,hacc];simp
   .have h4:=G7 ht
    rw [y6 V] at hacc;simp only [aS,lY];rw [if_pos V,<- hacc];rfl
  have h3:=G7 h2;have hv:s - O c.k9<O c.views:=V
  obtain ⟨o1,o2⟩:=ho s V V;have b1:=O5 c (Y c.views (s - O c.k9)).left s;have b2:=O5 c (Y c.views (s - O c.k9)).right s;obtain ⟨q1,e1⟩:∃q:Nat,K7 c (Y c.views (s - O c.k9)).left s=q:=⟨_,(Int.toNat_of_nonneg o1).symm⟩;have p1:=Jg c (Y c.views (s - O c.k9)).left s hs.sm.lH V;rw [e1] at p1;have l1:=hlen q1 V;have t1:=ih q1 V;have EZ:O (ins c s)<=4000:=by
   simp only [ins,FR,e1,Int.toNat_natCast];rw [aB c V];cases h5:Q2 (Y c.views (s - O c.k9)).right [] with
   |true=>simp;omega
   |false =>
    have h6:=o2 h5;have h7:=hlen (K7 c (Y c.views (s - O c.k9)).right s).toNat V;rw [aB c V];simp;omega
  have hi1:=hs.items _ hv;have hi2:=hs.L7 _ hv
  repeat' (first|refine ixI (e:=(s:Int) - (O c.k9:Int)) (s - O c.k9) (h2:=?_)|refine gx ?_|fail)
  refine tb (A1 (Y c.views (s - O c.k9)).kind 2) (λh4=>?_) (λh4=>?_)
  .refine gc (And.intro p1 t1) ?_
   refine ⟨_,rfl,?_⟩;have hct:aS c s=Y (yj c s) q1:=by
    unfold aS lY;rw [if_neg V,h4,if_pos rfl,e1];rfl
   rw [hct,aB c V];rfl
  refine gc (hin V) ?_;refine Ex.R8 (λk T H=>∃(i:Nat) (acc:List Int),T=[.any,.any,.any,.any,L1 1 (λn=>[Z n]) acc,.any,.ptr 1 0,.d (ints (ins c s)),.d (Z i),.any,.any,.any]/\H=[.cells (c.enc.map .d),.cells ((Y c.views (s - O c.k9)).enc.map .d)]/\i+k=O (Y c.views (s - O c.k9)).items/\acc=((Y c.views (s - O c.k9)).items.take i).map λx=>(O1 x.expr (ins c s)).1) ?_ (k:=O (Y c.views (s - O c.k9)).items) ⟨0,[],rfl,rfl,U,U⟩;rintro k _ _ ⟨i,acc,rfl,rfl,hk,hacc⟩;have hl:O acc=i:=by rw [hacc];simp;omega
  refine Ex.seq ?_;refine tb (J2 i (O (Y c.views (s - O c.k9)).items)) (λh5=>?_) (λh5=>?_)
  .have h6:=F5 h5
   refine gc (RP (Y (Y c.views (s - O c.k9)).items i).expr (ins c s) (hs.Lq (s - O c.k9) i hv V) V) ?_;refine kk ⟨i+1,acc++[(O1 (Y (Y c.views (s - O c.k9)).items i).expr (ins c s)).1],rfl,rfl,V,?_⟩;rw [N7 V,hacc];simp
  have h6:=G7 h5;rw [y6 V] at hacc;clear h5 h6 hk hl;refine gr ?_;have hl0:O acc<=1000:=by rw [hacc];simp;omega
  refine Ex.R8 (λk T H=>∃(i:Nat) (Ur:List Int),T=[.any,.any,.any,.any,L1 1 (λn=>[Z n]) Ur,.any,.ptr 1 0,.d (ints (ins c s)),.any,.any,.d (Z i),.any]/\H=[.cells (c.enc.map .d),.cells ((Y c.views (s - O c.k9)).enc.map .d)]/\i+k=O (Y c.views (s - O c.k9)).L7/\Ur=acc++((Y c.views (s - O c.k9)).L7.take i).map (yC (ins c s))) ?_ (k:=O (Y c.views (s - O c.k9)).L7) ⟨0,acc,rfl,rfl,U,U⟩;rintro k _ _ ⟨i,Ur,rfl,rfl,hk,KV⟩;have hl:O Ur=O acc+i:=by rw [KV];simp;omega
  refine Ex.seq ?_;refine tb (J2 i (O (Y c.views (s - O c.k9)).L7)) (λh5=>?_) (λh5=>?_)
  .have h6:=F5 h5
   refine gc (RP (Y (Y c.views (s - O c.k9)).L7 i).expr (ins c s) (hs.WJ (s - O c.k9) i hv V) V) ?_;refine tb (A1 (Y (Y c.views (s - O c.k9)).L7 i).func 0||A1 (Y (Y c.views (s - O c.k9)).L7 i).func 1) (λh7=>?_) (λh7=>?_)
   .refine gr ?_
    refine kk ⟨i+1,Ur++[1],rfl,rfl,V,?_⟩;rw [N7 V,KV];simp [yC,h7]
   .refine gr ?_
    refine kk ⟨i+1,Ur++[(O1 (Y (Y c.views (s - O c.k9)).L7 i).expr (ins c s)).1],rfl,rfl,V,?_⟩;rw [N7 V,KV];simp [yC,h7]
  .have h6:=G7 h5
   rw [y6 V] at KV;refine gr ?_;refine ⟨_,rfl,?_⟩;simp only [aS,lY];rw [if_neg V,h4,if_neg U];simp only [cL];rw [show FR c (yj c s) (Y c.views (s - O c.k9)) s=ins c s from rfl,<- hacc,<- KV];rfl
structure Ic where
 agg:Bool
 name:M6
 f:Int
 expr:List bU
instance:Inhabited Ic:=⟨⟨F,[],0,[]⟩⟩
def dP (v:Vw):List Ic:=v.items.map (λx=>⟨F,x.name, -1,x.expr⟩)++v.L7.map (λx=>⟨W,x.name,x.func,x.expr⟩)
def bz (ty:List Int):List M6->List Ic->Int
 |_,[]=>0
 |seen,e::r =>
  if !M5 e.name then 3
  else if seen.any λy=>Q2 y e.name then 4
  else if e.agg&&(!s4 e.f 0 4||(A1 e.f 0&&J2 0 (O e.expr))) then 1
  else if e.agg&&A1 e.f 0 then bz ty (seen++[e.name]) r
  else if !A1 (O1 e.expr ty).2 0 then (O1 e.expr ty).2
  else if e.agg&&A1 e.f 1&& !A1 (O1 e.expr ty).1 1 then 5
  else bz ty (seen++[e.name]) r
def nq (v:Vw):O (dP v)=O v.items+O v.L7:=by simp [dP]
def xy (v:Vw){i:Nat}(h:i<O v.items):Y (dP v) i=⟨F,(Y v.items i).name, -1,(Y v.items i).expr⟩:=by
 rw [H6 (by rw [nq];omega),H6 h];simp [dP,List.getElem_append_left,h]
def Ch (v:Vw){i:Nat}(h:O v.items<=i)(h2:i<O v.items+O v.L7):Y (dP v) i=⟨W,(Y v.L7 (i - O v.items)).name,(Y v.L7 (i - O v.items)).func,(Y v.L7 (i - O v.items)).expr⟩:=by
 rw [H6 (by rw [nq];omega),H6 V];simp [dP,List.getElem_append_right,h]
def UK (v:Vw){i:Nat}(h:i<O v.items+O v.L7):(Y (dP v) i).agg=bC (O v.items) i:=by
 rcases x9 i (O v.items) with h1|h1
 .rw [xy v h1];simp [A7];omega
 .rw [Ch v h1 h];simp [A7];omega
set_option maxHeartbeats 16000000 in
def be2 (v:Vw)(ty:List Int)(h0:O v.items<=1000)(h1:O v.L7<=1000)(h2:O ty<=100000)(h3:∀i,i<O v.items->O (Y v.items i).expr<=1000)(h4:∀i,i<O v.L7->O (Y v.L7 i).expr<=1000) :
  Pf A 203 [vw v,.d (ints ty)] (.d (Z (bz ty [] (dP v)))):=by
 have hel:=nq v;refine Pf.gr 11 ?_;refine Ex.gX (λk T H=>∃(i:Nat) (seen:List M6),T=[.any,.d (ints ty),.ptr 0 0,.any,L1 1 (λs=>[.str s]) seen,.d (Z i),.any,.any,.any,.any,.any,.any,.any]/\H=[.cells (v.enc.map .d)]/\i+k=O (dP v)/\O seen=i/\bz ty [] (dP v)=bz ty seen ((dP v).drop i)) ?_ (k:=O (dP v)) ⟨0,[],rfl,rfl,U,rfl,U⟩;rintro k _ _ ⟨i,seen,rfl,rfl,hk,XU,hi⟩;refine Ex.seq ?_;refine tc (J2 i (O (dP v))) hel (λh5=>?_) (λh5=>?_)
 .have h6:=F5 h5
  have hix:i<O v.items+O v.L7:=V
  rw [E3 V] at hi;have hfl:=UK v hix;refine gr ?_;refine Ex.aa4 (λs=>∃(f:Int) (H2:n9) (w9:c7),s=⟨[.any,.d (ints ty),.ptr 0 0,.any,L1 1 (λs=>[.str s]) seen,.d (Z i),.d (.str (Y (dP v) i).name),.d (Z (Y (dP v) i).f),.d (B8 bU.enc (Y (dP v) i).expr),w9,.any,.any,.any],.cells (v.enc.map .d)::H2⟩/\O (Y (dP v) i).expr<=1000) ?_ ?_
  .skip
   refine tl i (O v.items) (λh8=>?_) (λh8=>?_)
   .have he:=h3 i V
    rw [xy v V];refine gr ?_;exact ⟨-1,_,_,rfl,he⟩
   .have he:=h4 (i - O v.items) V
    rw [Ch v V hix]
    repeat' (first|refine ixI (e:=(i:Int) - (O v.items:Int)) (i - O v.items) (h2:=?_)|refine gx ?_|fail)
    exact ⟨0,_,_,rfl,he⟩
  rintro _ ⟨f,H2,w9,rfl,he⟩;generalize hen:Y (dP v) i=en at *
  obtain ⟨ag,nm,ef,ex⟩:=en;simp only at *
  subst hfl;have bb2:=RP ex ty he h2;refine gr ?_;refine tc (!M5 nm) aN6 (λg1=>?_) (λg1=>?_)
  .refine gr ?_
   exact ⟨_,rfl,by rw [hi];simp only [bz,g1,j5,Z,if_true]⟩
  refine gr ?_;refine Ex.jH (λk T H=>∃(j:Nat) (w0 w3 w9 Ww w12:c7),T=[w0,.d (ints ty),.ptr 0 0,w3,L1 1 (λs=>[.str s]) seen,.d (Z i),.d (.str nm),.d (Z ef),.d (B8 bU.enc ex),w9,.d (Z j),Ww,w12]/\H= .cells (v.enc.map .d)::H2/\j+k=O seen/\(seen.any λy=>Q2 y nm)=((seen.drop j).any λy=>Q2 y nm)) ?_ (k:=O seen) ⟨0,_,_,_,_,_,rfl,rfl,U,U⟩;rintro k2 _ _ ⟨j,w0,w3,w9,Ww,w12,rfl,rfl,hk2,hj⟩;refine Ex.nT ?_;refine Ex.seq ?_;refine tb (J2 j (O seen)) (λg0=>?_) (λg0=>?_)
  .have g00:=F5 g0
   rw [E3 V] at hj
   repeat' (first|refine gy ?_|refine ft (λht=>?_) λht=>?_|refine ⟨_,rfl,?_⟩|fail)
   .have g2:(seen.any λy=>Q2 y nm)=W:=by rw [hj];simp [ht]
    rw [hi];simp only [bz,g1,g2,j5,Z,e8,if_true,if_false]
   .exact ⟨k2 - 1,V,j+1,_,_,_,_,_,rfl,rfl,V,by rw [hj];simp [ht]⟩
  have g00:=G7 g0;rw [o7 V] at hj;have g2:(seen.any λy=>Q2 y nm)=F:=by rw [hj];rfl
  clear hj hk2 g0 g00;refine gr ?_;refine tc (bC (O v.items) i&&(!s4 ef 0 4||(A1 ef 0&&J2 0 (O ex)))) uG (λg3=>?_) (λg3=>?_)
  .refine gr ?_
   exact ⟨_,rfl,by rw [hi];simp only [bz,g1,g2,g3,j5,Z,e8,if_true,if_false]⟩
  refine gr ?_;refine tb (bC (O v.items) i&&A1 ef 0) (λg4=>?_) (λg4=>?_)
  .refine gr ?_
   exact kk ⟨_,_,rfl,i+1,seen++[nm],rfl,rfl,V,by simp [XU],by rw [hi];simp only [bz,g1,g2,g3,g4,e8,if_true,if_false]⟩
  refine gc bb2 ?_;refine tb (!A1 (O1 ex ty).2 0) (λg5=>?_) (λg5=>?_)
  .refine gr ?_
   exact ⟨_,rfl,by rw [hi];simp only [bz,g1,g2,g3,g4,g5,j5,e8,if_true,if_false]⟩
  refine gr ?_;refine tb (bC (O v.items) i&&A1 ef 1&& !A1 (O1 ex ty).1 1) (λg6=>?_) (λg6=>?_)
  .refine gr ?_
   exact ⟨_,rfl,by rw [hi];simp only [bz,g1,g2,g3,g4,g5,g6,j5,Z,e8,if_true,if_false]⟩
  .refine gr ?_
   exact kk ⟨_,_,rfl,i+1,seen++[nm],rfl,rfl,V,by simp [XU],by rw [hi];simp only [bz,g1,g2,g3,g4,g5,g6,e8,if_true,if_false]⟩
 .have h6:=G7 h5
  rw [o7 V] at hi;refine gr ?_;exact ⟨_,rfl,by rw [hi];rfl⟩
def Z4 (c:s6)(k:Nat):Vw:=Y c.views (k - O c.k9)
def lT (c:s6)(k:Nat):List Int:=Y (yj c k) (K7 c (Z4 c k).left k).toNat
def rT (c:s6)(k:Nat):List Int:=if Q2 (Z4 c k).right [] then [] else Y (yj c k) (K7 c (Z4 c k).right k).toNat
def Z5 (c:s6)(k:Nat):Int :=
 if !s4 (Z4 c k).kind 0 2 then 1
 else if J2 (K7 c (Z4 c k).left k) 0||(!Q2 (Z4 c k).right []&&J2 (K7 c (Z4 c k).right k) 0) then 7
 else if !ff (Z4 c k) then 1
 else if A1 (Z4 c k).kind 2 then (if !gK A1 (lT c k) (rT c k) then 5 else 0)
 else if !A1 (S2 (lT c k) (rT c k) (Z4 c k).on) 0 then S2 (lT c k) (rT c k) (Z4 c k).on
 else if J2 0 (O (Z4 c k).wh)&& !A1 (O1 (Z4 c k).wh (ins c k)).2 0 then (O1 (Z4 c k).wh (ins c k)).2
 else if J2 0 (O (Z4 c k).wh)&& !A1 (O1 (Z4 c k).wh (ins c k)).1 1 then 5
 else bz (ins c k) [] (dP (Z4 c k))
set_option maxHeartbeats 16000000 in
def bO1 (c:s6)(hs:J8 c)(k:Nat)(hk:O c.k9<=k)(hk2:k<s6.ns c)(ho:vZ c k):Pf A 145 [cat c,.d (Z k)] (.d (Z (Z5 c k))):=by
 have gv:s6.ns c<=2000:=by obtain ⟨f0,f1,_⟩:=hs.sm.lH;unfold s6.ns;omega
 have aJ7:s6.ns c=O c.k9+O c.views:=rfl;have hv:k - O c.k9<O c.views:=V
 have hv1:O (Z4 c k).items<=1000:=hs.items _ hv;have hv2:O (Z4 c k).L7<=1000:=hs.L7 _ hv;have hv3:O (Z4 c k).on<=1000:=hs.on _ hv;have hv4:O (Z4 c k).wh<=1000:=hs.wh _ hv;have XW:Y c.views (k - O c.k9)=Z4 c k:=rfl;have p1:=Jg c (Z4 c k).left k hs.sm.lH V;have p2:=Jg c (Z4 c k).right k hs.sm.lH V;have p3:=bO9 c (Z4 c k) hv1 hv2;have b1:=O5 c (Z4 c k).left k;have b2:=O5 c (Z4 c k).right k;refine Pf.go 11 ?_
 repeat' (first|refine ixI (e:=(k:Int) - (O c.k9:Int)) (k - O c.k9) (h2:=?_)|refine gx ?_|fail)
 rw [XW];refine tc (!s4 (Z4 c k).kind 0 2) uG (λh1=>?_) (λh1=>?_)
 .refine gr ?_
  exact ⟨_,rfl,by unfold Z5;rw [h1];rfl⟩
 refine gc (And.intro p1 p2) ?_;refine tb (J2 (K7 c (Z4 c k).left k) 0||(!Q2 (Z4 c k).right []&&J2 (K7 c (Z4 c k).right k) 0)) (λh2=>?_) (λh2=>?_)
 .refine gr ?_
  exact ⟨_,rfl,by unfold Z5;rw [h1,h2];rfl⟩
 have h2' :=h2;simp only [E5] at h2';have f1:=G7 h2'.1;have f2:Q2 (Z4 c k).right []=F->0<=K7 c (Z4 c k).right k:=λh=>by
  have:=h2'.2;simp only [h,Bool.not_false,Bool.true_and] at this;exact G7 this
 have ho2:vZ c (k+1):=λm h h' =>by
  rcases x9 m k with h3|h3
  .exact ho m h h3
  .obtain rfl:m=k:=V
   exact ⟨f1,f2⟩
 obtain ⟨q1,e1⟩:∃q:Nat,K7 c (Z4 c k).left k=q:=⟨_,(Int.toNat_of_nonneg f1).symm⟩;have t1:=(kX c hs (k+1) q1 V V ho2).1;have ti:=(kX c hs (k+1) k V V ho2).2 hk;have l1:=ee hs (k+1) q1 V V ho2;have eL:lT c k=aS c q1:=by unfold lT;rw [e1,Int.toNat_natCast,aB c V]
 refine tc (!ff (Z4 c k)) p3 (λh3=>?_) (λh3=>?_)
 .refine gr ?_
  exact ⟨_,rfl,by unfold Z5;rw [h1,h2,h3];rfl⟩
 rw [e1];refine gc t1 ?_;refine Ex.aa4 (λs=>∃(w6 w8:c7),s=⟨[cat c,.d (Z k),.ptr 0 0,.d (Z 0),.ptr 1 0,.d (Z q1),w6,.d (ints (aS c q1)),w8,.any,.any,.any,.any],[.cells (c.enc.map .d),.cells ((Z4 c k).enc.map .d)]⟩/\w8.F4= .d (ints (rT c k))/\O (rT c k)<=2000) ?_ ?_
 .skip
  refine tb (!Q2 (Z4 c k).right []) (λh4=>?_) (λh4=>?_)
  .simp only [o8] at h4
   obtain ⟨q2,e2⟩:∃q:Nat,K7 c (Z4 c k).right k=q:=⟨_,(Int.toNat_of_nonneg (f2 h4)).symm⟩;have t2:=(kX c hs (k+1) q2 V V ho2).1;have l2:=ee hs (k+1) q2 V V ho2;have eR:rT c k=aS c q2:=by unfold rT;rw [h4,e2,if_neg U,Int.toNat_natCast,aB c V]
   rw [e2];refine gc t2 ?_;exact ⟨_,_,rfl,by rw [eR];rfl,by rw [eR];exact l2⟩
  .simp only [D5] at h4
   have eR:rT c k=[]:=by unfold rT;rw [h4,if_pos rfl]
   refine gr ?_;exact ⟨_,_,rfl,by rw [eR];rfl,by rw [eR];simp⟩
 rintro _ ⟨w6,w8,rfl,hw8,lR⟩;have hin:O (ins c k)<=100000:=by
  have:ins c k=lT c k++rT c k:=rfl;rw [this,eL];simp;omega
 have pS:=bP0 (aS c q1) (rT c k) V;have pP:=bP1 (Z4 c k).on (aS c q1) (rT c k) hv3 V V;have pW:=RP (Z4 c k).wh (ins c k) hv4 hin;have pC:=be2 (Z4 c k) (ins c k) hv1 hv2 hin (λi h=>hs.Lq _ i hv h) (λi h=>hs.WJ _ i hv h);have eL' :=eL.symm;rw [eL'];rw [<- eL] at pS pP;clear p1 p2 p3 t1 eL' eL;refine gr ?_;refine tb (A1 (Z4 c k).kind 2) (λh5=>?_) (λh5=>?_)
 .refine gr ?_
  refine tB (!gK A1 (lT c k) (rT c k)) ?_ (λh6=>?_) (λh6=>?_)
  .repeat' (first|refine mvS hw8 ?_|refine cl (pS) ?_|refine gx ?_|refine fq (λhw=>?_) λhw=>?_|refine ⟨rfl,rfl,_,rfl,?_⟩|refine ⟨rfl,rfl⟩|fail)
   all_goals exact cc
  .refine gr ?_
   exact ⟨_,rfl,by unfold Z5;rw [h1,h2,h3,h5,h6];rfl⟩
  .refine gr ?_
   exact ⟨_,rfl,by unfold Z5;rw [h1,h2,h3,h5,h6];rfl⟩
 repeat' (first|refine mvS hw8 ?_|refine cl (pP) ?_|refine gx ?_|fail)
 refine tb (!A1 (S2 (lT c k) (rT c k) (Z4 c k).on) 0) (λh6=>?_) (λh6=>?_)
 .refine gr ?_
  exact ⟨_,rfl,by unfold Z5;rw [h1,h2,h3,h5,h6];rfl⟩
 refine gc ti ?_;refine tb (J2 0 (O (Z4 c k).wh)) (λh7=>?_) (λh7=>?_)
 .refine gc pW ?_
  refine tb (!A1 (O1 (Z4 c k).wh (ins c k)).2 0) (λh8=>?_) (λh8=>?_)
  .refine gr ?_
   exact ⟨_,rfl,by unfold Z5;rw [h1,h2,h3,h5,h6,h7,h8];rfl⟩
  refine gr ?_;refine tb (!A1 (O1 (Z4 c k).wh (ins c k)).1 1) (λh9=>?_) (λh9=>?_)
  .refine gr ?_
   exact ⟨_,rfl,by unfold Z5;rw [h1,h2,h3,h5,h6,h7,h8,h9];rfl⟩
  refine gc pC ?_;exact ⟨_,rfl,by unfold Z5;rw [h1,h2,h3,h5,h6,h7,h8,h9];rfl⟩
 .refine gc pC ?_
  exact ⟨_,rfl,by unfold Z5;rw [h1,h2,h3,h5,h6,h7];rfl⟩
def nM (c:s6)(name:M6)(col:Int):Int×Int :=
 if J2 (K7 c name (s6.ns c)) 0 then (0,7)
 else if !s4 col 0 (O (aS c (K7 c name (s6.ns c)).toNat) - 1) then (0,3)
 else (Y (aS c (K7 c name (s6.ns c)).toNat) col.toNat,0)
def Yz {c:s6}(hs:J8 c):s6.ns c<=2000:=by obtain ⟨f0,f1,_⟩:=hs.sm.lH;unfold s6.ns;omega
def YN (c:s6)(hs:J8 c)(ho:vZ c (s6.ns c))(name:M6)(col:Int):Pf A 204 [cat c,.d (.str name),.d (Z col)] (.tuple [.d (Z (nM c name col).1),.d (Z (nM c name col).2)]):=by
 have gv:=Yz hs;have aJ7:s6.ns c=O c.k9+O c.views:=rfl;have p1:=Jg c name (s6.ns c) hs.sm.lH V;have b1:=O5 c name (s6.ns c);refine Pf.go 5 ?_;refine gc p1 ?_;refine tb (J2 (K7 c name (s6.ns c)) 0) (λh1=>?_) (λh1=>?_)
 .refine gr ?_
  exact ⟨_,rfl,by simp only [nM,h1,if_true];rfl⟩
 have h2:=G7 h1;obtain ⟨q,e1⟩:∃q:Nat,K7 c name (s6.ns c)=q:=⟨_,(Int.toNat_of_nonneg h2).symm⟩;have t1:=(kX c hs (s6.ns c) q V V ho).1;have l1:=ee hs (s6.ns c) q V V ho;rw [e1] at h1 ⊢;refine gc t1 ?_;refine tc (!s4 col 0 (O (aS c q) - 1)) uG (λh3=>?_) (λh3=>?_)
 .refine gr ?_
  exact ⟨_,rfl,by simp only [nM,e1,h1,Int.toNat_natCast,h3,e8,if_false,if_true];rfl⟩
 have h4:=h3;simp [s4,A7] at h4;refine gr ?_;exact ⟨_,rfl,by simp only [nM,e1,h1,Int.toNat_natCast,h3,e8,if_false];rfl⟩
def skt (x:oh):c7:= .agg (x.enc.map .d)
def rls (x:qh):c7:= .agg (x.enc.map .d)
def bkp (x:uO):c7:= .agg (x.enc.map .d)
def JB (x:oh):Bool:= !s4 x.kind 0 2|| !s4 x.width 1 1024|| !s4 x.depth 1 8||(A1 x.kind 2&& !A1 x.depth 1)||J2 1024 (x.width * x.depth)
def Fl (c:s6)(x:oh):Int:=if !A1 (nM c x.source x.col).2 0 then (nM c x.source x.col).2 else if JB x then 1 else 0
set_option maxHeartbeats 8000000 in
def be3 (c:s6)(hs:J8 c)(ho:vZ c (s6.ns c))(x:oh):Pf A 205 [cat c,skt x] (.d (Z (Fl c x))):=by
 have p1:=YN c hs ho x.source x.col;refine Pf.go 4 ?_;refine gc p1 ?_;refine tb (!A1 (nM c x.source x.col).2 0) (λh1=>?_) (λh1=>?_)
 .refine gr ?_
  exact ⟨_,rfl,by simp only [Fl,h1,if_true];rfl⟩
 refine gr ?_;cases hW:s4 x.width 1 1024 with
 |false =>
  refine tB (W) ?_ (λh2=>?_) (λh2=>?_)
  .repeat' (first|refine cl (uG _ _ _) ?_|refine gx ?_|refine fq (λhw=>?_) λhw=>?_|refine ⟨rfl,rfl,_,rfl,?_⟩|refine ⟨rfl,rfl⟩|fail)
   all_goals first|(simp [*,j5,hW];done)|(simp_all [j5,hW];done)|(simp_all [j5,hW,A5,A7,p7,I5];done)|(simp_all [j5,hW,A5,A7,p7,I5]<;>omega)
  .refine gr ?_
   exact ⟨_,rfl,by simp [Fl,h1,JB,hW,j5,Z]⟩
  .cases h2
 |true =>
 cases hD:s4 x.depth 1 8 with
 |false =>
  refine tB (W) ?_ (λh2=>?_) (λh2=>?_)
  .repeat' (first|refine cl (uG _ _ _) ?_|refine gx ?_|refine fq (λhw=>?_) λhw=>?_|refine ⟨rfl,rfl,_,rfl,?_⟩|refine ⟨rfl,rfl⟩|fail)
   all_goals first|(simp [*,j5,hW,hD];done)|(simp_all [j5,hW,hD];done)|(simp_all [j5,hW,hD,A5,A7,p7,I5];done)|(simp_all [j5,hW,hD,A5,A7,p7,I5]<;>omega)
  .refine gr ?_
   exact ⟨_,rfl,by simp [Fl,h1,JB,hD,j5,Z]⟩
  .cases h2
 |true =>
 have hm: -9223372036854775808<=x.width * x.depth/\x.width * x.depth<9223372036854775808:=by
  simp [s4,A7] at hW hD;have m1:=Int.mul_le_mul hW.2 hD.2 V V;have m2:=Int.mul_nonneg (a:=x.width) (b:=x.depth) V V;omega
 refine tB (JB x) ?_ (λh2=>?_) (λh2=>?_)
 .repeat' (first|refine cl (uG _ _ _) ?_|refine mu (h0:=hm) ?_|refine gx ?_|refine fq (λhw=>?_) λhw=>?_|refine ⟨rfl,rfl,_,rfl,?_⟩|refine ⟨rfl,rfl⟩|fail)
  all_goals first|(simp [*,j5,JB,hW,hD];done)|(simp_all [j5,JB,hW,hD];done)|(simp_all [j5,JB,hW,hD,A5,A7,p7,I5];done)|(simp_all [j5,JB,hW,hD,A5,A7,p7,I5]<;>omega)
 .refine gr ?_
  exact ⟨_,rfl,by simp only [Fl,h1,h2,e8,if_false,if_true];rfl⟩
 .refine gr ?_
  exact ⟨_,rfl,by simp only [Fl,h1,h2,e8,if_false];rfl⟩
def Md (c:s6)(x:qh):Int :=
 if J2 (K7 c x.source (s6.ns c)) (O c.k9) then 7
 else if !A1 (Y c.views (K7 c x.source (s6.ns c) - O c.k9).toNat).kind 1|| !A1 (Y (Y c.views (K7 c x.source (s6.ns c) - O c.k9).toNat).L7 0).func 0|| !s4 x.thr 1 1024 then 1 else 0
set_option maxHeartbeats 8000000 in
def be4 (c:s6)(hs:J8 c)(hg:∀k,k<O c.views->(Y c.views k).kind≠1\/0<O (Y c.views k).L7)(x:qh):Pf A 206 [cat c,rls x] (.d (Z (Md c x))):=by
 have gv:=Yz hs;have aJ7:s6.ns c=O c.k9+O c.views:=rfl;have p1:=Jg c x.source (s6.ns c) hs.sm.lH V;have b1:=O5 c x.source (s6.ns c);refine Pf.go 5 ?_;refine gc p1 ?_;refine tb (J2 (K7 c x.source (s6.ns c)) (O c.k9)) (λh1=>?_) (λh1=>?_)
 .refine gr ?_
  exact ⟨_,rfl,by simp only [Md,h1,if_true];rfl⟩
 have h2:=G7 h1;have h3:=hg (K7 c x.source (s6.ns c) - O c.k9).toNat V;refine gr ?_;refine tc (!A1 (Y c.views (K7 c x.source (s6.ns c) - O c.k9).toNat).kind 1|| !A1 (Y (Y c.views (K7 c x.source (s6.ns c) - O c.k9).toNat).L7 0).func 0|| !s4 x.thr 1 1024) uG (λh4=>?_) (λh4=>?_)
 .refine gr ?_
  exact ⟨_,rfl,by simp only [Md,h1,h4,e8,if_false,if_true];rfl⟩
 .refine gr ?_
  exact ⟨_,rfl,by simp only [Md,h1,h4,e8,if_false];rfl⟩
def bkE (c:s6):List M6->List M6->Int
 |_,[]=>0
 |seen,t::r=>if J2 (gb c t (O c.k9)) 0 then 7 else if seen.any λy=>Q2 y t then 4 else bkE c (seen++[t]) r
def Ko (c:s6)(x:uO):Int:=if A1 (O x.tables) 0|| !s4 x.keep 1 1048576 then 1 else bkE c [] x.tables
set_option maxHeartbeats 8000000 in
def be5 (c:s6)(hf:c.lH)(x:uO)(hx:O x.tables<=1000):Pf A 208 [cat c,bkp x] (.d (Z (Ko c x))):=by
 have hn:O c.k9<=1000:=hf.1;refine Pf.gr 5 ?_;refine tc (A1 (O x.tables) 0|| !s4 x.keep 1 1048576) uG (λh1=>?_) (λh1=>?_)
 .refine gr ?_
  exact ⟨_,rfl,by simp only [Ko,h1,if_true];rfl⟩
 refine gr ?_;refine Ex.jH (λk T H=>∃(i:Nat) (w0 w1 w4 w6:c7),T=[w0,w1,.ptr 0 0,.ptr 1 0,w4,.d (Z i),w6]/\H=[.cells (c.enc.map .d),.cells (x.enc.map .d)]/\i+k=O x.tables/\Ko c x=bkE c (x.tables.take i) (x.tables.drop i)) ?_ (k:=O x.tables) ⟨0,_,_,_,_,rfl,rfl,U,by simp [Ko,h1]⟩;rintro k _ _ ⟨i,w0,w1,w4,w6,rfl,rfl,hk,hi⟩;refine Ex.nT ?_;refine Ex.seq ?_;refine tl i (O x.tables) (λh3=>?_) (λh3=>?_)
 .rw [E3 V] at hi
  have p1:=YO c (Y x.tables i) (O c.k9) hf V;refine gr ?_;refine tc (J2 (gb c (Y x.tables i) (O c.k9)) 0) p1 (λh4=>?_) (λh4=>?_)
  .refine gr ?_
   exact ⟨_,rfl,by rw [hi];simp only [bkE,h4,if_true];rfl⟩
  refine gr ?_;refine Ex.jH (λk T H=>∃(j:Nat) (w0 w1 w4:c7),T=[w0,w1,.ptr 0 0,.ptr 1 0,w4,.d (Z i),.d (Z j)]/\H=[.cells (c.enc.map .d),.cells (x.enc.map .d)]/\j+k=i/\((x.tables.take i).any λy=>Q2 y (Y x.tables i))=(((x.tables.take i).drop j).any λy=>Q2 y (Y x.tables i))) ?_ (k:=i) ⟨0,_,_,_,rfl,rfl,U,U⟩;rintro k2 _ _ ⟨j,w0,w1,w4,rfl,rfl,hk2,hj⟩;refine Ex.nT ?_;refine Ex.seq ?_;refine tb (J2 j i) (λh5=>?_) (λh5=>?_)
  .have h6:=F5 h5
   rw [mS V V] at hj
   repeat' (first|refine gy ?_|refine ft (λht=>?_) λht=>?_|refine ⟨_,rfl,?_⟩|fail)
   .have g2:((x.tables.take i).any λy=>Q2 y (Y x.tables i))=W:=by rw [hj];simp [ht]
    rw [hi];simp only [bkE,h4,g2,j5,Z,e8,if_true,if_false]
   .exact ⟨k2 - 1,V,j+1,_,_,_,rfl,rfl,V,by rw [hj];simp [ht]⟩
  have h6:=G7 h5;rw [o7 D] at hj;have g2:((x.tables.take i).any λy=>Q2 y (Y x.tables i))=F:=by rw [hj];rfl
  refine gr ?_;refine kk ⟨i+1,_,_,_,_,rfl,rfl,V,?_⟩;rw [hi,N7 V];simp only [bkE,h4,g2,e8,if_false]
 .rw [o7 V] at hi
  refine gr ?_;exact ⟨_,rfl,by rw [hi];rfl⟩
def Vd (c:s6)(x:pe):Int:=if A1 (nM c x.source x.col).2 0&& !A1 (nM c x.source x.col).1 2 then 5 else (nM c x.source x.col).2
def Uv (c:s6)(x:rY):Int:=if A1 (nM c x.source x.col).2 0&& !s4 x.ttl 1 1048576 then 1 else (nM c x.source x.col).2
def Wc (c:s6)(x:uP):Int:=if J2 (gb c x.table (O c.k9)) 0 then 7 else 0
def Y4 (c:s6)(n:Nat):Int :=
 if n<O c.idxs then Vd c (Y c.idxs n)
 else if n - O c.idxs<O c.M7 then Fl c (Y c.M7 (n - O c.idxs))
 else if n - O c.idxs - O c.M7<O c.O0 then Uv c (Y c.O0 (n - O c.idxs - O c.M7))
 else if n - O c.idxs - O c.M7 - O c.O0<O c.R1 then Md c (Y c.R1 (n - O c.idxs - O c.M7 - O c.O0))
 else if n - O c.idxs - O c.M7 - O c.O0 - O c.R1<O c.S8 then Wc c (Y c.S8 (n - O c.idxs - O c.M7 - O c.O0 - O c.R1))
 else Ko c (Y c.W6 (n - O c.idxs - O c.M7 - O c.O0 - O c.R1 - O c.S8))
set_option maxHeartbeats 16000000 in
def bO2 (c:s6)(hs:J8 c)(ho:vZ c (s6.ns c))(hg:∀k,k<O c.views->(Y c.views k).kind≠1\/0<O (Y c.views k).L7)(n:Nat)(hn:n<O c.idxs+O c.M7+O c.O0+O c.R1+O c.S8+O c.W6) :
  Pf A 146 [cat c,.d (Z n)] (.d (Z (Y4 c n))):=by
 obtain ⟨f0,f1,f2,f3,f4,f5,f6,f7⟩:=hs.sm.lH;refine Pf.gr 5 ?_;refine tb (J2 n (O c.idxs)) (λh1=>?_) (λh1=>?_)
 .have h1' :=F5 h1
  have p1:=YN c hs ho (Y c.idxs n).source (Y c.idxs n).col;have e1:Y4 c n=Vd c (Y c.idxs n):=by unfold Y4;rw [if_pos V]
  refine gc p1 ?_;refine tb (A1 (nM c (Y c.idxs n).source (Y c.idxs n).col).2 0&& !A1 (nM c (Y c.idxs n).source (Y c.idxs n).col).1 2) (λh2=>?_) (λh2=>?_)
  .refine gr ?_
   exact ⟨_,rfl,by rw [e1];unfold Vd;rw [h2];rfl⟩
  .refine gr ?_
   exact ⟨_,rfl,by rw [e1];unfold Vd;rw [h2];rfl⟩
 have h1' :=G7 h1;refine gr ?_;generalize Rm:n - O c.idxs=m1;have g1:(n:Int) - (O c.idxs:Int)=(m1:Int):=V
 rw [g1];refine tb (J2 m1 (O c.M7)) (λh3=>?_) (λh3=>?_)
 .have h3' :=F5 h3
  have p1:=be3 c hs ho (Y c.M7 m1);have e1:Y4 c n=Fl c (Y c.M7 m1):=by unfold Y4;rw [if_neg V,Rm,if_pos V]
  refine gc p1 ?_;exact ⟨_,rfl,by rw [e1];rfl⟩
 have h3' :=G7 h3;refine gr ?_;generalize hm2:m1 - O c.M7=m2;have g2:(m1:Int) - (O c.M7:Int)=(m2:Int):=V
 rw [g2];refine tb (J2 m2 (O c.O0)) (λh4=>?_) (λh4=>?_)
 .have h4' :=F5 h4
  have p1:=YN c hs ho (Y c.O0 m2).source (Y c.O0 m2).col;have e1:Y4 c n=Uv c (Y c.O0 m2):=by unfold Y4;rw [if_neg V,Rm,if_neg V,hm2,if_pos V]
  refine gc p1 ?_;refine tc (A1 (nM c (Y c.O0 m2).source (Y c.O0 m2).col).2 0&& !s4 (Y c.O0 m2).ttl 1 1048576) uG (λh2=>?_) (λh2=>?_)
  .refine gr ?_
   exact ⟨_,rfl,by rw [e1];unfold Uv;rw [h2];rfl⟩
  .refine gr ?_
   exact ⟨_,rfl,by rw [e1];unfold Uv;rw [h2];rfl⟩
 have h4' :=G7 h4;refine gr ?_;generalize hm3:m2 - O c.O0=m3;have g3:(m2:Int) - (O c.O0:Int)=(m3:Int):=V
 rw [g3];refine tb (J2 m3 (O c.R1)) (λh5=>?_) (λh5=>?_)
 .have h5' :=F5 h5
  have p1:=be4 c hs hg (Y c.R1 m3);have e1:Y4 c n=Md c (Y c.R1 m3):=by unfold Y4;rw [if_neg V,Rm,if_neg V,hm2,if_neg V,hm3,if_pos V]
  refine gc p1 ?_;exact ⟨_,rfl,by rw [e1];rfl⟩
 have h5' :=G7 h5;refine gr ?_;generalize hm4:m3 - O c.R1=m4;have g4:(m3:Int) - (O c.R1:Int)=(m4:Int):=V
 rw [g4];refine tb (J2 m4 (O c.S8)) (λh6=>?_) (λh6=>?_)
 .have h6' :=F5 h6
  have p1:=YO c (Y c.S8 m4).table (O c.k9) hs.sm.lH V;have e1:Y4 c n=Wc c (Y c.S8 m4):=by unfold Y4;rw [if_neg V,Rm,if_neg V,hm2,if_neg V,hm3,if_neg V,hm4,if_pos V]
  refine gr ?_;refine tc (J2 (gb c (Y c.S8 m4).table (O c.k9)) 0) p1 (λh2=>?_) (λh2=>?_)
  .refine gr ?_
   exact ⟨_,rfl,by rw [e1];unfold Wc;rw [h2];rfl⟩
  .refine gr ?_
   exact ⟨_,rfl,by rw [e1];unfold Wc;rw [h2];rfl⟩
 have h6' :=G7 h6;have hb:=hs.bk (m4 - O c.S8) V;have p1:=be5 c hs.sm.lH (Y c.W6 (m4 - O c.S8)) hb;have e1:Y4 c n=Ko c (Y c.W6 (m4 - O c.S8)):=by unfold Y4;rw [if_neg V,Rm,if_neg V,hm2,if_neg V,hm3,if_neg V,hm4,if_neg V]
 repeat' (first|refine cl (p1) ?_|refine ixI (e:=(m4:Int) - (O c.S8:Int)) (m4 - O c.S8) (h2:=?_)|refine gx ?_|fail)
 exact ⟨_,rfl,by rw [e1];rfl⟩
def Ex.bm4 {A:Go.B3.Prog}{l:H8}{b:Nat}{c:p6}{st:St}{Q:E6->St->Prop}(P:St->Prop)(h1:Ex A l b c st (xC (λ_ _=>False) P))(h2:∀s,P s->Q .normal s):Ex A l b c st Q:=by
 refine h1.mono λx s h=>?_
 cases x with
 |normal=>exact h2 s h
 |exit i=>exact h.elim
 |ret=>exact h.elim
def Gc (a b c d e f:Int):Bool:=J2 16 a||J2 16 b||J2 16 c||J2 16 d||J2 16 e||J2 16 f
def tooMany (c:s6):Bool:=J2 8 (O c.k9)||J2 12 (O c.views)||Gc (O c.idxs) (O c.M7) (O c.O0) (O c.R1) (O c.S8) (O c.W6)
def max2 (x y:Int):Int:=if y>x then y else x
def ap3 (x y:Int):J2 16 (max2 x y)=(J2 16 x||J2 16 y):=by
 grind [max2,A5,decide]
def Yn (a b c d e f:Int):J2 16 (max2 (max2 (max2 (max2 (max2 a b) c) d) e) f)=Gc a b c d e f:=by
 simp [ap3,Gc]
def Q4 (c:s6)(i:Nat):Int :=
 if !M5 (Y c.names i) then 3 else if (c.names.take i).any λy=>Q2 y (Y c.names i) then 4
 else if i<O c.k9 then fh c i else if i<s6.ns c then Z5 c i else Y4 c (i - s6.ns c)
def iW (c:s6):Nat->Nat->Int×Int
 |0,_=>(0,0)
 |k+1,i=>if !A1 (Q4 c i) 0 then (i,Q4 c i) else iW c k (i+1)
def Y8 (c:s6):Int×Int:=if tooMany c then (0,8) else iW c (O c.names) 0
theorem Cm {c:s6}{m:Nat}(h:Q4 c m=0):(!M5 (Y c.names m))=F/\((c.names.take m).any λy=>Q2 y (Y c.names m))=F:=by
 grind [Q4,M5,Y,Q2]
def Z9 {c:s6}{m:Nat}(h:Q4 c m=0)(hm:m<O c.k9):fh c m=0:=by
 grind [Q4]
def iD {c:s6}{m:Nat}(h:Q4 c m=0)(hm:O c.k9<=m)(hm2:m<s6.ns c):Z5 c m=0:=by
 grind [Q4]
def fN {c:s6}{m:Nat}(h:fh c m=0):0<O (Y c.k9 m).p9/\O (Y c.k9 m).p9<=8:=by
 grind [fh,s4,A7]
def jq {c:s6}{m:Nat}(h:Z5 c m=0):s4 (Z4 c m).kind 0 2=W/\0<=K7 c (Z4 c m).left m/\(Q2 (Z4 c m).right []=F->0<=K7 c (Z4 c m).right m)/\ff (Z4 c m)=W:=by
 unfold Z5 at h;split at h
 .omega
 .split at h
  .omega
  .split at h
   all_goals simp_all [Bool.not_eq_true,E5,G7]
def Gx {v:Vw}(h:ff v=W):v.kind≠1\/0<O v.L7:=by
 cases h1:A1 v.kind 1 with
 |false=>simp_all [qz]
 |true =>
  grind [ff,A1]
def mO (c:s6)(i:Nat):Prop:=∀m,m<i->Q4 c m=0
def kV {c:s6}{i:Nat}(h:mO c i)(hi:i<=s6.ns c):vZ c i:=λk h1 h2=>by
 have:=jq (iD (h k h2) h1 V);exact ⟨this.2.1,this.2.2.1⟩
def fc (c:s6):O c.names=s6.ns c+(O c.idxs+O c.M7+O c.O0+O c.R1+O c.S8+O c.W6):=by simp [s6.names,s6.ns];omega
set_option maxHeartbeats 16000000 in
def bN7 (c:s6)(hs:J8 c):Pf A 95 [cat c] (pair (Y8 c)):=by
 have hnl:=fc c;have gv:s6.ns c=O c.k9+O c.views:=rfl;obtain ⟨f0,f1,f2,f3,f4,f5,f6,f7⟩:=id hs.sm.lH;have hmm:=Yn (O c.idxs) (O c.M7) (O c.O0) (O c.R1) (O c.S8) (O c.W6);refine Pf.gr 7 ?_;refine tB (tooMany c) ?_ (λh1=>?_) (λh1=>?_)
 .repeat' (first|refine mm (d:= .int .i64 (max2 (max2 (max2 (max2 (max2 (O c.idxs) (O c.M7)) (O c.O0)) (O c.R1)) (O c.S8)) (O c.W6))) ?_|refine gx ?_|refine fq (λhw=>?_) λhw=>?_|refine ⟨rfl,rfl,_,rfl,?_⟩|refine ⟨rfl,rfl⟩|fail)
  all_goals first|(simp [*,j5,tooMany,hmm];done)|(simp_all [j5,tooMany,hmm];done)|(simp_all [j5,tooMany,hmm,A5,A7,p7,I5];done)|(simp_all [j5,tooMany,hmm,A5,A7,p7,I5]<;>omega)
 .refine gr ?_
  exact ⟨_,rfl,by unfold Y8;rw [h1];rfl⟩
 refine gc (bh7 c hs.sm.lH) ?_;refine Ex.jH (λk T H=>∃(i:Nat) (w0 w2 w3 w6 w7:c7),T=[w0,.ptr 0 0,w2,w3,.d (B8 encS c.names),.d (Z i),w6,w7]/\H=[.cells (c.enc.map .d)]/\i+k=O c.names/\mO c i/\Y8 c=iW c k i) ?_ (k:=O c.names) ⟨0,_,_,_,_,_,rfl,rfl,U,λm h=>absurd h V,by unfold Y8;rw [h1];rfl⟩;rintro k _ _ ⟨i,w0,w2,w3,w6,w7,rfl,rfl,hk,hok,hi⟩;refine Ex.nT ?_;refine Ex.seq ?_;refine tl i (O c.names) (λh3=>?_) (λh3=>?_)
 .obtain ⟨k,rfl⟩:∃k',k=k' +1:=⟨k - 1,V⟩
  rw [iW] at hi;refine gr ?_;refine tc (!M5 (Y c.names i)) aN6 (λh4=>?_) (λh4=>?_)
  .refine gr ?_
   have e1:Q4 c i=3:=by unfold Q4;rw [h4];rfl
   exact ⟨_,rfl,by rw [hi,e1];simp [p7,pair,j5,c7.F4,Z]⟩
  refine gr ?_;refine Ex.jH (λk T H=>∃(j:Nat) (w0 w2 w3 w7:c7),T=[w0,.ptr 0 0,w2,w3,.d (B8 encS c.names),.d (Z i),.d (Z j),w7]/\H=[.cells (c.enc.map .d)]/\j+k=i/\((c.names.take i).any λy=>Q2 y (Y c.names i))=(((c.names.take i).drop j).any λy=>Q2 y (Y c.names i))) ?_ (k:=i) ⟨0,_,_,_,_,rfl,rfl,U,U⟩;rintro k2 _ _ ⟨j,w0,w2,w3,w7,rfl,rfl,hk2,hj⟩;refine Ex.nT ?_;refine Ex.seq ?_;refine tb (J2 j i) (λh5=>?_) (λh5=>?_)
  .have h6:=F5 h5
   rw [mS V V] at hj
   repeat' (first|refine gy ?_|refine ft (λht=>?_) λht=>?_|refine ⟨_,rfl,?_⟩|fail)
   .have g2:((c.names.take i).any λy=>Q2 y (Y c.names i))=W:=by rw [hj];simp [ht]
    have e1:Q4 c i=4:=by unfold Q4;rw [h4,g2];rfl
    rw [hi,e1];simp [p7,pair,j5,c7.F4,Z]
   .exact ⟨k2 - 1,V,j+1,_,_,_,_,rfl,rfl,V,by rw [hj];simp [ht]⟩
  have h6:=G7 h5;rw [o7 D] at hj;have g2:((c.names.take i).any λy=>Q2 y (Y c.names i))=F:=by rw [hj];rfl
  clear hj hk2 h5 h6;refine gr ?_;refine Ex.bm4 (λs=>∃(w0 w2 w3 w6:c7),s=⟨[w0,.ptr 0 0,w2,w3,.d (B8 encS c.names),.d (Z i),w6,.d (Z (Q4 c i))],[.cells (c.enc.map .d)]⟩) ?_ ?_
  .skip
   refine tb (J2 i (O c.k9)) (λh5=>?_) (λh5=>?_)
   .have h6:=F5 h5
    have p1:=bO0 c i hs.sm V (λm hm=>(fN (Z9 (hok m hm) V)).1);have e1:Q4 c i=fh c i:=by unfold Q4;rw [h4,g2,if_neg U,if_neg U,if_pos V]
    rw [e1];refine gc p1 ?_;exact ⟨_,_,_,_,rfl⟩
   have h6:=G7 h5;refine tc (J2 i (s6.ns c)) gv (λh7=>?_) (λh7=>?_)
   .have h8:=F5 h7
    have p1:=bO1 c hs i V V (kV hok V);have e1:Q4 c i=Z5 c i:=by unfold Q4;rw [h4,g2,if_neg U,if_neg U,if_neg V,if_pos V]
    rw [e1];refine gc p1 ?_;exact ⟨_,_,_,_,rfl⟩
   .have h8:=G7 h7
    have p1:=bO2 c hs (kV (λm hm=>hok m V) (o6 _)) (λm hm=>by
     have h9:=jq (iD (hok (m+O c.k9) V) V V);have h10:Z4 c (m+O c.k9)=Y c.views m:=by unfold Z4;rw [Nat.add_sub_cancel]
     rw [h10] at h9;exact Gx h9.2.2.2) (i - s6.ns c) V
    have e1:Q4 c i=Y4 c (i - s6.ns c):=by unfold Q4;rw [h4,g2,if_neg U,if_neg U,if_neg V,if_neg V]
    rw [e1];refine gr ?_;refine cl p1 ?_ (ha:=by rw [show ((i - s6.ns c:Nat):Int)=(i:Int) - (O c.k9:Int) - (O c.views:Int) by omega];rfl);refine gr ?_;exact ⟨_,_,_,_,rfl⟩
  rintro _ ⟨w0,w2,w3,w6,rfl⟩;refine gr ?_;refine tb (!A1 (Q4 c i) 0) (λh5=>?_) (λh5=>?_)
  .refine gr ?_
   exact ⟨_,rfl,by rw [hi,h5];rfl⟩
  .refine gr ?_
   refine ⟨k,V,i+1,_,_,_,_,_,rfl,rfl,V,λm hm=>?_,by rw [hi,h5];rfl⟩
   rcases x9 m i with h6|h6
   .exact hok m h6
   .obtain rfl:m=i:=V
    exact aT (by simpa using h5)
 .obtain rfl:k=0:=V
  refine gr ?_;exact ⟨_,rfl,by rw [hi];rfl⟩
end Go.Proofs.YtibjocmpkoepoaaGreat


import Derived.Test.YtibjocmpkoepoaaGreatD0
set_option linter.all false
open Bool renaming and_eq_true → c9, false_eq_true → j5, not_eq_false' → O1, not_eq_true' → o8, not_false → M0, or_eq_false_iff → E6
open List renaming drop_of_length_le → n5, take_of_length_le → A8
open Nat renaming lt_or_ge → s5
namespace Go.Proofs.YtibjocmpkoepoaaGreat
open Go.Abs Go.Abs.S
attribute [local irreducible] Rx Ry Rn Ex Pf
structure Q2 (c:y4):Prop where
 sm:y4.small c
 items:∀ k,k<c.views.length->(nth c.views k).items.length<=1000
 D2:∀ k,k<c.views.length->(nth c.views k).D2.length<=1000
 on:∀ k,k<c.views.length->(nth c.views k).on.length<=1000
 wh:∀ k,k<c.views.length->(nth c.views k).wh.length<=1000
 CR:∀ k i,k<c.views.length->i<(nth c.views k).items.length->(nth (nth c.views k).items i).expr.length<=1000
 Qd:∀ k i,k<c.views.length->i<(nth c.views k).D2.length->(nth (nth c.views k).D2 i).expr.length<=1000
def su (ty:List Int)(a:BM):Int:=if u0 a.func 0||u0 a.func 1 then 1 else (H7 a.expr ty).1
def W8 (v:Vw)(ty:List Int):List Int:=v.items.map (fun x=>(H7 x.expr ty).1)++v.D2.map (su ty)
def zK (c:y4)(prev:List (List Int))(v:Vw)(k:Nat):List Int:=nth prev (H9 c v.left k).toNat++(if L4 v.right [] then [] else nth prev (H9 c v.right k).toNat)
def gy (c:y4)(prev:List (List Int))(k:Nat):List Int :=
 if k<c.o7.length then (nth c.o7 k).p8.map aJ.type
 else if u0 (nth c.views (k - c.o7.length)).kind 2 then nth prev (H9 c (nth c.views (k - c.o7.length)).left k).toNat
 else W8 (nth c.views (k - c.o7.length)) (zK c prev (nth c.views (k - c.o7.length)) k)
def mB (c:y4):Nat->List (List Int)
 |0=>[]
 |k+1=>mB c k++[gy c (mB c k) k]
def R3 (c:y4)(k:Nat):List Int:=gy c (mB c k) k
def ins (c:y4)(k:Nat):List Int:=zK c (mB c k) (nth c.views (k - c.o7.length)) k
theorem Jl (c:y4):∀ k,(mB c k).length=k
 |0=>rfl
 |k+1=>by simp [mB,Jl c k]
theorem V1 (c:y4):∀ {k j:Nat},j<k->nth (mB c k) j=R3 c j
 |k+1,j,h=>by
  have hl:=Jl c k
  rcases s5 j k with h1|h1
  .rw [<- V1 c h1,mB,J9 (by simp;omega),J9 (by omega),List.getElem_append_left (by omega)]
  .obtain rfl:j=k:=by omega
   rw [mB,J9 (by simp [hl]),List.getElem_append_right (by omega)];simp [hl,R3]
def Dx (c:y4)(n:Nat):Prop:=∀ k,c.o7.length<=k->k<n->0<=H9 c (nth c.views (k - c.o7.length)).left k/\(L4 (nth c.views (k - c.o7.length)).right []=false->0<=H9 c (nth c.views (k - c.o7.length)).right k)
def M6 (c:y4)(name:L0)(n:Nat):H9 c name n= -1\/(0<=H9 c name n/\H9 c name n<n/\H9 c name n<y4.ns c):=by
 unfold H9
 rcases fH name ((y4.sn c).take n) 0 with h|h
 .exact Or.inl h
 .right
  have:=jV c;simp at h;omega
theorem iL {c:y4}(hs:Q2 c):∀ (n k:Nat),k<n->n<=y4.ns c->Dx c n->(R3 c k).length<=2000
 |0,k,h,_,_=>absurd h (by omega)
 |n+1,k,h,hn,ho=>by
  rcases s5 k n with h1|h1
  .exact iL hs n k h1 (by omega) (fun k h1 h2=>ho k h1 (by omega))
  obtain rfl:k=n:=by omega
  unfold R3 gy;split
  .rename_i h2
   have:=hs.sm.p8 k h2;simp;omega
  .rename_i h2
   have hv:k - c.o7.length<c.views.length:=by unfold y4.ns at hn;omega
   split
   .have h3:=(ho k (by omega) (by omega)).1
    rcases M6 c (nth c.views (k - c.o7.length)).left k with h4|h4
    .omega
    .rw [V1 c (by omega)]
     exact iL hs k _ (by omega) (by omega) (fun k h1 h2=>ho k h1 (by omega))
   .have h5:=hs.items _ hv
    have h6:=hs.D2 _ hv;simp [W8];omega
set_option maxHeartbeats 8000000 in
theorem kP (c:y4)(hs:Q2 c):∀ (n s:Nat),s<n->n<=y4.ns c->Dx c n->Pf A 54 [cat c,.d (num s)] (.d (ints (R3 c s)))/\(c.o7.length<=s->Pf A 113 [cat c,.d (num s)] (.d (ints (ins c s))))
 |0,s,h,_,_=>absurd h (by omega)
 |n+1,s,h,hn,ho=>by
  have ek:y4.ns c<=2000:=by obtain ⟨f0,f1,_⟩:=hs.sm.qA;unfold y4.ns;omega
  have aT0:y4.ns c=c.o7.length+c.views.length:=rfl
  rcases s5 s n with h1|h1
  .exact kP c hs n s h1 (by omega) (fun k h1 h2=>ho k h1 (by omega))
  obtain rfl:s=n:=by omega
  have ih:∀ k,k<s->Pf A 54 [cat c,.d (num k)] (.d (ints (R3 c k))):=fun k hk=>(kP c hs s k hk (by omega) (fun k h1 h2=>ho k h1 (by omega))).1
  have hlen:∀ k,k<s->(R3 c k).length<=2000:=fun k hk=>iL hs s k hk (by omega) (fun k h1 h2=>ho k h1 (by omega))
  have hin:c.o7.length<=s->Pf A 113 [cat c,.d (num s)] (.d (ints (ins c s))):=fun ht=>by
   have hv:s - c.o7.length<c.views.length:=by omega
   obtain ⟨o1,o2⟩:=ho s ht (by omega);have b1:=M6 c (nth c.views (s - c.o7.length)).left s;have b2:=M6 c (nth c.views (s - c.o7.length)).right s;obtain ⟨q1,e1⟩:∃ q:Nat,H9 c (nth c.views (s - c.o7.length)).left s=q:=⟨_,(Int.toNat_of_nonneg o1).symm⟩;have p1:=LU c (nth c.views (s - c.o7.length)).left s hs.sm.qA (by omega);have p2:=LU c (nth c.views (s - c.o7.length)).right s hs.sm.qA (by omega);rw [e1] at p1;have l1:=hlen q1 (by omega);have t1:=ih q1 (by omega);refine Pf.run [cat c,.d (num s),.any,.any,.any,.any] rfl rfl rfl rfl ?_
   repeat' (first|refine ixI (e:=(s:Int) - (c.o7.length:Int)) (s - c.o7.length) (h2:= ?_)|refine gx ?_|fail)
   repeat' (first|refine cl (p1) ?_|refine cl (t1) ?_|refine gx ?_|fail)
   refine tb (!L4 (nth c.views (s - c.o7.length)).right []) (fun h2=> ?_) (fun h2=> ?_)
   .simp only [o8] at h2
    obtain ⟨q2,e2⟩:∃ q:Nat,H9 c (nth c.views (s - c.o7.length)).right s=q:=⟨_,(Int.toNat_of_nonneg (o2 h2)).symm⟩;rw [e2] at p2;have l2:=hlen q2 (by omega);have t2:=ih q2 (by omega)
    repeat' (first|refine cl (p2) ?_|refine cl (t2) ?_|refine gx ?_|fail)
    refine ⟨_,rfl,?_⟩;simp only [ins,zK,e1,e2,Int.toNat_natCast,h2,j5,if_false];rw [V1 c (by omega),V1 c (by omega)];rfl
   .simp only [O1] at h2
    refine gr ?_;refine ⟨_,rfl,?_⟩;simp only [ins,zK,e1,Int.toNat_natCast,h2,if_true];rw [V1 c (by omega)];simp [j9,ints,A5]
  refine ⟨?_,hin⟩;refine Pf.run [cat c,.d (num s),.any,.any,.any,.any,.any,.any,.any,.any,.any,.any] rfl rfl rfl rfl ?_;refine gr ?_;refine tb (F3 s c.o7.length) (fun h2=> ?_) (fun h2=> ?_)
  .have h3:=C6 h2
   have hcl:=hs.sm.p8 s (by omega);refine gr ?_;refine Ex.N5 (fun k T H=>∃ (i:Nat) (acc:List Int) (w0 w3 w6 w7 w8 w9 oE mM:j3),T=[w0,.d (num s),.ptr 0 0,w3,C9 1 (fun n=>[num n]) acc,.d (num i),w6,w7,w8,w9,oE,mM]/\H=[.cells (c.enc.map .d)]/\i+k=(nth c.o7 s).p8.length/\acc=((nth c.o7 s).p8.take i).map aJ.type) (by rintro _ _ _ ⟨_,_,_,_,_,_,_,_,_,_,_,rfl,_⟩;rfl) ?_ (k:=(nth c.o7 s).p8.length) ⟨0,[],_,_,_,_,_,_,_,_,rfl,rfl,by simp,by simp⟩;rintro k _ _ ⟨i,acc,w0,w3,w6,w7,w8,w9,oE,mM,rfl,rfl,hk,hacc⟩;have hl:acc.length=i:=by rw [hacc];simp;omega
   refine Ex.nT ?_
   repeat' (first|refine gx ?_|refine Ex.O6 ?_|refine Ex.O8 ?_|refine Ex.cond rfl (fun ht=> ?_) (fun ht=> ?_)|refine Ex.test (Rn.text ?_)|refine Ex.test (Rn.draw ?_)|refine ⟨_,rfl,fun ht=> ?_,fun ht=> ?_⟩|refine ⟨_,rfl,?_⟩|fail)
   .have h4:=C6 ht
    refine ⟨k - 1,by omega,i+1,acc++[(nth (nth c.o7 s).p8 i).type],_,_,_,_,_,_,_,_,rfl,rfl,by omega,?_⟩;rw [K3 (by omega),hacc];simp
   .have h4:=C5 ht
    rw [A8 (by omega)] at hacc;simp only [R3,gy];rw [if_pos (by omega),<- hacc];rfl
  have h3:=C5 h2;have hv:s - c.o7.length<c.views.length:=by omega
  obtain ⟨o1,o2⟩:=ho s (by omega) (by omega);have b1:=M6 c (nth c.views (s - c.o7.length)).left s;have b2:=M6 c (nth c.views (s - c.o7.length)).right s;obtain ⟨q1,e1⟩:∃ q:Nat,H9 c (nth c.views (s - c.o7.length)).left s=q:=⟨_,(Int.toNat_of_nonneg o1).symm⟩;have p1:=LU c (nth c.views (s - c.o7.length)).left s hs.sm.qA (by omega);rw [e1] at p1;have l1:=hlen q1 (by omega);have t1:=ih q1 (by omega);have BY:(ins c s).length<=4000:=by
   simp only [ins,zK,e1,Int.toNat_natCast];rw [V1 c (by omega)];cases h5:L4 (nth c.views (s - c.o7.length)).right [] with
   |true=>simp;omega
   |false =>
    have h6:=o2 h5;have h7:=hlen (H9 c (nth c.views (s - c.o7.length)).right s).toNat (by omega);rw [V1 c (by omega)];simp;omega
  have hi1:=hs.items _ hv;have hi2:=hs.D2 _ hv
  repeat' (first|refine ixI (e:=(s:Int) - (c.o7.length:Int)) (s - c.o7.length) (h2:= ?_)|refine gx ?_|fail)
  refine tb (u0 (nth c.views (s - c.o7.length)).kind 2) (fun h4=> ?_) (fun h4=> ?_)
  .repeat' (first|refine cl (p1) ?_|refine cl (t1) ?_|refine gx ?_|fail)
   refine ⟨_,rfl,?_⟩;have hct:R3 c s=nth (mB c s) q1:=by
    unfold R3 gy;rw [if_neg (by omega),h4,if_pos rfl,e1];rfl
   rw [hct,V1 c (by omega)];rfl
  repeat' (first|refine cl (hin (by omega)) ?_|refine gx ?_|fail)
  refine Ex.N5 (fun k T H=>∃ (i:Nat) (acc:List Int) (w0 w1 w2 w3 w5 w9 oE mM:j3),T=[w0,w1,w2,w3,C9 1 (fun n=>[num n]) acc,w5,.ptr 1 0,.d (ints (ins c s)),.d (num i),w9,oE,mM]/\H=[.cells (c.enc.map .d),.cells ((nth c.views (s - c.o7.length)).enc.map .d)]/\i+k=(nth c.views (s - c.o7.length)).items.length/\acc=((nth c.views (s - c.o7.length)).items.take i).map fun x=>(H7 x.expr (ins c s)).1) (by rintro _ _ _ ⟨_,_,_,_,_,_,_,_,_,_,_,rfl,_⟩;rfl) ?_ (k:=(nth c.views (s - c.o7.length)).items.length) ⟨0,[],_,_,_,_,_,_,_,_,rfl,rfl,by simp,by simp⟩;rintro k _ _ ⟨i,acc,w0,w1,w2,w3,w5,w9,oE,mM,rfl,rfl,hk,hacc⟩;have hl:acc.length=i:=by rw [hacc];simp;omega
  refine Ex.nT ?_;refine Ex.seq ?_;refine tb (F3 i (nth c.views (s - c.o7.length)).items.length) (fun h5=> ?_) (fun h5=> ?_)
  .have h6:=C6 h5
   repeat' (first|refine cl (NM (nth (nth c.views (s - c.o7.length)).items i).expr (ins c s) (hs.CR (s - c.o7.length) i hv (by omega)) (by omega)) ?_|refine gx ?_|fail)
   refine ⟨k - 1,by omega,i+1,acc++[(H7 (nth (nth c.views (s - c.o7.length)).items i).expr (ins c s)).1],_,_,_,_,_,_,_,_,rfl,rfl,by omega,?_⟩;rw [K3 (by omega),hacc];simp
  have h6:=C5 h5;rw [A8 (by omega)] at hacc;clear h5 h6 hk hl;refine gr ?_;have hl0:acc.length<=1000:=by rw [hacc];simp;omega
  refine Ex.N5 (fun k T H=>∃ (i:Nat) (Qc:List Int) (w0 w1 w2 w3 w5 w8 w9 mM:j3),T=[w0,w1,w2,w3,C9 1 (fun n=>[num n]) Qc,w5,.ptr 1 0,.d (ints (ins c s)),w8,w9,.d (num i),mM]/\H=[.cells (c.enc.map .d),.cells ((nth c.views (s - c.o7.length)).enc.map .d)]/\i+k=(nth c.views (s - c.o7.length)).D2.length/\Qc=acc++((nth c.views (s - c.o7.length)).D2.take i).map (su (ins c s))) (by rintro _ _ _ ⟨_,_,_,_,_,_,_,_,_,_,_,rfl,_⟩;rfl) ?_ (k:=(nth c.views (s - c.o7.length)).D2.length) ⟨0,acc,_,_,_,_,_,_,_,_,rfl,rfl,by simp,by simp⟩;rintro k _ _ ⟨i,Qc,w0,w1,w2,w3,w5,w8,w9,mM,rfl,rfl,hk,Hi⟩;have hl:Qc.length=acc.length+i:=by rw [Hi];simp;omega
  refine Ex.nT ?_;refine Ex.seq ?_;refine tb (F3 i (nth c.views (s - c.o7.length)).D2.length) (fun h5=> ?_) (fun h5=> ?_)
  .have h6:=C6 h5
   repeat' (first|refine cl (NM (nth (nth c.views (s - c.o7.length)).D2 i).expr (ins c s) (hs.Qd (s - c.o7.length) i hv (by omega)) (by omega)) ?_|refine gx ?_|fail)
   refine tb (u0 (nth (nth c.views (s - c.o7.length)).D2 i).func 0||u0 (nth (nth c.views (s - c.o7.length)).D2 i).func 1) (fun h7=> ?_) (fun h7=> ?_)
   .refine gr ?_
    refine ⟨k - 1,by omega,i+1,Qc++[1],_,_,_,_,_,_,_,_,rfl,rfl,by omega,?_⟩;rw [K3 (by omega),Hi];simp [su,h7]
   .refine gr ?_
    refine ⟨k - 1,by omega,i+1,Qc++[(H7 (nth (nth c.views (s - c.o7.length)).D2 i).expr (ins c s)).1],_,_,_,_,_,_,_,_,rfl,rfl,by omega,?_⟩;rw [K3 (by omega),Hi];simp [su,h7]
  .have h6:=C5 h5
   rw [A8 (by omega)] at Hi;refine gr ?_;refine ⟨_,rfl,?_⟩;simp only [R3,gy];rw [if_neg (by omega),h4,if_neg (by simp)];simp only [W8];rw [show zK c (mB c s) (nth c.views (s - c.o7.length)) s=ins c s from rfl,<- hacc,<- Hi];rfl
structure yy where
 agg:Bool
 name:L0
 f:Int
 expr:List Y4
instance:Inhabited yy:=⟨⟨false,[],0,[]⟩⟩
def Z8 (v:Vw):List yy:=v.items.map (fun x=>⟨false,x.name, -1,x.expr⟩)++v.D2.map (fun x=>⟨true,x.name,x.func,x.expr⟩)
def V7 (ty:List Int):List L0->List yy->Int
 |_,[]=>0
 |seen,e::r =>
  if !G7 e.name then 3
  else if seen.any fun y=>L4 y e.name then 4
  else if e.agg&&(!A4 e.f 0 4||(u0 e.f 0&&F3 0 e.expr.length)) then 1
  else if e.agg&&u0 e.f 0 then V7 ty (seen++[e.name]) r
  else if !u0 (H7 e.expr ty).2 0 then (H7 e.expr ty).2
  else if e.agg&&u0 e.f 1&& !u0 (H7 e.expr ty).1 1 then 5
  else V7 ty (seen++[e.name]) r
def gj (v:Vw):(Z8 v).length=v.items.length+v.D2.length:=by simp [Z8]
def oW (v:Vw){i:Nat}(h:i<v.items.length):nth (Z8 v) i=⟨false,(nth v.items i).name, -1,(nth v.items i).expr⟩:=by
 rw [J9 (by rw [gj];omega),J9 h];simp [Z8,List.getElem_append_left,h]
def sO (v:Vw){i:Nat}(h:v.items.length<=i)(h2:i<v.items.length+v.D2.length):nth (Z8 v) i=⟨true,(nth v.D2 (i - v.items.length)).name,(nth v.D2 (i - v.items.length)).func,(nth v.D2 (i - v.items.length)).expr⟩:=by
 rw [J9 (by rw [gj];omega),J9 (by omega)];simp [Z8,List.getElem_append_right,h]
def Qr (v:Vw){i:Nat}(h:i<v.items.length+v.D2.length):(nth (Z8 v) i).agg=aF v.items.length i:=by
 rcases s5 i v.items.length with h1|h1
 .rw [oW v h1];simp [y3];omega
 .rw [sO v h1 h];simp [y3];omega
set_option maxHeartbeats 16000000 in
def aC1 (v:Vw)(ty:List Int)(h0:v.items.length<=1000)(h1:v.D2.length<=1000)(h2:ty.length<=100000)(h3:∀ i,i<v.items.length->(nth v.items i).expr.length<=1000)(h4:∀ i,i<v.D2.length->(nth v.D2 i).expr.length<=1000) :
  Pf A 203 [vw v,.d (ints ty)] (.d (num (V7 ty [] (Z8 v)))):=by
 have hel:=gj v;refine Pf.run [vw v,.d (ints ty),.any,.any,.any,.any,.any,.any,.any,.any,.any,.any,.any] rfl rfl rfl rfl ?_;refine gr ?_;refine Ex.X8 (fun k T H=>∃ (i:Nat) (seen:List L0),T=[.any,.d (ints ty),.ptr 0 0,.any,C9 1 (fun s=>[.str s]) seen,.d (num i),.any,.any,.any,.any,.any,.any,.any]/\H=[.cells (v.enc.map .d)]/\i+k=(Z8 v).length/\seen.length=i/\V7 ty [] (Z8 v)=V7 ty seen ((Z8 v).drop i)) ?_ (k:=(Z8 v).length) ⟨0,[],rfl,rfl,by simp,rfl,by simp⟩;rintro k _ _ ⟨i,seen,rfl,rfl,hk,TB,hi⟩;refine Ex.seq ?_;refine tB (F3 i (Z8 v).length) ?_ (fun h5=> ?_) (fun h5=> ?_)
 .repeat' (first|refine cl (hel) ?_|refine gx ?_|refine fk (h1:=fun hw=> ?_) (h2:=fun hw=> ?_)|refine U0 (h1:=fun hw=> ?_) (h2:=fun hw=> ?_)|refine ⟨rfl,rfl,_,rfl,?_⟩|refine ⟨rfl,rfl⟩|fail)
  all_goals exact cc
 .have h6:=C6 h5
  have hix:i<v.items.length+v.D2.length:=by omega
  rw [D4 (by omega)] at hi;have hfl:=Qr v hix;refine gr ?_;refine Ex.MB (fun s=>∃ (f:Int) (H2:q8) (w9:j3),s=⟨[.any,.d (ints ty),.ptr 0 0,.any,C9 1 (fun s=>[.str s]) seen,.d (num i),.d (.str (nth (Z8 v) i).name),.d (num (nth (Z8 v) i).f),.d (A5 Y4.enc (nth (Z8 v) i).expr),w9,.any,.any,.any],.cells (v.enc.map .d)::H2⟩/\(nth (Z8 v) i).expr.length<=1000) ?_ ?_
  .skip
   refine tb (F3 i v.items.length) (fun h7=> ?_) (fun h7=> ?_)
   .have h8:=C6 h7
    have he:=h3 i (by omega);rw [oW v (by omega)];refine gr ?_;exact ⟨-1,_,_,rfl,he⟩
   .have h8:=C5 h7
    have he:=h4 (i - v.items.length) (by omega);rw [sO v (by omega) hix]
    repeat' (first|refine ixI (e:=(i:Int) - (v.items.length:Int)) (i - v.items.length) (h2:= ?_)|refine gx ?_|fail)
    exact ⟨0,_,_,rfl,he⟩
  rintro _ ⟨f,H2,w9,rfl,he⟩;generalize hen:nth (Z8 v) i=en at *
  obtain ⟨ag,nm,ef,ex⟩:=en;simp only at *
  subst hfl;have az6:=NM ex ty he h2;refine gr ?_;refine tB (!G7 nm) ?_ (fun g1=> ?_) (fun g1=> ?_)
  .repeat' (first|refine cl (al2 _) ?_|refine gx ?_|refine fk (h1:=fun hw=> ?_) (h2:=fun hw=> ?_)|refine U0 (h1:=fun hw=> ?_) (h2:=fun hw=> ?_)|refine ⟨rfl,rfl,_,rfl,?_⟩|refine ⟨rfl,rfl⟩|fail)
   all_goals exact cc
  .refine gr ?_
   exact ⟨_,rfl,by rw [hi];simp only [V7,g1,j9,num,if_true]⟩
  refine gr ?_;refine Ex.N5 (fun k T H=>∃ (j:Nat) (w0 w3 w9 mM Ol:j3),T=[w0,.d (ints ty),.ptr 0 0,w3,C9 1 (fun s=>[.str s]) seen,.d (num i),.d (.str nm),.d (num ef),.d (A5 Y4.enc ex),w9,.d (num j),mM,Ol]/\H= .cells (v.enc.map .d)::H2/\j+k=seen.length/\(seen.any fun y=>L4 y nm)=((seen.drop j).any fun y=>L4 y nm)) (by rintro _ _ _ ⟨_,_,_,_,_,_,_,rfl,_⟩;rfl) ?_ (k:=seen.length) ⟨0,_,_,_,_,_,rfl,rfl,by simp,by simp⟩;rintro k2 _ _ ⟨j,w0,w3,w9,mM,Ol,rfl,rfl,hk2,hj⟩;refine Ex.nT ?_;refine Ex.seq ?_;refine tb (F3 j seen.length) (fun g0=> ?_) (fun g0=> ?_)
  .have g00:=C6 g0
   rw [D4 (by omega)] at hj
   repeat' (first|refine gx ?_|refine Ex.O6 ?_|refine Ex.O8 ?_|refine Ex.cond rfl (fun ht=> ?_) (fun ht=> ?_)|refine Ex.test (Rn.text ?_)|refine Ex.test (Rn.draw ?_)|refine ⟨_,rfl,fun ht=> ?_,fun ht=> ?_⟩|refine ⟨_,rfl,?_⟩|fail)
   .have g2:(seen.any fun y=>L4 y nm)=true:=by rw [hj];simp [ht]
    rw [hi];simp only [V7,g1,g2,j9,num,j5,if_true,if_false]
   .exact ⟨k2 - 1,by omega,j+1,_,_,_,_,_,rfl,rfl,by omega,by rw [hj];simp [ht]⟩
  have g00:=C5 g0;rw [n5 (by omega)] at hj;have g2:(seen.any fun y=>L4 y nm)=false:=by rw [hj];rfl
  clear hj hk2 g0 g00;refine gr ?_;refine tB (aF v.items.length i&&(!A4 ef 0 4||(u0 ef 0&&F3 0 ex.length))) ?_ (fun g3=> ?_) (fun g3=> ?_)
  .repeat' (first|refine cl (Il _ _ _) ?_|refine gx ?_|refine fk (h1:=fun hw=> ?_) (h2:=fun hw=> ?_)|refine U0 (h1:=fun hw=> ?_) (h2:=fun hw=> ?_)|refine ⟨rfl,rfl,_,rfl,?_⟩|refine ⟨rfl,rfl⟩|fail)
   all_goals exact cc
  .refine gr ?_
   exact ⟨_,rfl,by rw [hi];simp only [V7,g1,g2,g3,j9,num,j5,if_true,if_false]⟩
  refine gr ?_;refine tb (aF v.items.length i&&u0 ef 0) (fun g4=> ?_) (fun g4=> ?_)
  .refine gr ?_
   exact ⟨k - 1,by omega,_,_,rfl,i+1,seen++[nm],rfl,rfl,by omega,by simp [TB],by rw [hi];simp only [V7,g1,g2,g3,g4,j5,if_true,if_false]⟩
  repeat' (first|refine cl (az6) ?_|refine gx ?_|fail)
  refine tb (!u0 (H7 ex ty).2 0) (fun g5=> ?_) (fun g5=> ?_)
  .refine gr ?_
   exact ⟨_,rfl,by rw [hi];simp only [V7,g1,g2,g3,g4,g5,j9,j5,if_true,if_false]⟩
  refine gr ?_;refine tb (aF v.items.length i&&u0 ef 1&& !u0 (H7 ex ty).1 1) (fun g6=> ?_) (fun g6=> ?_)
  .refine gr ?_
   exact ⟨_,rfl,by rw [hi];simp only [V7,g1,g2,g3,g4,g5,g6,j9,num,j5,if_true,if_false]⟩
  .refine gr ?_
   exact ⟨k - 1,by omega,_,_,rfl,i+1,seen++[nm],rfl,rfl,by omega,by simp [TB],by rw [hi];simp only [V7,g1,g2,g3,g4,g5,g6,j5,if_true,if_false]⟩
 .have h6:=C5 h5
  rw [n5 (by omega)] at hi;refine gr ?_;exact ⟨_,rfl,by rw [hi];rfl⟩
def W9 (c:y4)(k:Nat):Vw:=nth c.views (k - c.o7.length)
def lT (c:y4)(k:Nat):List Int:=nth (mB c k) (H9 c (W9 c k).left k).toNat
def rT (c:y4)(k:Nat):List Int:=if L4 (W9 c k).right [] then [] else nth (mB c k) (H9 c (W9 c k).right k).toNat
def W0 (c:y4)(k:Nat):Int :=
 if !A4 (W9 c k).kind 0 2 then 1
 else if F3 (H9 c (W9 c k).left k) 0||(!L4 (W9 c k).right []&&F3 (H9 c (W9 c k).right k) 0) then 7
 else if !bP (W9 c k) then 1
 else if u0 (W9 c k).kind 2 then (if !dU u0 (lT c k) (rT c k) then 5 else 0)
 else if !u0 (I4 (lT c k) (rT c k) (W9 c k).on) 0 then I4 (lT c k) (rT c k) (W9 c k).on
 else if F3 0 (W9 c k).wh.length&& !u0 (H7 (W9 c k).wh (ins c k)).2 0 then (H7 (W9 c k).wh (ins c k)).2
 else if F3 0 (W9 c k).wh.length&& !u0 (H7 (W9 c k).wh (ins c k)).1 1 then 5
 else V7 (ins c k) [] (Z8 (W9 c k))
set_option maxHeartbeats 16000000 in
def aY8 (c:y4)(hs:Q2 c)(k:Nat)(hk:c.o7.length<=k)(hk2:k<y4.ns c)(ho:Dx c k):Pf A 145 [cat c,.d (num k)] (.d (num (W0 c k))):=by
 have ek:y4.ns c<=2000:=by obtain ⟨f0,f1,_⟩:=hs.sm.qA;unfold y4.ns;omega
 have aT0:y4.ns c=c.o7.length+c.views.length:=rfl;have hv:k - c.o7.length<c.views.length:=by omega
 have WU:(W9 c k).items.length<=1000:=hs.items _ hv;have hv2:(W9 c k).D2.length<=1000:=hs.D2 _ hv;have hv3:(W9 c k).on.length<=1000:=hs.on _ hv;have hv4:(W9 c k).wh.length<=1000:=hs.wh _ hv;have qE:nth c.views (k - c.o7.length)=W9 c k:=rfl;have p1:=LU c (W9 c k).left k hs.sm.qA (by omega);have p2:=LU c (W9 c k).right k hs.sm.qA (by omega);have p3:=aZ4 c (W9 c k) WU hv2;have b1:=M6 c (W9 c k).left k;have b2:=M6 c (W9 c k).right k;refine Pf.run [cat c,.d (num k),.any,.any,.any,.any,.any,.any,.any,.any,.any,.any,.any] rfl rfl rfl rfl ?_
 repeat' (first|refine ixI (e:=(k:Int) - (c.o7.length:Int)) (k - c.o7.length) (h2:= ?_)|refine gx ?_|fail)
 rw [qE];refine tB (!A4 (W9 c k).kind 0 2) ?_ (fun h1=> ?_) (fun h1=> ?_)
 .repeat' (first|refine cl (Il _ _ _) ?_|refine gx ?_|refine fk (h1:=fun hw=> ?_) (h2:=fun hw=> ?_)|refine U0 (h1:=fun hw=> ?_) (h2:=fun hw=> ?_)|refine ⟨rfl,rfl,_,rfl,?_⟩|refine ⟨rfl,rfl⟩|fail)
  all_goals exact cc
 .refine gr ?_
  exact ⟨_,rfl,by unfold W0;rw [h1];rfl⟩
 repeat' (first|refine cl (p1) ?_|refine cl (p2) ?_|refine gx ?_|fail)
 refine tb (F3 (H9 c (W9 c k).left k) 0||(!L4 (W9 c k).right []&&F3 (H9 c (W9 c k).right k) 0)) (fun h2=> ?_) (fun h2=> ?_)
 .refine gr ?_
  exact ⟨_,rfl,by unfold W0;rw [h1,h2];rfl⟩
 have XD :=h2;simp only [E6] at XD;have f1:=C5 XD.1;have f2:L4 (W9 c k).right []=false->0<=H9 c (W9 c k).right k:=fun h=>by
  have:=XD.2;simp only [h,M0,Bool.true_and] at this;exact C5 this
 have ZF:Dx c (k+1):=fun m h h' =>by
  rcases s5 m k with h3|h3
  .exact ho m h h3
  .obtain rfl:m=k:=by omega
   exact ⟨f1,f2⟩
 obtain ⟨q1,e1⟩:∃ q:Nat,H9 c (W9 c k).left k=q:=⟨_,(Int.toNat_of_nonneg f1).symm⟩;have t1:=(kP c hs (k+1) q1 (by omega) (by omega) ZF).1;have ti:=(kP c hs (k+1) k (by omega) (by omega) ZF).2 hk;have l1:=iL hs (k+1) q1 (by omega) (by omega) ZF;have eL:lT c k=R3 c q1:=by unfold lT;rw [e1,Int.toNat_natCast,V1 c (by omega)]
 refine tB (!bP (W9 c k)) ?_ (fun h3=> ?_) (fun h3=> ?_)
 .repeat' (first|refine cl (p3) ?_|refine gx ?_|refine fk (h1:=fun hw=> ?_) (h2:=fun hw=> ?_)|refine U0 (h1:=fun hw=> ?_) (h2:=fun hw=> ?_)|refine ⟨rfl,rfl,_,rfl,?_⟩|refine ⟨rfl,rfl⟩|fail)
  all_goals exact cc
 .refine gr ?_
  exact ⟨_,rfl,by unfold W0;rw [h1,h2,h3];rfl⟩
 rw [e1]
 repeat' (first|refine cl (t1) ?_|refine gx ?_|fail)
 refine Ex.MB (fun s=>∃ (w6 w8:j3),s=⟨[cat c,.d (num k),.ptr 0 0,.d (num 0),.ptr 1 0,.d (num q1),w6,.d (ints (R3 c q1)),w8,.any,.any,.any,.any],[.cells (c.enc.map .d),.cells ((W9 c k).enc.map .d)]⟩/\w8.I7= .d (ints (rT c k))/\(rT c k).length<=2000) ?_ ?_
 .skip
  refine tb (!L4 (W9 c k).right []) (fun h4=> ?_) (fun h4=> ?_)
  .simp only [o8] at h4
   obtain ⟨q2,e2⟩:∃ q:Nat,H9 c (W9 c k).right k=q:=⟨_,(Int.toNat_of_nonneg (f2 h4)).symm⟩;have t2:=(kP c hs (k+1) q2 (by omega) (by omega) ZF).1;have l2:=iL hs (k+1) q2 (by omega) (by omega) ZF;have eR:rT c k=R3 c q2:=by unfold rT;rw [h4,e2,if_neg (by simp),Int.toNat_natCast,V1 c (by omega)]
   rw [e2]
   repeat' (first|refine cl (t2) ?_|refine gx ?_|fail)
   exact ⟨_,_,rfl,by rw [eR];rfl,by rw [eR];exact l2⟩
  .simp only [O1] at h4
   have eR:rT c k=[]:=by unfold rT;rw [h4,if_pos rfl]
   refine gr ?_;exact ⟨_,_,rfl,by rw [eR];rfl,by rw [eR];simp⟩
 rintro _ ⟨w6,w8,rfl,hw8,lR⟩;have hin:(ins c k).length<=100000:=by
  have:ins c k=lT c k++rT c k:=rfl;rw [this,eL];simp;omega
 have pS:=aZ5 (R3 c q1) (rT c k) (by omega);have pP:=aZ6 (W9 c k).on (R3 c q1) (rT c k) hv3 (by omega) (by omega);have pW:=NM (W9 c k).wh (ins c k) hv4 hin;have pC:=aC1 (W9 c k) (ins c k) WU hv2 hin (fun i h=>hs.CR _ i hv h) (fun i h=>hs.Qd _ i hv h);have eL' :=eL.symm;rw [eL'];rw [<- eL] at pS pP;clear p1 p2 p3 t1 eL' eL;refine gr ?_;refine tb (u0 (W9 c k).kind 2) (fun h5=> ?_) (fun h5=> ?_)
 .refine gr ?_
  refine tB (!dU u0 (lT c k) (rT c k)) ?_ (fun h6=> ?_) (fun h6=> ?_)
  .repeat' (first|refine mvS hw8 ?_|refine cl (pS) ?_|refine gx ?_|refine fk (h1:=fun hw=> ?_) (h2:=fun hw=> ?_)|refine U0 (h1:=fun hw=> ?_) (h2:=fun hw=> ?_)|refine ⟨rfl,rfl,_,rfl,?_⟩|refine ⟨rfl,rfl⟩|fail)
   all_goals exact cc
  .refine gr ?_
   exact ⟨_,rfl,by unfold W0;rw [h1,h2,h3,h5,h6];rfl⟩
  .refine gr ?_
   exact ⟨_,rfl,by unfold W0;rw [h1,h2,h3,h5,h6];rfl⟩
 repeat' (first|refine mvS hw8 ?_|refine cl (pP) ?_|refine gx ?_|fail)
 refine tb (!u0 (I4 (lT c k) (rT c k) (W9 c k).on) 0) (fun h6=> ?_) (fun h6=> ?_)
 .refine gr ?_
  exact ⟨_,rfl,by unfold W0;rw [h1,h2,h3,h5,h6];rfl⟩
 repeat' (first|refine cl (ti) ?_|refine gx ?_|fail)
 refine tb (F3 0 (W9 c k).wh.length) (fun h7=> ?_) (fun h7=> ?_)
 .repeat' (first|refine cl (pW) ?_|refine gx ?_|fail)
  refine tb (!u0 (H7 (W9 c k).wh (ins c k)).2 0) (fun h8=> ?_) (fun h8=> ?_)
  .refine gr ?_
   exact ⟨_,rfl,by unfold W0;rw [h1,h2,h3,h5,h6,h7,h8];rfl⟩
  refine gr ?_;refine tb (!u0 (H7 (W9 c k).wh (ins c k)).1 1) (fun h9=> ?_) (fun h9=> ?_)
  .refine gr ?_
   exact ⟨_,rfl,by unfold W0;rw [h1,h2,h3,h5,h6,h7,h8,h9];rfl⟩
  repeat' (first|refine cl (pC) ?_|refine gx ?_|fail)
  exact ⟨_,rfl,by unfold W0;rw [h1,h2,h3,h5,h6,h7,h8,h9];rfl⟩
 .repeat' (first|refine cl (pC) ?_|refine gx ?_|fail)
  exact ⟨_,rfl,by unfold W0;rw [h1,h2,h3,h5,h6,h7];rfl⟩
def aG2 (_:y4)(_:Nat):Int:=0
def Ex.aI0 {A:Go.Abs.Prog}{l:F2}{b:Nat}{c:s4}{st:St}{Q:F6->St->Prop}(P:St->Prop)(h1:Ex A l b c st (zA (fun _ _=>False) P))(h2:∀ s,P s->Q .normal s):Ex A l b c st Q:=by
 refine h1.mono fun x s h=> ?_
 cases x with
 |normal=>exact h2 s h
 |exit i=>exact h.elim
 |ret=>exact h.elim
def CZ (a b c d e f:Int):Bool:=F3 16 a||F3 16 b||F3 16 c||F3 16 d||F3 16 e||F3 16 f
def tooMany (c:y4):Bool:=F3 8 c.o7.length||F3 12 c.views.length||CZ c.idxs.length c.qm.length c.qf.length c.ql.length c.qn.length c.qd.length
def max2 (x y:Int):Int:=if y>x then y else x
def XY (x y:Int):F3 16 (max2 x y)=(F3 16 x||F3 16 y):=by
 unfold max2;simp only [z8];split
 .cases h:decide ((16:Int)<x) with
  |false=>simp
  |true=>simp at h ⊢;omega
 .cases h:decide ((16:Int)<y) with
  |false=>simp
  |true=>simp at h ⊢;omega
def TW (a b c d e f:Int):F3 16 (max2 (max2 (max2 (max2 (max2 a b) c) d) e) f)=CZ a b c d e f:=by
 simp only [XY,CZ]
def P9 (c:y4)(i:Nat):Int :=
 if !G7 (nth c.names i) then 3 else if (c.names.take i).any fun y=>L4 y (nth c.names i) then 4
 else if i<c.o7.length then fM c i else if i<y4.ns c then W0 c i else aG2 c (i - y4.ns c)
def bY (c:y4):Nat->Nat->Int×Int
 |0,_=>(0,0)
 |k+1,i=>if !u0 (P9 c i) 0 then (i,P9 c i) else bY c k (i+1)
def O5 (c:y4):Int×Int:=if tooMany c then (0,8) else bY c c.names.length 0
def lH {c:y4}{m:Nat}(h:P9 c m=0):(!G7 (nth c.names m))=false/\((c.names.take m).any fun y=>L4 y (nth c.names m))=false:=by
 unfold P9 at h;constructor
 .cases h1:(!G7 (nth c.names m)) with
  |false=>rfl
  |true=>rw [h1] at h;simp at h
 .cases h1:(!G7 (nth c.names m)) with
  |true=>rw [h1] at h;simp at h
  |false =>
   rw [h1] at h;cases h2:((c.names.take m).any fun y=>L4 y (nth c.names m)) with
   |false=>rfl
   |true=>rw [h2] at h;simp at h
def iw {c:y4}{m:Nat}(h:P9 c m=0)(hm:m<c.o7.length):fM c m=0:=by
 obtain ⟨h1,h2⟩:=lH h;unfold P9 at h;rw [h1,h2,if_neg (by simp),if_neg (by simp),if_pos hm] at h;exact h
def iO {c:y4}{m:Nat}(h:P9 c m=0)(hm:c.o7.length<=m)(hm2:m<y4.ns c):W0 c m=0:=by
 obtain ⟨h1,h2⟩:=lH h;unfold P9 at h;rw [h1,h2,if_neg (by simp),if_neg (by simp),if_neg (by omega),if_pos hm2] at h;exact h
def gA {c:y4}{m:Nat}(h:fM c m=0):0<(nth c.o7 m).p8.length/\(nth c.o7 m).p8.length<=8:=by
 unfold fM at h;split at h
 .omega
 .rename_i h1
  simp [A4,y3] at h1;omega
def oD {c:y4}{m:Nat}(h:W0 c m=0):A4 (W9 c m).kind 0 2=true/\0<=H9 c (W9 c m).left m/\(L4 (W9 c m).right []=false->0<=H9 c (W9 c m).right m)/\bP (W9 c m)=true:=by
 unfold W0 at h;split at h
 .omega
 .rename_i h0
  split at h
  .omega
  .rename_i h1
   split at h
   .omega
   .rename_i h2
    simp only [Bool.not_eq_true,E6] at h1;refine ⟨by simpa using h0,C5 h1.1,fun h3=> ?_,by simpa using h2⟩;have:=h1.2;rw [h3] at this;exact C5 (by simpa using this)
def kL (c:y4)(i:Nat):Prop:=∀ m,m<i->P9 c m=0
def tg {c:y4}{i:Nat}(h:kL c i)(hi:i<=y4.ns c):Dx c i:=fun k h1 h2=>by
 have:=oD (iO (h k h2) h1 (by omega));exact ⟨this.2.1,this.2.2.1⟩
def LN (c:y4):c.names.length=y4.ns c+(c.idxs.length+c.qm.length+c.qf.length+c.ql.length+c.qn.length+c.qd.length):=by simp [y4.names,y4.ns];omega
set_option maxHeartbeats 16000000 in
def aY2 (c:y4)(hs:Q2 c):Pf A 95 [cat c] (pair (O5 c)):=by
 have hnl:=LN c;have ek:y4.ns c=c.o7.length+c.views.length:=rfl;obtain ⟨f0,f1,f2,f3,f4,f5,f6,f7⟩:=id hs.sm.qA;have hmm:=TW c.idxs.length c.qm.length c.qf.length c.ql.length c.qn.length c.qd.length;refine Pf.run [cat c,.any,.any,.any,.any,.any,.any,.any] rfl rfl rfl rfl ?_;refine gr ?_;refine tB (tooMany c) ?_ (fun h1=> ?_) (fun h1=> ?_)
 .repeat' (first|refine mm (d:= .int .i64 (max2 (max2 (max2 (max2 (max2 c.idxs.length c.qm.length) c.qf.length) c.ql.length) c.qn.length) c.qd.length)) ?_|refine gx ?_|refine fk (h1:=fun hw=> ?_) (h2:=fun hw=> ?_)|refine U0 (h1:=fun hw=> ?_) (h2:=fun hw=> ?_)|refine ⟨rfl,rfl,_,rfl,?_⟩|refine ⟨rfl,rfl⟩|fail)
  all_goals first|(simp [*,j9,tooMany,hmm];done)|(simp_all [j9,tooMany,hmm];done)|(simp_all [j9,tooMany,hmm,z8,y3,o9,F8];done)|(simp_all [j9,tooMany,hmm,z8,y3,o9,F8]<;>omega)
 .refine gr ?_
  exact ⟨_,rfl,by unfold O5;rw [h1];rfl⟩
 repeat' (first|refine cl (aE3 c hs.sm.qA) ?_|refine gx ?_|fail)
 refine Ex.N5 (fun k T H=>∃ (i:Nat) (w0 w2 w3 w6 w7:j3),T=[w0,.ptr 0 0,w2,w3,.d (A5 encS c.names),.d (num i),w6,w7]/\H=[.cells (c.enc.map .d)]/\i+k=c.names.length/\kL c i/\O5 c=bY c k i) (by rintro _ _ _ ⟨_,_,_,_,_,_,_,rfl,_⟩;rfl) ?_ (k:=c.names.length) ⟨0,_,_,_,_,_,rfl,rfl,by simp,fun m h=>absurd h (by omega),by unfold O5;rw [h1];rfl⟩;rintro k _ _ ⟨i,w0,w2,w3,w6,w7,rfl,rfl,hk,hok,hi⟩;refine Ex.nT ?_;refine Ex.seq ?_;refine tb (F3 i c.names.length) (fun h2=> ?_) (fun h2=> ?_)
 .have h3:=C6 h2
  obtain ⟨k,rfl⟩:∃ k',k=k' +1:=⟨k - 1,by omega⟩;rw [bY] at hi;refine gr ?_;refine tB (!G7 (nth c.names i)) ?_ (fun h4=> ?_) (fun h4=> ?_)
  .repeat' (first|refine cl (al2 _) ?_|refine gx ?_|refine fk (h1:=fun hw=> ?_) (h2:=fun hw=> ?_)|refine U0 (h1:=fun hw=> ?_) (h2:=fun hw=> ?_)|refine ⟨rfl,rfl,_,rfl,?_⟩|refine ⟨rfl,rfl⟩|fail)
   all_goals exact cc
  .refine gr ?_
   have e1:P9 c i=3:=by unfold P9;rw [h4];rfl
   exact ⟨_,rfl,by rw [hi,e1];simp [o9,pair,j9,j3.I7,num]⟩
  refine gr ?_;refine Ex.N5 (fun k T H=>∃ (j:Nat) (w0 w2 w3 w7:j3),T=[w0,.ptr 0 0,w2,w3,.d (A5 encS c.names),.d (num i),.d (num j),w7]/\H=[.cells (c.enc.map .d)]/\j+k=i/\((c.names.take i).any fun y=>L4 y (nth c.names i))=(((c.names.take i).drop j).any fun y=>L4 y (nth c.names i))) (by rintro _ _ _ ⟨_,_,_,_,_,_,rfl,_⟩;rfl) ?_ (k:=i) ⟨0,_,_,_,_,rfl,rfl,by simp,by simp⟩;rintro k2 _ _ ⟨j,w0,w2,w3,w7,rfl,rfl,hk2,hj⟩;refine Ex.nT ?_;refine Ex.seq ?_;refine tb (F3 j i) (fun h5=> ?_) (fun h5=> ?_)
  .have h6:=C6 h5
   rw [qM (by omega) (by omega)] at hj
   repeat' (first|refine gx ?_|refine Ex.O6 ?_|refine Ex.O8 ?_|refine Ex.cond rfl (fun ht=> ?_) (fun ht=> ?_)|refine Ex.test (Rn.text ?_)|refine Ex.test (Rn.draw ?_)|refine ⟨_,rfl,fun ht=> ?_,fun ht=> ?_⟩|refine ⟨_,rfl,?_⟩|fail)
   .have g2:((c.names.take i).any fun y=>L4 y (nth c.names i))=true:=by rw [hj];simp [ht]
    have e1:P9 c i=4:=by unfold P9;rw [h4,g2];rfl
    rw [hi,e1];simp [o9,pair,j9,j3.I7,num]
   .exact ⟨k2 - 1,by omega,j+1,_,_,_,_,rfl,rfl,by omega,by rw [hj];simp [ht]⟩
  have h6:=C5 h5;rw [n5 (by simp;omega)] at hj;have g2:((c.names.take i).any fun y=>L4 y (nth c.names i))=false:=by rw [hj];rfl
  clear hj hk2 h5 h6;refine gr ?_;refine Ex.aI0 (fun s=>∃ (w0 w2 w3 w6:j3),s=⟨[w0,.ptr 0 0,w2,w3,.d (A5 encS c.names),.d (num i),w6,.d (num (P9 c i))],[.cells (c.enc.map .d)]⟩) ?_ ?_
  .skip
   refine tb (F3 i c.o7.length) (fun h5=> ?_) (fun h5=> ?_)
   .have h6:=C6 h5
    have p1:=aY7 c i hs.sm (by omega) (fun m hm=>(gA (iw (hok m hm) (by omega))).1);have e1:P9 c i=fM c i:=by unfold P9;rw [h4,g2,if_neg (by simp),if_neg (by simp),if_pos (by omega)]
    rw [e1]
    repeat' (first|refine cl (p1) ?_|refine gx ?_|fail)
    exact ⟨_,_,_,_,rfl⟩
   have h6:=C5 h5;refine tB (F3 i (y4.ns c)) ?_ (fun h7=> ?_) (fun h7=> ?_)
   .repeat' (first|refine cl (ek) ?_|refine gx ?_|refine fk (h1:=fun hw=> ?_) (h2:=fun hw=> ?_)|refine U0 (h1:=fun hw=> ?_) (h2:=fun hw=> ?_)|refine ⟨rfl,rfl,_,rfl,?_⟩|refine ⟨rfl,rfl⟩|fail)
    all_goals exact cc
   .have h8:=C6 h7
    have p1:=aY8 c hs i (by omega) (by omega) (tg hok (by omega));have e1:P9 c i=W0 c i:=by unfold P9;rw [h4,g2,if_neg (by simp),if_neg (by simp),if_neg (by omega),if_pos (by omega)]
    rw [e1]
    repeat' (first|refine cl (p1) ?_|refine gx ?_|fail)
    exact ⟨_,_,_,_,rfl⟩
   .have h8:=C5 h7
    omega
  rintro _ ⟨w0,w2,w3,w6,rfl⟩;refine gr ?_;refine tb (!u0 (P9 c i) 0) (fun h5=> ?_) (fun h5=> ?_)
  .refine gr ?_
   exact ⟨_,rfl,by rw [hi,h5];rfl⟩
  .refine gr ?_
   refine ⟨k,by omega,i+1,_,_,_,_,_,rfl,rfl,by omega,fun m hm=> ?_,by rw [hi,h5];rfl⟩
   rcases s5 m i with h6|h6
   .exact hok m h6
   .obtain rfl:m=i:=by omega
    exact bz (by simpa using h5)
 .have h3:=C5 h2
  obtain rfl:k=0:=by omega
  refine gr ?_;exact ⟨_,rfl,by rw [hi];rfl⟩
end Go.Proofs.YtibjocmpkoepoaaGreat


import Derived.Test.YtibjocmpkoepoaaGreatD0
set_option linter.all false
open Bool renaming false_eq_true → j4, not_eq_false' → C8, not_eq_true' → o7, or_eq_false_iff → G8
open Int renaming toNat_natCast → P0
open List renaming drop_of_length_le → l6, take_of_length_le → y6
open Nat renaming le_refl → n5, lt_or_ge → A5
namespace Go.Proofs.YtibjocmpkoepoaaGreat
open Go.A2 Go.A2.S
attribute [local irreducible] Rx Ry Rn Ex Pf
structure J7 (c:r9):Prop where
 sm:r9.small c
 items:∀ k,k<c.views.length->(nth c.views k).items.length<=1000
 D5:∀ k,k<c.views.length->(nth c.views k).D5.length<=1000
 on:∀ k,k<c.views.length->(nth c.views k).on.length<=1000
 wh:∀ k,k<c.views.length->(nth c.views k).wh.length<=1000
 JN:∀ k i,k<c.views.length->i<(nth c.views k).items.length->(nth (nth c.views k).items i).expr.length<=1000
 UP:∀ k i,k<c.views.length->i<(nth c.views k).D5.length->(nth (nth c.views k).D5 i).expr.length<=1000
 bk:∀ k,k<c.V3.length->(nth c.V3 k).tables.length<=1000
def xK (ty:List Int)(a:Io):Int:=if s9 a.func 0||s9 a.func 1 then 1 else (M5 a.expr ty).1
def aL (v:Vw)(ty:List Int):List Int:=v.items.map (fun x=>(M5 x.expr ty).1)++v.D5.map (xK ty)
def Bl (c:r9)(prev:List (List Int))(v:Vw)(k:Nat):List Int:=nth prev (F1 c v.left k).toNat++(if O1 v.right [] then [] else nth prev (F1 c v.right k).toNat)
def ja (c:r9)(prev:List (List Int))(k:Nat):List Int :=
 if k<c.j9.length then (nth c.j9 k).q7.map ek.type
 else if s9 (nth c.views (k - c.j9.length)).kind 2 then nth prev (F1 c (nth c.views (k - c.j9.length)).left k).toNat
 else aL (nth c.views (k - c.j9.length)) (Bl c prev (nth c.views (k - c.j9.length)) k)
def ot (c:r9):Nat->List (List Int)
 |0=>[]
 |k+1=>ot c k++[ja c (ot c k) k]
def R6 (c:r9)(k:Nat):List Int:=ja c (ot c k) k
def ins (c:r9)(k:Nat):List Int:=Bl c (ot c k) (nth c.views (k - c.j9.length)) k
theorem Lp (c:r9):∀ k,(ot c k).length=k
 |0=>rfl
 |k+1=>by simp [ot,Lp c k]
theorem W1 (c:r9):∀ {k j:Nat},j<k->nth (ot c k) j=R6 c j
 |k+1,j,h=>by
  have hl:=Lp c k
  rcases A5 j k with h1|h1
  .rw [<- W1 c h1,ot,F2 (by simp;omega),F2 (by omega),List.getElem_append_left (by omega)]
  grind [ot,F2,List.getElem_append_right,R6]
def uT (c:r9)(n:Nat):Prop:=∀ k,c.j9.length<=k->k<n->0<=F1 c (nth c.views (k - c.j9.length)).left k/\(O1 (nth c.views (k - c.j9.length)).right []=false->0<=F1 c (nth c.views (k - c.j9.length)).right k)
theorem K6 (c:r9)(name:K4)(n:Nat):F1 c name n= -1\/(0<=F1 c name n/\F1 c name n<n/\F1 c name n<r9.ns c):=by
 grind [F1,gH,r9.sn,Z5]
theorem dK {c:r9}(hs:J7 c):∀ (n k:Nat),k<n->n<=r9.ns c->uT c n->(R6 c k).length<=2000
 |0,k,h,_,_=>absurd h (by omega)
 |n+1,k,h,hn,ho=>by
  rcases A5 k n with h1|h1
  .exact dK hs n k h1 (by omega) (fun k h1 h2=>ho k h1 (by omega))
  unfold R6 ja;split
  .rename_i h2
   have:=hs.sm.q7 k h2;simp;omega
  .have hv:k - c.j9.length<c.views.length:=by grind [r9.ns]
   split
   .have h3:=(ho k (by omega) (by omega)).1
    rcases K6 c (nth c.views (k - c.j9.length)).left k with h4|h4
    .omega
    .rw [W1 c (by omega)]
     exact dK hs k _ (by omega) (by omega) (fun k h1 h2=>ho k h1 (by omega))
   .have h5:=hs.items _ hv
    have h6:=hs.D5 _ hv
    grind [aL]
set_option maxHeartbeats 8000000 in
theorem jX (c:r9)(hs:J7 c):∀ (n s:Nat),s<n->n<=r9.ns c->uT c n->Pf A 54 [cat c,.d (num s)] (.d (ints (R6 c s)))/\(c.j9.length<=s->Pf A 113 [cat c,.d (num s)] (.d (ints (ins c s))))
 |0,s,h,_,_=>absurd h (by omega)
 |n+1,s,h,hn,ho=>by
  have gw:r9.ns c<=2000:=by obtain ⟨f0,f1,_⟩:=hs.sm.oB;unfold r9.ns;omega
  have ay3:r9.ns c=c.j9.length+c.views.length:=rfl
  rcases A5 s n with h1|h1
  .exact jX c hs n s h1 (by omega) (fun k h1 h2=>ho k h1 (by omega))
  obtain rfl:s=n:=by omega
  have ih:∀ k,k<s->Pf A 54 [cat c,.d (num k)] (.d (ints (R6 c k))):=fun k hk=>(jX c hs s k hk (by omega) (fun k h1 h2=>ho k h1 (by omega))).1
  have hlen:∀ k,k<s->(R6 c k).length<=2000:=fun k hk=>dK hs s k hk (by omega) (fun k h1 h2=>ho k h1 (by omega))
  have hin:c.j9.length<=s->Pf A 113 [cat c,.d (num s)] (.d (ints (ins c s))):=fun ht=>by
   have hv:s - c.j9.length<c.views.length:=by omega
   obtain ⟨o1,o2⟩:=ho s ht (by omega);have b1:=K6 c (nth c.views (s - c.j9.length)).left s;have b2:=K6 c (nth c.views (s - c.j9.length)).right s;obtain ⟨q1,e1⟩:∃ q:Nat,F1 c (nth c.views (s - c.j9.length)).left s=q:=⟨_,(Int.toNat_of_nonneg o1).symm⟩;have p1:=Hq c (nth c.views (s - c.j9.length)).left s hs.sm.oB (by omega);have p2:=Hq c (nth c.views (s - c.j9.length)).right s hs.sm.oB (by omega);rw [e1] at p1;have l1:=hlen q1 (by omega);have t1:=ih q1 (by omega);refine Pf.run [cat c,.d (num s),.any,.any,.any,.any] rfl rfl rfl rfl ?_
   repeat' (first|refine ixI (e:=(s:Int) - (c.j9.length:Int)) (s - c.j9.length) (h2:= ?_)|refine gx ?_|fail)
   repeat' (first|refine cl (p1) ?_|refine cl (t1) ?_|refine gx ?_|fail)
   refine tb (!O1 (nth c.views (s - c.j9.length)).right []) (fun h2=> ?_) (fun h2=> ?_)
   .simp only [o7] at h2
    obtain ⟨q2,e2⟩:∃ q:Nat,F1 c (nth c.views (s - c.j9.length)).right s=q:=⟨_,(Int.toNat_of_nonneg (o2 h2)).symm⟩;rw [e2] at p2;have l2:=hlen q2 (by omega);have t2:=ih q2 (by omega)
    repeat' (first|refine cl (p2) ?_|refine cl (t2) ?_|refine gx ?_|fail)
    refine ⟨_,rfl,?_⟩;simp only [ins,Bl,e1,e2,P0,h2,j4,if_false];rw [W1 c (by omega),W1 c (by omega)];rfl
   .simp only [C8] at h2
    refine gr ?_;refine ⟨_,rfl,?_⟩;simp only [ins,Bl,e1,P0,h2,if_true];rw [W1 c (by omega)];simp [j3,ints,B0]
  refine ⟨?_,hin⟩;refine Pf.run [cat c,.d (num s),.any,.any,.any,.any,.any,.any,.any,.any,.any,.any] rfl rfl rfl rfl ?_;refine gr ?_;refine tb (E4 s c.j9.length) (fun h2=> ?_) (fun h2=> ?_)
  .have h3:=A6 h2
   have hcl:=hs.sm.q7 s (by omega);refine gr ?_;refine Ex.I7 (fun k T H=>∃ (i:Nat) (acc:List Int) (w0 w3 w6 w7 w8 w9 iL iM:c8),T=[w0,.d (num s),.ptr 0 0,w3,E7 1 (fun n=>[num n]) acc,.d (num i),w6,w7,w8,w9,iL,iM]/\H=[.cells (c.enc.map .d)]/\i+k=(nth c.j9 s).q7.length/\acc=((nth c.j9 s).q7.take i).map ek.type) (by rintro _ _ _ ⟨_,_,_,_,_,_,_,_,_,_,_,rfl,_⟩;rfl) ?_ (k:=(nth c.j9 s).q7.length) ⟨0,[],_,_,_,_,_,_,_,_,rfl,rfl,by simp,by simp⟩;rintro k _ _ ⟨i,acc,w0,w3,w6,w7,w8,w9,iL,iM,rfl,rfl,hk,hacc⟩;have hl:acc.length=i:=by rw [hacc];simp;omega
   refine Ex.nT ?_
   repeat' (first|refine gx ?_|refine Ex.M8 ?_|refine Ex.N6 ?_|refine Ex.cond rfl (fun ht=> ?_) (fun ht=> ?_)|refine Ex.test (Rn.text ?_)|refine Ex.test (Rn.draw ?_)|refine ⟨_,rfl,fun ht=> ?_,fun ht=> ?_⟩|refine ⟨_,rfl,?_⟩|fail)
   .have h4:=A6 ht
    refine ⟨k - 1,by omega,i+1,acc++[(nth (nth c.j9 s).q7 i).type],_,_,_,_,_,_,_,_,rfl,rfl,by omega,?_⟩;rw [H9 (by omega),hacc];simp
   .have h4:=A3 ht
    rw [y6 (by omega)] at hacc;simp only [R6,ja];rw [if_pos (by omega),<- hacc];rfl
  have h3:=A3 h2;have hv:s - c.j9.length<c.views.length:=by omega
  obtain ⟨o1,o2⟩:=ho s (by omega) (by omega);have b1:=K6 c (nth c.views (s - c.j9.length)).left s;have b2:=K6 c (nth c.views (s - c.j9.length)).right s;obtain ⟨q1,e1⟩:∃ q:Nat,F1 c (nth c.views (s - c.j9.length)).left s=q:=⟨_,(Int.toNat_of_nonneg o1).symm⟩;have p1:=Hq c (nth c.views (s - c.j9.length)).left s hs.sm.oB (by omega);rw [e1] at p1;have l1:=hlen q1 (by omega);have t1:=ih q1 (by omega);have DG:(ins c s).length<=4000:=by
   simp only [ins,Bl,e1,P0];rw [W1 c (by omega)];cases h5:O1 (nth c.views (s - c.j9.length)).right [] with
   |true=>simp;omega
   |false =>
    have h6:=o2 h5;have h7:=hlen (F1 c (nth c.views (s - c.j9.length)).right s).toNat (by omega);rw [W1 c (by omega)];simp;omega
  have hi1:=hs.items _ hv;have hi2:=hs.D5 _ hv
  repeat' (first|refine ixI (e:=(s:Int) - (c.j9.length:Int)) (s - c.j9.length) (h2:= ?_)|refine gx ?_|fail)
  refine tb (s9 (nth c.views (s - c.j9.length)).kind 2) (fun h4=> ?_) (fun h4=> ?_)
  .repeat' (first|refine cl (p1) ?_|refine cl (t1) ?_|refine gx ?_|fail)
   refine ⟨_,rfl,?_⟩;have hct:R6 c s=nth (ot c s) q1:=by
    unfold R6 ja;rw [if_neg (by omega),h4,if_pos rfl,e1];rfl
   rw [hct,W1 c (by omega)];rfl
  repeat' (first|refine cl (hin (by omega)) ?_|refine gx ?_|fail)
  refine Ex.I7 (fun k T H=>∃ (i:Nat) (acc:List Int) (w0 w1 w2 w3 w5 w9 iL iM:c8),T=[w0,w1,w2,w3,E7 1 (fun n=>[num n]) acc,w5,.ptr 1 0,.d (ints (ins c s)),.d (num i),w9,iL,iM]/\H=[.cells (c.enc.map .d),.cells ((nth c.views (s - c.j9.length)).enc.map .d)]/\i+k=(nth c.views (s - c.j9.length)).items.length/\acc=((nth c.views (s - c.j9.length)).items.take i).map fun x=>(M5 x.expr (ins c s)).1) (by rintro _ _ _ ⟨_,_,_,_,_,_,_,_,_,_,_,rfl,_⟩;rfl) ?_ (k:=(nth c.views (s - c.j9.length)).items.length) ⟨0,[],_,_,_,_,_,_,_,_,rfl,rfl,by simp,by simp⟩;rintro k _ _ ⟨i,acc,w0,w1,w2,w3,w5,w9,iL,iM,rfl,rfl,hk,hacc⟩;have hl:acc.length=i:=by rw [hacc];simp;omega
  refine Ex.nT ?_;refine Ex.seq ?_;refine tb (E4 i (nth c.views (s - c.j9.length)).items.length) (fun h5=> ?_) (fun h5=> ?_)
  .have h6:=A6 h5
   repeat' (first|refine cl (PS (nth (nth c.views (s - c.j9.length)).items i).expr (ins c s) (hs.JN (s - c.j9.length) i hv (by omega)) (by omega)) ?_|refine gx ?_|fail)
   refine ⟨k - 1,by omega,i+1,acc++[(M5 (nth (nth c.views (s - c.j9.length)).items i).expr (ins c s)).1],_,_,_,_,_,_,_,_,rfl,rfl,by omega,?_⟩;rw [H9 (by omega),hacc];simp
  have h6:=A3 h5;rw [y6 (by omega)] at hacc;clear h5 h6 hk hl;refine gr ?_;have hl0:acc.length<=1000:=by rw [hacc];simp;omega
  refine Ex.I7 (fun k T H=>∃ (i:Nat) (SK:List Int) (w0 w1 w2 w3 w5 w8 w9 iM:c8),T=[w0,w1,w2,w3,E7 1 (fun n=>[num n]) SK,w5,.ptr 1 0,.d (ints (ins c s)),w8,w9,.d (num i),iM]/\H=[.cells (c.enc.map .d),.cells ((nth c.views (s - c.j9.length)).enc.map .d)]/\i+k=(nth c.views (s - c.j9.length)).D5.length/\SK=acc++((nth c.views (s - c.j9.length)).D5.take i).map (xK (ins c s))) (by rintro _ _ _ ⟨_,_,_,_,_,_,_,_,_,_,_,rfl,_⟩;rfl) ?_ (k:=(nth c.views (s - c.j9.length)).D5.length) ⟨0,acc,_,_,_,_,_,_,_,_,rfl,rfl,by simp,by simp⟩;rintro k _ _ ⟨i,SK,w0,w1,w2,w3,w5,w8,w9,iM,rfl,rfl,hk,Jv⟩;have hl:SK.length=acc.length+i:=by rw [Jv];simp;omega
  refine Ex.nT ?_;refine Ex.seq ?_;refine tb (E4 i (nth c.views (s - c.j9.length)).D5.length) (fun h5=> ?_) (fun h5=> ?_)
  .have h6:=A6 h5
   repeat' (first|refine cl (PS (nth (nth c.views (s - c.j9.length)).D5 i).expr (ins c s) (hs.UP (s - c.j9.length) i hv (by omega)) (by omega)) ?_|refine gx ?_|fail)
   refine tb (s9 (nth (nth c.views (s - c.j9.length)).D5 i).func 0||s9 (nth (nth c.views (s - c.j9.length)).D5 i).func 1) (fun h7=> ?_) (fun h7=> ?_)
   .refine gr ?_
    refine ⟨k - 1,by omega,i+1,SK++[1],_,_,_,_,_,_,_,_,rfl,rfl,by omega,?_⟩;rw [H9 (by omega),Jv];simp [xK,h7]
   .refine gr ?_
    refine ⟨k - 1,by omega,i+1,SK++[(M5 (nth (nth c.views (s - c.j9.length)).D5 i).expr (ins c s)).1],_,_,_,_,_,_,_,_,rfl,rfl,by omega,?_⟩;rw [H9 (by omega),Jv];simp [xK,h7]
  .have h6:=A3 h5
   rw [y6 (by omega)] at Jv;refine gr ?_;refine ⟨_,rfl,?_⟩;simp only [R6,ja];rw [if_neg (by omega),h4,if_neg (by simp)];simp only [aL];rw [show Bl c (ot c s) (nth c.views (s - c.j9.length)) s=ins c s from rfl,<- hacc,<- Jv];rfl
structure DW where
 agg:Bool
 name:K4
 f:Int
 expr:List X0
instance:Inhabited DW:=⟨⟨false,[],0,[]⟩⟩
def cM (v:Vw):List DW:=v.items.map (fun x=>⟨false,x.name, -1,x.expr⟩)++v.D5.map (fun x=>⟨true,x.name,x.func,x.expr⟩)
def aa (ty:List Int):List K4->List DW->Int
 |_,[]=>0
 |seen,e::r =>
  if !L3 e.name then 3
  else if seen.any fun y=>O1 y e.name then 4
  else if e.agg&&(!q8 e.f 0 4||(s9 e.f 0&&E4 0 e.expr.length)) then 1
  else if e.agg&&s9 e.f 0 then aa ty (seen++[e.name]) r
  else if !s9 (M5 e.expr ty).2 0 then (M5 e.expr ty).2
  else if e.agg&&s9 e.f 1&& !s9 (M5 e.expr ty).1 1 then 5
  else aa ty (seen++[e.name]) r
def mz (v:Vw):(cM v).length=v.items.length+v.D5.length:=by simp [cM]
def wI (v:Vw){i:Nat}(h:i<v.items.length):nth (cM v) i=⟨false,(nth v.items i).name, -1,(nth v.items i).expr⟩:=by
 rw [F2 (by rw [mz];omega),F2 h];simp [cM,List.getElem_append_left,h]
def AN (v:Vw){i:Nat}(h:v.items.length<=i)(h2:i<v.items.length+v.D5.length):nth (cM v) i=⟨true,(nth v.D5 (i - v.items.length)).name,(nth v.D5 (i - v.items.length)).func,(nth v.D5 (i - v.items.length)).expr⟩:=by
 rw [F2 (by rw [mz];omega),F2 (by omega)];simp [cM,List.getElem_append_right,h]
def Th (v:Vw){i:Nat}(h:i<v.items.length+v.D5.length):(nth (cM v) i).agg=bV v.items.length i:=by
 rcases A5 i v.items.length with h1|h1
 .rw [wI v h1];simp [s6];omega
 .rw [AN v h1 h];simp [s6];omega
set_option maxHeartbeats 16000000 in
def aW3 (v:Vw)(ty:List Int)(h0:v.items.length<=1000)(h1:v.D5.length<=1000)(h2:ty.length<=100000)(h3:∀ i,i<v.items.length->(nth v.items i).expr.length<=1000)(h4:∀ i,i<v.D5.length->(nth v.D5 i).expr.length<=1000) :
  Pf A 203 [vw v,.d (ints ty)] (.d (num (aa ty [] (cM v)))):=by
 have hel:=mz v;refine Pf.run [vw v,.d (ints ty),.any,.any,.any,.any,.any,.any,.any,.any,.any,.any,.any] rfl rfl rfl rfl ?_;refine gr ?_;refine Ex.cV (fun k T H=>∃ (i:Nat) (seen:List K4),T=[.any,.d (ints ty),.ptr 0 0,.any,E7 1 (fun s=>[.str s]) seen,.d (num i),.any,.any,.any,.any,.any,.any,.any]/\H=[.cells (v.enc.map .d)]/\i+k=(cM v).length/\seen.length=i/\aa ty [] (cM v)=aa ty seen ((cM v).drop i)) ?_ (k:=(cM v).length) ⟨0,[],rfl,rfl,by simp,rfl,by simp⟩;rintro k _ _ ⟨i,seen,rfl,rfl,hk,Tx,hi⟩;refine Ex.seq ?_;refine tB (E4 i (cM v).length) ?_ (fun h5=> ?_) (fun h5=> ?_)
 .repeat' (first|refine cl (hel) ?_|refine gx ?_|refine fk (h1:=fun hw=> ?_) (h2:=fun hw=> ?_)|refine U1 (h1:=fun hw=> ?_) (h2:=fun hw=> ?_)|refine ⟨rfl,rfl,_,rfl,?_⟩|refine ⟨rfl,rfl⟩|fail)
  all_goals exact cc
 .have h6:=A6 h5
  have hix:i<v.items.length+v.D5.length:=by omega
  rw [D3 (by omega)] at hi;have hfl:=Th v hix;refine gr ?_;refine Ex.OA (fun s=>∃ (f:Int) (H2:p9) (w9:c8),s=⟨[.any,.d (ints ty),.ptr 0 0,.any,E7 1 (fun s=>[.str s]) seen,.d (num i),.d (.str (nth (cM v) i).name),.d (num (nth (cM v) i).f),.d (B0 X0.enc (nth (cM v) i).expr),w9,.any,.any,.any],.cells (v.enc.map .d)::H2⟩/\(nth (cM v) i).expr.length<=1000) ?_ ?_
  .skip
   refine tb (E4 i v.items.length) (fun h7=> ?_) (fun h7=> ?_)
   .have h8:=A6 h7
    have he:=h3 i (by omega);rw [wI v (by omega)];refine gr ?_;exact ⟨-1,_,_,rfl,he⟩
   .have h8:=A3 h7
    have he:=h4 (i - v.items.length) (by omega);rw [AN v (by omega) hix]
    repeat' (first|refine ixI (e:=(i:Int) - (v.items.length:Int)) (i - v.items.length) (h2:= ?_)|refine gx ?_|fail)
    exact ⟨0,_,_,rfl,he⟩
  rintro _ ⟨f,H2,w9,rfl,he⟩;generalize hen:nth (cM v) i=en at *
  obtain ⟨ag,nm,ef,ex⟩:=en;simp only at *
  subst hfl;have aS3:=PS ex ty he h2;refine gr ?_;refine tB (!L3 nm) ?_ (fun g1=> ?_) (fun g1=> ?_)
  .repeat' (first|refine cl (aD9 _) ?_|refine gx ?_|refine fk (h1:=fun hw=> ?_) (h2:=fun hw=> ?_)|refine U1 (h1:=fun hw=> ?_) (h2:=fun hw=> ?_)|refine ⟨rfl,rfl,_,rfl,?_⟩|refine ⟨rfl,rfl⟩|fail)
   all_goals exact cc
  .refine gr ?_
   exact ⟨_,rfl,by rw [hi];simp only [aa,g1,j3,num,if_true]⟩
  refine gr ?_;refine Ex.I7 (fun k T H=>∃ (j:Nat) (w0 w3 w9 iM Lu:c8),T=[w0,.d (ints ty),.ptr 0 0,w3,E7 1 (fun s=>[.str s]) seen,.d (num i),.d (.str nm),.d (num ef),.d (B0 X0.enc ex),w9,.d (num j),iM,Lu]/\H= .cells (v.enc.map .d)::H2/\j+k=seen.length/\(seen.any fun y=>O1 y nm)=((seen.drop j).any fun y=>O1 y nm)) (by rintro _ _ _ ⟨_,_,_,_,_,_,_,rfl,_⟩;rfl) ?_ (k:=seen.length) ⟨0,_,_,_,_,_,rfl,rfl,by simp,by simp⟩;rintro k2 _ _ ⟨j,w0,w3,w9,iM,Lu,rfl,rfl,hk2,hj⟩;refine Ex.nT ?_;refine Ex.seq ?_;refine tb (E4 j seen.length) (fun g0=> ?_) (fun g0=> ?_)
  .have g00:=A6 g0
   rw [D3 (by omega)] at hj
   repeat' (first|refine gx ?_|refine Ex.M8 ?_|refine Ex.N6 ?_|refine Ex.cond rfl (fun ht=> ?_) (fun ht=> ?_)|refine Ex.test (Rn.text ?_)|refine Ex.test (Rn.draw ?_)|refine ⟨_,rfl,fun ht=> ?_,fun ht=> ?_⟩|refine ⟨_,rfl,?_⟩|fail)
   .have g2:(seen.any fun y=>O1 y nm)=true:=by rw [hj];simp [ht]
    rw [hi];simp only [aa,g1,g2,j3,num,j4,if_true,if_false]
   .exact ⟨k2 - 1,by omega,j+1,_,_,_,_,_,rfl,rfl,by omega,by rw [hj];simp [ht]⟩
  have g00:=A3 g0;rw [l6 (by omega)] at hj;have g2:(seen.any fun y=>O1 y nm)=false:=by rw [hj];rfl
  clear hj hk2 g0 g00;refine gr ?_;refine tB (bV v.items.length i&&(!q8 ef 0 4||(s9 ef 0&&E4 0 ex.length))) ?_ (fun g3=> ?_) (fun g3=> ?_)
  .repeat' (first|refine cl (tG _ _ _) ?_|refine gx ?_|refine fk (h1:=fun hw=> ?_) (h2:=fun hw=> ?_)|refine U1 (h1:=fun hw=> ?_) (h2:=fun hw=> ?_)|refine ⟨rfl,rfl,_,rfl,?_⟩|refine ⟨rfl,rfl⟩|fail)
   all_goals exact cc
  .refine gr ?_
   exact ⟨_,rfl,by rw [hi];simp only [aa,g1,g2,g3,j3,num,j4,if_true,if_false]⟩
  refine gr ?_;refine tb (bV v.items.length i&&s9 ef 0) (fun g4=> ?_) (fun g4=> ?_)
  .refine gr ?_
   exact ⟨k - 1,by omega,_,_,rfl,i+1,seen++[nm],rfl,rfl,by omega,by simp [Tx],by rw [hi];simp only [aa,g1,g2,g3,g4,j4,if_true,if_false]⟩
  repeat' (first|refine cl (aS3) ?_|refine gx ?_|fail)
  refine tb (!s9 (M5 ex ty).2 0) (fun g5=> ?_) (fun g5=> ?_)
  .refine gr ?_
   exact ⟨_,rfl,by rw [hi];simp only [aa,g1,g2,g3,g4,g5,j3,j4,if_true,if_false]⟩
  refine gr ?_;refine tb (bV v.items.length i&&s9 ef 1&& !s9 (M5 ex ty).1 1) (fun g6=> ?_) (fun g6=> ?_)
  .refine gr ?_
   exact ⟨_,rfl,by rw [hi];simp only [aa,g1,g2,g3,g4,g5,g6,j3,num,j4,if_true,if_false]⟩
  .refine gr ?_
   exact ⟨k - 1,by omega,_,_,rfl,i+1,seen++[nm],rfl,rfl,by omega,by simp [Tx],by rw [hi];simp only [aa,g1,g2,g3,g4,g5,g6,j4,if_true,if_false]⟩
 .have h6:=A3 h5
  rw [l6 (by omega)] at hi;refine gr ?_;exact ⟨_,rfl,by rw [hi];rfl⟩
def X2 (c:r9)(k:Nat):Vw:=nth c.views (k - c.j9.length)
def lT (c:r9)(k:Nat):List Int:=nth (ot c k) (F1 c (X2 c k).left k).toNat
def rT (c:r9)(k:Nat):List Int:=if O1 (X2 c k).right [] then [] else nth (ot c k) (F1 c (X2 c k).right k).toNat
def W8 (c:r9)(k:Nat):Int :=
 if !q8 (X2 c k).kind 0 2 then 1
 else if E4 (F1 c (X2 c k).left k) 0||(!O1 (X2 c k).right []&&E4 (F1 c (X2 c k).right k) 0) then 7
 else if !bC (X2 c k) then 1
 else if s9 (X2 c k).kind 2 then (if !fR s9 (lT c k) (rT c k) then 5 else 0)
 else if !s9 (P3 (lT c k) (rT c k) (X2 c k).on) 0 then P3 (lT c k) (rT c k) (X2 c k).on
 else if E4 0 (X2 c k).wh.length&& !s9 (M5 (X2 c k).wh (ins c k)).2 0 then (M5 (X2 c k).wh (ins c k)).2
 else if E4 0 (X2 c k).wh.length&& !s9 (M5 (X2 c k).wh (ins c k)).1 1 then 5
 else aa (ins c k) [] (cM (X2 c k))
set_option maxHeartbeats 16000000 in
def bD7 (c:r9)(hs:J7 c)(k:Nat)(hk:c.j9.length<=k)(hk2:k<r9.ns c)(ho:uT c k):Pf A 145 [cat c,.d (num k)] (.d (num (W8 c k))):=by
 have gw:r9.ns c<=2000:=by obtain ⟨f0,f1,_⟩:=hs.sm.oB;unfold r9.ns;omega
 have ay3:r9.ns c=c.j9.length+c.views.length:=rfl;have hv:k - c.j9.length<c.views.length:=by omega
 have hv1:(X2 c k).items.length<=1000:=hs.items _ hv;have hv2:(X2 c k).D5.length<=1000:=hs.D5 _ hv;have hv3:(X2 c k).on.length<=1000:=hs.on _ hv;have hv4:(X2 c k).wh.length<=1000:=hs.wh _ hv;have yf:nth c.views (k - c.j9.length)=X2 c k:=rfl;have p1:=Hq c (X2 c k).left k hs.sm.oB (by omega);have p2:=Hq c (X2 c k).right k hs.sm.oB (by omega);have p3:=bE5 c (X2 c k) hv1 hv2;have b1:=K6 c (X2 c k).left k;have b2:=K6 c (X2 c k).right k;refine Pf.run [cat c,.d (num k),.any,.any,.any,.any,.any,.any,.any,.any,.any,.any,.any] rfl rfl rfl rfl ?_
 repeat' (first|refine ixI (e:=(k:Int) - (c.j9.length:Int)) (k - c.j9.length) (h2:= ?_)|refine gx ?_|fail)
 rw [yf];refine tB (!q8 (X2 c k).kind 0 2) ?_ (fun h1=> ?_) (fun h1=> ?_)
 .repeat' (first|refine cl (tG _ _ _) ?_|refine gx ?_|refine fk (h1:=fun hw=> ?_) (h2:=fun hw=> ?_)|refine U1 (h1:=fun hw=> ?_) (h2:=fun hw=> ?_)|refine ⟨rfl,rfl,_,rfl,?_⟩|refine ⟨rfl,rfl⟩|fail)
  all_goals exact cc
 .refine gr ?_
  exact ⟨_,rfl,by unfold W8;rw [h1];rfl⟩
 repeat' (first|refine cl (p1) ?_|refine cl (p2) ?_|refine gx ?_|fail)
 refine tb (E4 (F1 c (X2 c k).left k) 0||(!O1 (X2 c k).right []&&E4 (F1 c (X2 c k).right k) 0)) (fun h2=> ?_) (fun h2=> ?_)
 .refine gr ?_
  exact ⟨_,rfl,by unfold W8;rw [h1,h2];rfl⟩
 have h2' :=h2;simp only [G8] at h2';have f1:=A3 h2'.1;have f2:O1 (X2 c k).right []=false->0<=F1 c (X2 c k).right k:=fun h=>by
  have:=h2'.2;simp only [h,Bool.not_false,Bool.true_and] at this;exact A3 this
 have ho2:uT c (k+1):=fun m h h' =>by
  rcases A5 m k with h3|h3
  .exact ho m h h3
  .obtain rfl:m=k:=by omega
   exact ⟨f1,f2⟩
 obtain ⟨q1,e1⟩:∃ q:Nat,F1 c (X2 c k).left k=q:=⟨_,(Int.toNat_of_nonneg f1).symm⟩;have t1:=(jX c hs (k+1) q1 (by omega) (by omega) ho2).1;have ti:=(jX c hs (k+1) k (by omega) (by omega) ho2).2 hk;have l1:=dK hs (k+1) q1 (by omega) (by omega) ho2;have eL:lT c k=R6 c q1:=by unfold lT;rw [e1,P0,W1 c (by omega)]
 refine tB (!bC (X2 c k)) ?_ (fun h3=> ?_) (fun h3=> ?_)
 .repeat' (first|refine cl (p3) ?_|refine gx ?_|refine fk (h1:=fun hw=> ?_) (h2:=fun hw=> ?_)|refine U1 (h1:=fun hw=> ?_) (h2:=fun hw=> ?_)|refine ⟨rfl,rfl,_,rfl,?_⟩|refine ⟨rfl,rfl⟩|fail)
  all_goals exact cc
 .refine gr ?_
  exact ⟨_,rfl,by unfold W8;rw [h1,h2,h3];rfl⟩
 rw [e1]
 repeat' (first|refine cl (t1) ?_|refine gx ?_|fail)
 refine Ex.OA (fun s=>∃ (w6 w8:c8),s=⟨[cat c,.d (num k),.ptr 0 0,.d (num 0),.ptr 1 0,.d (num q1),w6,.d (ints (R6 c q1)),w8,.any,.any,.any,.any],[.cells (c.enc.map .d),.cells ((X2 c k).enc.map .d)]⟩/\w8.J3= .d (ints (rT c k))/\(rT c k).length<=2000) ?_ ?_
 .skip
  refine tb (!O1 (X2 c k).right []) (fun h4=> ?_) (fun h4=> ?_)
  .simp only [o7] at h4
   obtain ⟨q2,e2⟩:∃ q:Nat,F1 c (X2 c k).right k=q:=⟨_,(Int.toNat_of_nonneg (f2 h4)).symm⟩;have t2:=(jX c hs (k+1) q2 (by omega) (by omega) ho2).1;have l2:=dK hs (k+1) q2 (by omega) (by omega) ho2;have eR:rT c k=R6 c q2:=by unfold rT;rw [h4,e2,if_neg (by simp),P0,W1 c (by omega)]
   rw [e2]
   repeat' (first|refine cl (t2) ?_|refine gx ?_|fail)
   exact ⟨_,_,rfl,by rw [eR];rfl,by rw [eR];exact l2⟩
  .simp only [C8] at h4
   have eR:rT c k=[]:=by unfold rT;rw [h4,if_pos rfl]
   refine gr ?_;exact ⟨_,_,rfl,by rw [eR];rfl,by rw [eR];simp⟩
 rintro _ ⟨w6,w8,rfl,hw8,lR⟩;have hin:(ins c k).length<=100000:=by
  have:ins c k=lT c k++rT c k:=rfl;rw [this,eL];simp;omega
 have pS:=bE6 (R6 c q1) (rT c k) (by omega);have pP:=bE7 (X2 c k).on (R6 c q1) (rT c k) hv3 (by omega) (by omega);have pW:=PS (X2 c k).wh (ins c k) hv4 hin;have pC:=aW3 (X2 c k) (ins c k) hv1 hv2 hin (fun i h=>hs.JN _ i hv h) (fun i h=>hs.UP _ i hv h);have eL' :=eL.symm;rw [eL'];rw [<- eL] at pS pP;clear p1 p2 p3 t1 eL' eL;refine gr ?_;refine tb (s9 (X2 c k).kind 2) (fun h5=> ?_) (fun h5=> ?_)
 .refine gr ?_
  refine tB (!fR s9 (lT c k) (rT c k)) ?_ (fun h6=> ?_) (fun h6=> ?_)
  .repeat' (first|refine mvS hw8 ?_|refine cl (pS) ?_|refine gx ?_|refine fk (h1:=fun hw=> ?_) (h2:=fun hw=> ?_)|refine U1 (h1:=fun hw=> ?_) (h2:=fun hw=> ?_)|refine ⟨rfl,rfl,_,rfl,?_⟩|refine ⟨rfl,rfl⟩|fail)
   all_goals exact cc
  .refine gr ?_
   exact ⟨_,rfl,by unfold W8;rw [h1,h2,h3,h5,h6];rfl⟩
  .refine gr ?_
   exact ⟨_,rfl,by unfold W8;rw [h1,h2,h3,h5,h6];rfl⟩
 repeat' (first|refine mvS hw8 ?_|refine cl (pP) ?_|refine gx ?_|fail)
 refine tb (!s9 (P3 (lT c k) (rT c k) (X2 c k).on) 0) (fun h6=> ?_) (fun h6=> ?_)
 .refine gr ?_
  exact ⟨_,rfl,by unfold W8;rw [h1,h2,h3,h5,h6];rfl⟩
 repeat' (first|refine cl (ti) ?_|refine gx ?_|fail)
 refine tb (E4 0 (X2 c k).wh.length) (fun h7=> ?_) (fun h7=> ?_)
 .repeat' (first|refine cl (pW) ?_|refine gx ?_|fail)
  refine tb (!s9 (M5 (X2 c k).wh (ins c k)).2 0) (fun h8=> ?_) (fun h8=> ?_)
  .refine gr ?_
   exact ⟨_,rfl,by unfold W8;rw [h1,h2,h3,h5,h6,h7,h8];rfl⟩
  refine gr ?_;refine tb (!s9 (M5 (X2 c k).wh (ins c k)).1 1) (fun h9=> ?_) (fun h9=> ?_)
  .refine gr ?_
   exact ⟨_,rfl,by unfold W8;rw [h1,h2,h3,h5,h6,h7,h8,h9];rfl⟩
  repeat' (first|refine cl (pC) ?_|refine gx ?_|fail)
  exact ⟨_,rfl,by unfold W8;rw [h1,h2,h3,h5,h6,h7,h8,h9];rfl⟩
 .repeat' (first|refine cl (pC) ?_|refine gx ?_|fail)
  exact ⟨_,rfl,by unfold W8;rw [h1,h2,h3,h5,h6,h7];rfl⟩
def mT (c:r9)(name:K4)(col:Int):Int×Int :=
 if E4 (F1 c name (r9.ns c)) 0 then (0,7)
 else if !q8 col 0 ((R6 c (F1 c name (r9.ns c)).toNat).length - 1) then (0,3)
 else (nth (R6 c (F1 c name (r9.ns c)).toNat) col.toNat,0)
def WD {c:r9}(hs:J7 c):r9.ns c<=2000:=by obtain ⟨f0,f1,_⟩:=hs.sm.oB;unfold r9.ns;omega
def WV (c:r9)(hs:J7 c)(ho:uT c (r9.ns c))(name:K4)(col:Int):Pf A 204 [cat c,.d (.str name),.d (num col)] (.tuple [.d (num (mT c name col).1),.d (num (mT c name col).2)]):=by
 have gw:=WD hs;have ay3:r9.ns c=c.j9.length+c.views.length:=rfl;have p1:=Hq c name (r9.ns c) hs.sm.oB (by omega);have b1:=K6 c name (r9.ns c);refine Pf.run [cat c,.d (.str name),.d (num col),.any,.any,.any,.any,.any] rfl rfl rfl rfl ?_
 repeat' (first|refine cl (p1) ?_|refine gx ?_|fail)
 refine tb (E4 (F1 c name (r9.ns c)) 0) (fun h1=> ?_) (fun h1=> ?_)
 .refine gr ?_
  exact ⟨_,rfl,by simp only [mT,h1,if_true];rfl⟩
 have h2:=A3 h1;obtain ⟨q,e1⟩:∃ q:Nat,F1 c name (r9.ns c)=q:=⟨_,(Int.toNat_of_nonneg h2).symm⟩;have t1:=(jX c hs (r9.ns c) q (by omega) (by omega) ho).1;have l1:=dK hs (r9.ns c) q (by omega) (by omega) ho;rw [e1] at h1 ⊢
 repeat' (first|refine cl (t1) ?_|refine gx ?_|fail)
 refine tB (!q8 col 0 ((R6 c q).length - 1)) ?_ (fun h3=> ?_) (fun h3=> ?_)
 .repeat' (first|refine cl (tG _ _ _) ?_|refine gx ?_|refine fk (h1:=fun hw=> ?_) (h2:=fun hw=> ?_)|refine U1 (h1:=fun hw=> ?_) (h2:=fun hw=> ?_)|refine ⟨rfl,rfl,_,rfl,?_⟩|refine ⟨rfl,rfl⟩|fail)
  all_goals exact cc
 .refine gr ?_
  exact ⟨_,rfl,by simp only [mT,e1,h1,P0,h3,j4,if_false,if_true];rfl⟩
 have h4:=h3;simp [q8,s6] at h4;refine gr ?_;exact ⟨_,rfl,by simp only [mT,e1,h1,P0,h3,j4,if_false];rfl⟩
def skt (x:nC):c8:= .agg (x.enc.map .d)
def rls (x:oT):c8:= .agg (x.enc.map .d)
def bkp (x:tN):c8:= .agg (x.enc.map .d)
def HJ (x:nC):Bool:= !q8 x.kind 0 2|| !q8 x.width 1 1024|| !q8 x.depth 1 8||(s9 x.kind 2&& !s9 x.depth 1)||E4 1024 (x.width * x.depth)
def DO (c:r9)(x:nC):Int:=if !s9 (mT c x.source x.col).2 0 then (mT c x.source x.col).2 else if HJ x then 1 else 0
set_option maxHeartbeats 8000000 in
def aW4 (c:r9)(hs:J7 c)(ho:uT c (r9.ns c))(x:nC):Pf A 205 [cat c,skt x] (.d (num (DO c x))):=by
 have p1:=WV c hs ho x.source x.col;refine Pf.run [cat c,skt x,.any,.any,.any,.any] rfl rfl rfl rfl ?_
 repeat' (first|refine cl (p1) ?_|refine gx ?_|fail)
 refine tb (!s9 (mT c x.source x.col).2 0) (fun h1=> ?_) (fun h1=> ?_)
 .refine gr ?_
  exact ⟨_,rfl,by simp only [DO,h1,if_true];rfl⟩
 refine gr ?_;cases hW:q8 x.width 1 1024 with
 |false =>
  refine tB (true) ?_ (fun h2=> ?_) (fun h2=> ?_)
  .repeat' (first|refine cl (tG _ _ _) ?_|refine gx ?_|refine fk (h1:=fun hw=> ?_) (h2:=fun hw=> ?_)|refine U1 (h1:=fun hw=> ?_) (h2:=fun hw=> ?_)|refine ⟨rfl,rfl,_,rfl,?_⟩|refine ⟨rfl,rfl⟩|fail)
   all_goals first|(simp [*,j3,hW];done)|(simp_all [j3,hW];done)|(simp_all [j3,hW,u0,s6,o8,E5];done)|(simp_all [j3,hW,u0,s6,o8,E5]<;>omega)
  .refine gr ?_
   exact ⟨_,rfl,by simp [DO,h1,HJ,hW,j3,num]⟩
  .cases h2
 |true =>
 cases hD:q8 x.depth 1 8 with
 |false =>
  refine tB (true) ?_ (fun h2=> ?_) (fun h2=> ?_)
  .repeat' (first|refine cl (tG _ _ _) ?_|refine gx ?_|refine fk (h1:=fun hw=> ?_) (h2:=fun hw=> ?_)|refine U1 (h1:=fun hw=> ?_) (h2:=fun hw=> ?_)|refine ⟨rfl,rfl,_,rfl,?_⟩|refine ⟨rfl,rfl⟩|fail)
   all_goals first|(simp [*,j3,hW,hD];done)|(simp_all [j3,hW,hD];done)|(simp_all [j3,hW,hD,u0,s6,o8,E5];done)|(simp_all [j3,hW,hD,u0,s6,o8,E5]<;>omega)
  .refine gr ?_
   exact ⟨_,rfl,by simp [DO,h1,HJ,hD,j3,num]⟩
  .cases h2
 |true =>
 have hm: -9223372036854775808<=x.width * x.depth/\x.width * x.depth<9223372036854775808:=by
  simp [q8,s6] at hW hD;have m1:=Int.mul_le_mul hW.2 hD.2 (by omega) (by omega);have m2:=Int.mul_nonneg (a:=x.width) (b:=x.depth) (by omega) (by omega);omega
 refine tB (HJ x) ?_ (fun h2=> ?_) (fun h2=> ?_)
 .repeat' (first|refine cl (tG _ _ _) ?_|refine mu (h0:=hm) ?_|refine gx ?_|refine fk (h1:=fun hw=> ?_) (h2:=fun hw=> ?_)|refine U1 (h1:=fun hw=> ?_) (h2:=fun hw=> ?_)|refine ⟨rfl,rfl,_,rfl,?_⟩|refine ⟨rfl,rfl⟩|fail)
  all_goals first|(simp [*,j3,HJ,hW,hD];done)|(simp_all [j3,HJ,hW,hD];done)|(simp_all [j3,HJ,hW,hD,u0,s6,o8,E5];done)|(simp_all [j3,HJ,hW,hD,u0,s6,o8,E5]<;>omega)
 .refine gr ?_
  exact ⟨_,rfl,by simp only [DO,h1,h2,j4,if_false,if_true];rfl⟩
 .refine gr ?_
  exact ⟨_,rfl,by simp only [DO,h1,h2,j4,if_false];rfl⟩
def KH (c:r9)(x:oT):Int :=
 if E4 (F1 c x.source (r9.ns c)) c.j9.length then 7
 else if !s9 (nth c.views (F1 c x.source (r9.ns c) - c.j9.length).toNat).kind 1|| !s9 (nth (nth c.views (F1 c x.source (r9.ns c) - c.j9.length).toNat).D5 0).func 0|| !q8 x.thr 1 1024 then 1 else 0
set_option maxHeartbeats 8000000 in
def aW5 (c:r9)(hs:J7 c)(hg:∀ k,k<c.views.length->(nth c.views k).kind≠1\/0<(nth c.views k).D5.length)(x:oT):Pf A 206 [cat c,rls x] (.d (num (KH c x))):=by
 have gw:=WD hs;have ay3:r9.ns c=c.j9.length+c.views.length:=rfl;have p1:=Hq c x.source (r9.ns c) hs.sm.oB (by omega);have b1:=K6 c x.source (r9.ns c);refine Pf.run [cat c,rls x,.any,.any,.any,.any,.any] rfl rfl rfl rfl ?_
 repeat' (first|refine cl (p1) ?_|refine gx ?_|fail)
 refine tb (E4 (F1 c x.source (r9.ns c)) c.j9.length) (fun h1=> ?_) (fun h1=> ?_)
 .refine gr ?_
  exact ⟨_,rfl,by simp only [KH,h1,if_true];rfl⟩
 have h2:=A3 h1;have h3:=hg (F1 c x.source (r9.ns c) - c.j9.length).toNat (by omega);refine gr ?_;refine tB (!s9 (nth c.views (F1 c x.source (r9.ns c) - c.j9.length).toNat).kind 1|| !s9 (nth (nth c.views (F1 c x.source (r9.ns c) - c.j9.length).toNat).D5 0).func 0|| !q8 x.thr 1 1024) ?_ (fun h4=> ?_) (fun h4=> ?_)
 .repeat' (first|refine cl (tG _ _ _) ?_|refine gx ?_|refine fk (h1:=fun hw=> ?_) (h2:=fun hw=> ?_)|refine U1 (h1:=fun hw=> ?_) (h2:=fun hw=> ?_)|refine ⟨rfl,rfl,_,rfl,?_⟩|refine ⟨rfl,rfl⟩|fail)
  all_goals exact cc
 .refine gr ?_
  exact ⟨_,rfl,by simp only [KH,h1,h4,j4,if_false,if_true];rfl⟩
 .refine gr ?_
  exact ⟨_,rfl,by simp only [KH,h1,h4,j4,if_false];rfl⟩
def bkE (c:r9):List K4->List K4->Int
 |_,[]=>0
 |seen,t::r=>if E4 (gn c t c.j9.length) 0 then 7 else if seen.any fun y=>O1 y t then 4 else bkE c (seen++[t]) r
def IF (c:r9)(x:tN):Int:=if s9 x.tables.length 0|| !q8 x.keep 1 1048576 then 1 else bkE c [] x.tables
set_option maxHeartbeats 8000000 in
def aW6 (c:r9)(hf:c.oB)(x:tN)(hx:x.tables.length<=1000):Pf A 208 [cat c,bkp x] (.d (num (IF c x))):=by
 have hn:c.j9.length<=1000:=hf.1;refine Pf.run [cat c,bkp x,.any,.any,.any,.any,.any] rfl rfl rfl rfl ?_;refine gr ?_;refine tB (s9 x.tables.length 0|| !q8 x.keep 1 1048576) ?_ (fun h1=> ?_) (fun h1=> ?_)
 .repeat' (first|refine cl (tG _ _ _) ?_|refine gx ?_|refine fk (h1:=fun hw=> ?_) (h2:=fun hw=> ?_)|refine U1 (h1:=fun hw=> ?_) (h2:=fun hw=> ?_)|refine ⟨rfl,rfl,_,rfl,?_⟩|refine ⟨rfl,rfl⟩|fail)
  all_goals exact cc
 .refine gr ?_
  exact ⟨_,rfl,by simp only [IF,h1,if_true];rfl⟩
 refine gr ?_;refine Ex.I7 (fun k T H=>∃ (i:Nat) (w0 w1 w4 w6:c8),T=[w0,w1,.ptr 0 0,.ptr 1 0,w4,.d (num i),w6]/\H=[.cells (c.enc.map .d),.cells (x.enc.map .d)]/\i+k=x.tables.length/\IF c x=bkE c (x.tables.take i) (x.tables.drop i)) (by rintro _ _ _ ⟨_,_,_,_,_,_,rfl,_⟩;rfl) ?_ (k:=x.tables.length) ⟨0,_,_,_,_,rfl,rfl,by simp,by simp [IF,h1]⟩;rintro k _ _ ⟨i,w0,w1,w4,w6,rfl,rfl,hk,hi⟩;refine Ex.nT ?_;refine Ex.seq ?_;refine tb (E4 i x.tables.length) (fun h2=> ?_) (fun h2=> ?_)
 .have h3:=A6 h2
  rw [D3 (by omega)] at hi;have p1:=WW c (nth x.tables i) c.j9.length hf (by omega);refine gr ?_;refine tB (E4 (gn c (nth x.tables i) c.j9.length) 0) ?_ (fun h4=> ?_) (fun h4=> ?_)
  .repeat' (first|refine cl (p1) ?_|refine gx ?_|refine fk (h1:=fun hw=> ?_) (h2:=fun hw=> ?_)|refine U1 (h1:=fun hw=> ?_) (h2:=fun hw=> ?_)|refine ⟨rfl,rfl,_,rfl,?_⟩|refine ⟨rfl,rfl⟩|fail)
   all_goals exact cc
  .refine gr ?_
   exact ⟨_,rfl,by rw [hi];simp only [bkE,h4,if_true];rfl⟩
  refine gr ?_;refine Ex.I7 (fun k T H=>∃ (j:Nat) (w0 w1 w4:c8),T=[w0,w1,.ptr 0 0,.ptr 1 0,w4,.d (num i),.d (num j)]/\H=[.cells (c.enc.map .d),.cells (x.enc.map .d)]/\j+k=i/\((x.tables.take i).any fun y=>O1 y (nth x.tables i))=(((x.tables.take i).drop j).any fun y=>O1 y (nth x.tables i))) (by rintro _ _ _ ⟨_,_,_,_,_,rfl,_⟩;rfl) ?_ (k:=i) ⟨0,_,_,_,rfl,rfl,by simp,by simp⟩;rintro k2 _ _ ⟨j,w0,w1,w4,rfl,rfl,hk2,hj⟩;refine Ex.nT ?_;refine Ex.seq ?_;refine tb (E4 j i) (fun h5=> ?_) (fun h5=> ?_)
  .have h6:=A6 h5
   rw [lQ (by omega) (by omega)] at hj
   repeat' (first|refine gx ?_|refine Ex.M8 ?_|refine Ex.N6 ?_|refine Ex.cond rfl (fun ht=> ?_) (fun ht=> ?_)|refine Ex.test (Rn.text ?_)|refine Ex.test (Rn.draw ?_)|refine ⟨_,rfl,fun ht=> ?_,fun ht=> ?_⟩|refine ⟨_,rfl,?_⟩|fail)
   .have g2:((x.tables.take i).any fun y=>O1 y (nth x.tables i))=true:=by rw [hj];simp [ht]
    rw [hi];simp only [bkE,h4,g2,j3,num,j4,if_true,if_false]
   .exact ⟨k2 - 1,by omega,j+1,_,_,_,rfl,rfl,by omega,by rw [hj];simp [ht]⟩
  have h6:=A3 h5;rw [l6 (by simp;omega)] at hj;have g2:((x.tables.take i).any fun y=>O1 y (nth x.tables i))=false:=by rw [hj];rfl
  refine gr ?_;refine ⟨k - 1,by omega,i+1,_,_,_,_,rfl,rfl,by omega,?_⟩;rw [hi,H9 (by omega)];simp only [bkE,h4,g2,j4,if_false]
 .have h3:=A3 h2
  rw [l6 (by omega)] at hi;refine gr ?_;exact ⟨_,rfl,by rw [hi];rfl⟩
def TA (c:r9)(x:oy):Int:=if s9 (mT c x.source x.col).2 0&& !s9 (mT c x.source x.col).1 2 then 5 else (mT c x.source x.col).2
def SQ (c:r9)(x:qL):Int:=if s9 (mT c x.source x.col).2 0&& !q8 x.ttl 1 1048576 then 1 else (mT c x.source x.col).2
def Ul (c:r9)(x:tP):Int:=if E4 (gn c x.table c.j9.length) 0 then 7 else 0
def W7 (c:r9)(n:Nat):Int :=
 if n<c.idxs.length then TA c (nth c.idxs n)
 else if n - c.idxs.length<c.M3.length then DO c (nth c.M3 (n - c.idxs.length))
 else if n - c.idxs.length - c.M3.length<c.N5.length then SQ c (nth c.N5 (n - c.idxs.length - c.M3.length))
 else if n - c.idxs.length - c.M3.length - c.N5.length<c.R3.length then KH c (nth c.R3 (n - c.idxs.length - c.M3.length - c.N5.length))
 else if n - c.idxs.length - c.M3.length - c.N5.length - c.R3.length<c.S0.length then Ul c (nth c.S0 (n - c.idxs.length - c.M3.length - c.N5.length - c.R3.length))
 else IF c (nth c.V3 (n - c.idxs.length - c.M3.length - c.N5.length - c.R3.length - c.S0.length))
set_option maxHeartbeats 16000000 in
def bD8 (c:r9)(hs:J7 c)(ho:uT c (r9.ns c))(hg:∀ k,k<c.views.length->(nth c.views k).kind≠1\/0<(nth c.views k).D5.length)(n:Nat)(hn:n<c.idxs.length+c.M3.length+c.N5.length+c.R3.length+c.S0.length+c.V3.length) :
  Pf A 146 [cat c,.d (num n)] (.d (num (W7 c n))):=by
 obtain ⟨f0,f1,f2,f3,f4,f5,f6,f7⟩:=hs.sm.oB;refine Pf.run [cat c,.d (num n),.any,.any,.any,.any,.any] rfl rfl rfl rfl ?_;refine gr ?_;refine tb (E4 n c.idxs.length) (fun h1=> ?_) (fun h1=> ?_)
 .have h1' :=A6 h1
  have p1:=WV c hs ho (nth c.idxs n).source (nth c.idxs n).col;have e1:W7 c n=TA c (nth c.idxs n):=by unfold W7;rw [if_pos (by omega)]
  repeat' (first|refine cl (p1) ?_|refine gx ?_|fail)
  refine tb (s9 (mT c (nth c.idxs n).source (nth c.idxs n).col).2 0&& !s9 (mT c (nth c.idxs n).source (nth c.idxs n).col).1 2) (fun h2=> ?_) (fun h2=> ?_)
  .refine gr ?_
   exact ⟨_,rfl,by rw [e1];unfold TA;rw [h2];rfl⟩
  .refine gr ?_
   exact ⟨_,rfl,by rw [e1];unfold TA;rw [h2];rfl⟩
 have h1' :=A3 h1;refine gr ?_;generalize Pv:n - c.idxs.length=m1;have g1:(n:Int) - (c.idxs.length:Int)=(m1:Int):=by omega
 rw [g1];refine tb (E4 m1 c.M3.length) (fun h3=> ?_) (fun h3=> ?_)
 .have h3' :=A6 h3
  have p1:=aW4 c hs ho (nth c.M3 m1);have e1:W7 c n=DO c (nth c.M3 m1):=by unfold W7;rw [if_neg (by omega),Pv,if_pos (by omega)]
  repeat' (first|refine cl (p1) ?_|refine gx ?_|fail)
  exact ⟨_,rfl,by rw [e1];rfl⟩
 have h3' :=A3 h3;refine gr ?_;generalize hm2:m1 - c.M3.length=m2;have g2:(m1:Int) - (c.M3.length:Int)=(m2:Int):=by omega
 rw [g2];refine tb (E4 m2 c.N5.length) (fun h4=> ?_) (fun h4=> ?_)
 .have h4' :=A6 h4
  have p1:=WV c hs ho (nth c.N5 m2).source (nth c.N5 m2).col;have e1:W7 c n=SQ c (nth c.N5 m2):=by unfold W7;rw [if_neg (by omega),Pv,if_neg (by omega),hm2,if_pos (by omega)]
  repeat' (first|refine cl (p1) ?_|refine gx ?_|fail)
  refine tB (s9 (mT c (nth c.N5 m2).source (nth c.N5 m2).col).2 0&& !q8 (nth c.N5 m2).ttl 1 1048576) ?_ (fun h2=> ?_) (fun h2=> ?_)
  .repeat' (first|refine cl (tG _ _ _) ?_|refine gx ?_|refine fk (h1:=fun hw=> ?_) (h2:=fun hw=> ?_)|refine U1 (h1:=fun hw=> ?_) (h2:=fun hw=> ?_)|refine ⟨rfl,rfl,_,rfl,?_⟩|refine ⟨rfl,rfl⟩|fail)
   all_goals exact cc
  .refine gr ?_
   exact ⟨_,rfl,by rw [e1];unfold SQ;rw [h2];rfl⟩
  .refine gr ?_
   exact ⟨_,rfl,by rw [e1];unfold SQ;rw [h2];rfl⟩
 have h4' :=A3 h4;refine gr ?_;generalize hm3:m2 - c.N5.length=m3;have g3:(m2:Int) - (c.N5.length:Int)=(m3:Int):=by omega
 rw [g3];refine tb (E4 m3 c.R3.length) (fun h5=> ?_) (fun h5=> ?_)
 .have h5' :=A6 h5
  have p1:=aW5 c hs hg (nth c.R3 m3);have e1:W7 c n=KH c (nth c.R3 m3):=by unfold W7;rw [if_neg (by omega),Pv,if_neg (by omega),hm2,if_neg (by omega),hm3,if_pos (by omega)]
  repeat' (first|refine cl (p1) ?_|refine gx ?_|fail)
  exact ⟨_,rfl,by rw [e1];rfl⟩
 have h5' :=A3 h5;refine gr ?_;generalize hm4:m3 - c.R3.length=m4;have g4:(m3:Int) - (c.R3.length:Int)=(m4:Int):=by omega
 rw [g4];refine tb (E4 m4 c.S0.length) (fun h6=> ?_) (fun h6=> ?_)
 .have h6' :=A6 h6
  have p1:=WW c (nth c.S0 m4).table c.j9.length hs.sm.oB (by omega);have e1:W7 c n=Ul c (nth c.S0 m4):=by unfold W7;rw [if_neg (by omega),Pv,if_neg (by omega),hm2,if_neg (by omega),hm3,if_neg (by omega),hm4,if_pos (by omega)]
  refine gr ?_;refine tB (E4 (gn c (nth c.S0 m4).table c.j9.length) 0) ?_ (fun h2=> ?_) (fun h2=> ?_)
  .repeat' (first|refine cl (p1) ?_|refine gx ?_|refine fk (h1:=fun hw=> ?_) (h2:=fun hw=> ?_)|refine U1 (h1:=fun hw=> ?_) (h2:=fun hw=> ?_)|refine ⟨rfl,rfl,_,rfl,?_⟩|refine ⟨rfl,rfl⟩|fail)
   all_goals exact cc
  .refine gr ?_
   exact ⟨_,rfl,by rw [e1];unfold Ul;rw [h2];rfl⟩
  .refine gr ?_
   exact ⟨_,rfl,by rw [e1];unfold Ul;rw [h2];rfl⟩
 have h6' :=A3 h6;have hb:=hs.bk (m4 - c.S0.length) (by omega);have p1:=aW6 c hs.sm.oB (nth c.V3 (m4 - c.S0.length)) hb;have e1:W7 c n=IF c (nth c.V3 (m4 - c.S0.length)):=by unfold W7;rw [if_neg (by omega),Pv,if_neg (by omega),hm2,if_neg (by omega),hm3,if_neg (by omega),hm4,if_neg (by omega)]
 repeat' (first|refine cl (p1) ?_|refine ixI (e:=(m4:Int) - (c.S0.length:Int)) (m4 - c.S0.length) (h2:= ?_)|refine gx ?_|fail)
 exact ⟨_,rfl,by rw [e1];rfl⟩
def Ex.bd9 {A:Go.A2.Prog}{l:H7}{b:Nat}{c:q6}{st:St}{Q:G7->St->Prop}(P:St->Prop)(h1:Ex A l b c st (Bf (fun _ _=>False) P))(h2:∀ s,P s->Q .normal s):Ex A l b c st Q:=by
 refine h1.mono fun x s h=> ?_
 cases x with
 |normal=>exact h2 s h
 |exit i=>exact h.elim
 |ret=>exact h.elim
def EC (a b c d e f:Int):Bool:=E4 16 a||E4 16 b||E4 16 c||E4 16 d||E4 16 e||E4 16 f
def tooMany (c:r9):Bool:=E4 8 c.j9.length||E4 12 c.views.length||EC c.idxs.length c.M3.length c.N5.length c.R3.length c.S0.length c.V3.length
def max2 (x y:Int):Int:=if y>x then y else x
def ae8 (x y:Int):E4 16 (max2 x y)=(E4 16 x||E4 16 y):=by
 grind [max2,u0,decide]
def Ws (a b c d e f:Int):E4 16 (max2 (max2 (max2 (max2 (max2 a b) c) d) e) f)=EC a b c d e f:=by
 simp [ae8,EC]
def Q6 (c:r9)(i:Nat):Int :=
 if !L3 (nth c.names i) then 3 else if (c.names.take i).any fun y=>O1 y (nth c.names i) then 4
 else if i<c.j9.length then gN c i else if i<r9.ns c then W8 c i else W7 c (i - r9.ns c)
def gY (c:r9):Nat->Nat->Int×Int
 |0,_=>(0,0)
 |k+1,i=>if !s9 (Q6 c i) 0 then (i,Q6 c i) else gY c k (i+1)
def V7 (c:r9):Int×Int:=if tooMany c then (0,8) else gY c c.names.length 0
theorem AU {c:r9}{m:Nat}(h:Q6 c m=0):(!L3 (nth c.names m))=false/\((c.names.take m).any fun y=>O1 y (nth c.names m))=false:=by
 grind [Q6,L3,nth,O1]
def mA {c:r9}{m:Nat}(h:Q6 c m=0)(hm:m<c.j9.length):gN c m=0:=by
 grind [Q6]
def eo {c:r9}{m:Nat}(h:Q6 c m=0)(hm:c.j9.length<=m)(hm2:m<r9.ns c):W8 c m=0:=by
 grind [Q6]
def kM {c:r9}{m:Nat}(h:gN c m=0):0<(nth c.j9 m).q7.length/\(nth c.j9 m).q7.length<=8:=by
 grind [gN,q8,s6]
def iK {c:r9}{m:Nat}(h:W8 c m=0):q8 (X2 c m).kind 0 2=true/\0<=F1 c (X2 c m).left m/\(O1 (X2 c m).right []=false->0<=F1 c (X2 c m).right m)/\bC (X2 c m)=true:=by
 unfold W8 at h;split at h
 .omega
 .split at h
  .omega
  .split at h
   all_goals simp_all [Bool.not_eq_true,G8,A3]
def EV {v:Vw}(h:bC v=true):v.kind≠1\/0<v.D5.length:=by
 cases h1:s9 v.kind 1 with
 |false=>simp_all [AQ]
 |true =>
  grind [bC,s9]
def lG (c:r9)(i:Nat):Prop:=∀ m,m<i->Q6 c m=0
def jU {c:r9}{i:Nat}(h:lG c i)(hi:i<=r9.ns c):uT c i:=fun k h1 h2=>by
 have:=iK (eo (h k h2) h1 (by omega));exact ⟨this.2.1,this.2.2.1⟩
def ew (c:r9):c.names.length=r9.ns c+(c.idxs.length+c.M3.length+c.N5.length+c.R3.length+c.S0.length+c.V3.length):=by simp [r9.names,r9.ns];omega
set_option maxHeartbeats 16000000 in
def bD3 (c:r9)(hs:J7 c):Pf A 95 [cat c] (pair (V7 c)):=by
 have hnl:=ew c;have gw:r9.ns c=c.j9.length+c.views.length:=rfl;obtain ⟨f0,f1,f2,f3,f4,f5,f6,f7⟩:=id hs.sm.oB;have hmm:=Ws c.idxs.length c.M3.length c.N5.length c.R3.length c.S0.length c.V3.length;refine Pf.run [cat c,.any,.any,.any,.any,.any,.any,.any] rfl rfl rfl rfl ?_;refine gr ?_;refine tB (tooMany c) ?_ (fun h1=> ?_) (fun h1=> ?_)
 .repeat' (first|refine mm (d:= .int .i64 (max2 (max2 (max2 (max2 (max2 c.idxs.length c.M3.length) c.N5.length) c.R3.length) c.S0.length) c.V3.length)) ?_|refine gx ?_|refine fk (h1:=fun hw=> ?_) (h2:=fun hw=> ?_)|refine U1 (h1:=fun hw=> ?_) (h2:=fun hw=> ?_)|refine ⟨rfl,rfl,_,rfl,?_⟩|refine ⟨rfl,rfl⟩|fail)
  all_goals first|(simp [*,j3,tooMany,hmm];done)|(simp_all [j3,tooMany,hmm];done)|(simp_all [j3,tooMany,hmm,u0,s6,o8,E5];done)|(simp_all [j3,tooMany,hmm,u0,s6,o8,E5]<;>omega)
 .refine gr ?_
  exact ⟨_,rfl,by unfold V7;rw [h1];rfl⟩
 repeat' (first|refine cl (aZ7 c hs.sm.oB) ?_|refine gx ?_|fail)
 refine Ex.I7 (fun k T H=>∃ (i:Nat) (w0 w2 w3 w6 w7:c8),T=[w0,.ptr 0 0,w2,w3,.d (B0 encS c.names),.d (num i),w6,w7]/\H=[.cells (c.enc.map .d)]/\i+k=c.names.length/\lG c i/\V7 c=gY c k i) (by rintro _ _ _ ⟨_,_,_,_,_,_,_,rfl,_⟩;rfl) ?_ (k:=c.names.length) ⟨0,_,_,_,_,_,rfl,rfl,by simp,fun m h=>absurd h (by omega),by unfold V7;rw [h1];rfl⟩;rintro k _ _ ⟨i,w0,w2,w3,w6,w7,rfl,rfl,hk,hok,hi⟩;refine Ex.nT ?_;refine Ex.seq ?_;refine tb (E4 i c.names.length) (fun h2=> ?_) (fun h2=> ?_)
 .have h3:=A6 h2
  obtain ⟨k,rfl⟩:∃ k',k=k' +1:=⟨k - 1,by omega⟩;rw [gY] at hi;refine gr ?_;refine tB (!L3 (nth c.names i)) ?_ (fun h4=> ?_) (fun h4=> ?_)
  .repeat' (first|refine cl (aD9 _) ?_|refine gx ?_|refine fk (h1:=fun hw=> ?_) (h2:=fun hw=> ?_)|refine U1 (h1:=fun hw=> ?_) (h2:=fun hw=> ?_)|refine ⟨rfl,rfl,_,rfl,?_⟩|refine ⟨rfl,rfl⟩|fail)
   all_goals exact cc
  .refine gr ?_
   have e1:Q6 c i=3:=by unfold Q6;rw [h4];rfl
   exact ⟨_,rfl,by rw [hi,e1];simp [o8,pair,j3,c8.J3,num]⟩
  refine gr ?_;refine Ex.I7 (fun k T H=>∃ (j:Nat) (w0 w2 w3 w7:c8),T=[w0,.ptr 0 0,w2,w3,.d (B0 encS c.names),.d (num i),.d (num j),w7]/\H=[.cells (c.enc.map .d)]/\j+k=i/\((c.names.take i).any fun y=>O1 y (nth c.names i))=(((c.names.take i).drop j).any fun y=>O1 y (nth c.names i))) (by rintro _ _ _ ⟨_,_,_,_,_,_,rfl,_⟩;rfl) ?_ (k:=i) ⟨0,_,_,_,_,rfl,rfl,by simp,by simp⟩;rintro k2 _ _ ⟨j,w0,w2,w3,w7,rfl,rfl,hk2,hj⟩;refine Ex.nT ?_;refine Ex.seq ?_;refine tb (E4 j i) (fun h5=> ?_) (fun h5=> ?_)
  .have h6:=A6 h5
   rw [lQ (by omega) (by omega)] at hj
   repeat' (first|refine gx ?_|refine Ex.M8 ?_|refine Ex.N6 ?_|refine Ex.cond rfl (fun ht=> ?_) (fun ht=> ?_)|refine Ex.test (Rn.text ?_)|refine Ex.test (Rn.draw ?_)|refine ⟨_,rfl,fun ht=> ?_,fun ht=> ?_⟩|refine ⟨_,rfl,?_⟩|fail)
   .have g2:((c.names.take i).any fun y=>O1 y (nth c.names i))=true:=by rw [hj];simp [ht]
    have e1:Q6 c i=4:=by unfold Q6;rw [h4,g2];rfl
    rw [hi,e1];simp [o8,pair,j3,c8.J3,num]
   .exact ⟨k2 - 1,by omega,j+1,_,_,_,_,rfl,rfl,by omega,by rw [hj];simp [ht]⟩
  have h6:=A3 h5;rw [l6 (by simp;omega)] at hj;have g2:((c.names.take i).any fun y=>O1 y (nth c.names i))=false:=by rw [hj];rfl
  clear hj hk2 h5 h6;refine gr ?_;refine Ex.bd9 (fun s=>∃ (w0 w2 w3 w6:c8),s=⟨[w0,.ptr 0 0,w2,w3,.d (B0 encS c.names),.d (num i),w6,.d (num (Q6 c i))],[.cells (c.enc.map .d)]⟩) ?_ ?_
  .skip
   refine tb (E4 i c.j9.length) (fun h5=> ?_) (fun h5=> ?_)
   .have h6:=A6 h5
    have p1:=bD6 c i hs.sm (by omega) (fun m hm=>(kM (mA (hok m hm) (by omega))).1);have e1:Q6 c i=gN c i:=by unfold Q6;rw [h4,g2,if_neg (by simp),if_neg (by simp),if_pos (by omega)]
    rw [e1]
    repeat' (first|refine cl (p1) ?_|refine gx ?_|fail)
    exact ⟨_,_,_,_,rfl⟩
   have h6:=A3 h5;refine tB (E4 i (r9.ns c)) ?_ (fun h7=> ?_) (fun h7=> ?_)
   .repeat' (first|refine cl (gw) ?_|refine gx ?_|refine fk (h1:=fun hw=> ?_) (h2:=fun hw=> ?_)|refine U1 (h1:=fun hw=> ?_) (h2:=fun hw=> ?_)|refine ⟨rfl,rfl,_,rfl,?_⟩|refine ⟨rfl,rfl⟩|fail)
    all_goals exact cc
   .have h8:=A6 h7
    have p1:=bD7 c hs i (by omega) (by omega) (jU hok (by omega));have e1:Q6 c i=W8 c i:=by unfold Q6;rw [h4,g2,if_neg (by simp),if_neg (by simp),if_neg (by omega),if_pos (by omega)]
    rw [e1]
    repeat' (first|refine cl (p1) ?_|refine gx ?_|fail)
    exact ⟨_,_,_,_,rfl⟩
   .have h8:=A3 h7
    have p1:=bD8 c hs (jU (fun m hm=>hok m (by omega)) (n5 _)) (fun m hm=>by
     have h9:=iK (eo (hok (m+c.j9.length) (by omega)) (by omega) (by omega));have h10:X2 c (m+c.j9.length)=nth c.views m:=by unfold X2;rw [Nat.add_sub_cancel]
     rw [h10] at h9;exact EV h9.2.2.2) (i - r9.ns c) (by omega)
    have e1:Q6 c i=W7 c (i - r9.ns c):=by unfold Q6;rw [h4,g2,if_neg (by simp),if_neg (by simp),if_neg (by omega),if_neg (by omega)]
    rw [e1];refine gr ?_;refine cl p1 ?_ (ha:=by rw [show ((i - r9.ns c:Nat):Int)=(i:Int) - (c.j9.length:Int) - (c.views.length:Int) by omega];rfl);refine gr ?_;exact ⟨_,_,_,_,rfl⟩
  rintro _ ⟨w0,w2,w3,w6,rfl⟩;refine gr ?_;refine tb (!s9 (Q6 c i) 0) (fun h5=> ?_) (fun h5=> ?_)
  .refine gr ?_
   exact ⟨_,rfl,by rw [hi,h5];rfl⟩
  .refine gr ?_
   refine ⟨k,by omega,i+1,_,_,_,_,_,rfl,rfl,by omega,fun m hm=> ?_,by rw [hi,h5];rfl⟩
   rcases A5 m i with h6|h6
   .exact hok m h6
   .obtain rfl:m=i:=by omega
    exact fH (by simpa using h5)
 .have h3:=A3 h2
  obtain rfl:k=0:=by omega
  refine gr ?_;exact ⟨_,rfl,by rw [hi];rfl⟩
end Go.Proofs.YtibjocmpkoepoaaGreat


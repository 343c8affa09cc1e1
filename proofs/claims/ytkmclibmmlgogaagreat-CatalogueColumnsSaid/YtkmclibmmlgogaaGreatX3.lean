/- Texts D54 D56 D57 D58 (made short by a program) -/
import Derived.Test.YtkmclibmmlgogaaGreatX2
set_option linter.unusedVariables false
set_option linter.unusedSimpArgs false
open Bool renaming and_eq_true → b5, false_eq_true → b7, not_eq_false' → B4, not_eq_true' → j9
open List renaming map_cons → G7, replicate → c9
open Nat renaming le_of_ble_eq_true → m6, le_refl → l5, lt_or_ge → p7
namespace Go.Proofs.YtkmclibmmlgogaaGreat
open Go.u7 Go.u7.S
attribute [local irreducible] Rx Ry Rn Ex Pf
theorem yW (c:m9)(n:Int):sV c n=(!(C2 n 0||X4 c.j3.length n|| !M7 c)):=by
 unfold sV dA m9.ns;rw [Bool.eq_iff_iff];simp only [b5,j9,Bool.or_eq_false_iff,o5,o9,decide_eq_true_eq,decide_eq_false_iff_not,B4];constructor
 ·rintro ⟨⟨h1,h2,h3⟩,h4⟩;exact ⟨⟨by omega,by omega⟩,h1⟩
 ·rintro ⟨⟨h2,h3⟩,h1⟩;exact ⟨⟨h1,by omega,by omega⟩,by omega⟩
theorem HY {c:m9}{n:Int}(h:sV c n=true):dA c n=true/\0<=n/\n<c.j3.length:=by
 unfold sV at h;rw [b5] at h;have h1:=(mS h.1).2.2;exact ⟨h.1,h1.1,z6 h.2⟩
def oA (m8:List W6):Nat->List Int
 |0=>[]
 |k+1=>oA m8 k++(if C2 0 (nth m8 k).A7.length then [(k:Int)] else [])
theorem Uo {m8:List W6}{k:Nat}(h:C2 0 (nth m8 k).A7.length=false):oA m8 (k+1)=oA m8 k:=by
 simp only [oA];rw [h];simp
theorem Up {m8:List W6}{k:Nat}(h:C2 0 (nth m8 k).A7.length=true):oA m8 (k+1)=oA m8 k++[(k:Int)]:=by
 simp only [oA];rw [h];simp
theorem wk (m8:List W6):∀ k,(oA m8 k).length<=k
 |0=>l5 _
 |k+1=>by
  have:=wk m8 k;simp only [oA];split<;>simp<;>omega
def Nb (c:m9)(n:Int):List Int:=oA (nth c.j3 n.toNat).m8 (nth c.j3 n.toNat).m8.length
set_option maxHeartbeats 8000000 in
theorem YC (c:m9)(hs:E8 c)(n:Nat)(h:sV c n=true):Pf A 16 [cat c,.d (num n)] (.d (ints (Nb c n))):=by
 have p10:=Yl c hs;have e:(C2 n 0||X4 c.j3.length n|| !M7 c)=false:=by
  have e:=congrArg (!·) (yW c n);rw [h] at e;simp only [Bool.not_not,Bool.not_true] at e;exact e.symm
 have h3:=HY h;have hcl:=hs.sm.m8 n (by omega);obtain ⟨t,ht⟩:∃ t,nth c.j3 n=t:=⟨_,rfl⟩;have e9:Nb c n=oA t.m8 t.m8.length:=by unfold Nb;rw [Int.toNat_natCast,ht]
 rw [ht] at hcl;rw [e9];refine Pf.run [cat c,.d (num n),.any,.any,.any,.any,.any,.any,.any,.any] rfl rfl rfl rfl ?_;refine gr ?_;refine tB (C2 n 0||X4 c.j3.length n|| !M7 c) ?_ (fun h1=> ?_) (fun h1=> ?_)
 ·repeat' (first|refine cl (p10) ?_|refine gx ?_|refine fk (h1:=fun hw=> ?_) (h2:=fun hw=> ?_)|refine M8 (h1:=fun hw=> ?_) (h2:=fun hw=> ?_)|refine ⟨rfl,rfl,_,rfl,?_⟩|refine ⟨rfl,rfl⟩|fail)
  all_goals exact cc
 ·rw [e] at h1;cases h1
 refine gr ?_;rw [ht];refine gr ?_;refine Ex.ff (fun q T H=>∃ (k:Nat),T=[.any,.any,.any,.any,A5 1 (fun n=>[num n]) (oA t.m8 k),.any,.any,.d (y7 W6.enc t.m8),.d (num t.m8.length),.d (num k)]/\H=[.cells (c.enc.map .d)]/\k+q=t.m8.length) ?_ (k:=t.m8.length) ⟨0,rfl,rfl,by simp⟩;rintro q _ _ ⟨k,rfl,rfl,hq⟩;have Gr:=wk t.m8 k;refine Ex.seq ?_;refine tb (C2 k t.m8.length) (fun g1=> ?_) (fun g1=> ?_)
 ·have g2:=z6 g1
  refine gr ?_;refine tb (C2 0 (nth t.m8 k).A7.length) (fun g3=> ?_) (fun g3=> ?_)
  ·refine gr ?_
   exact ⟨q - 1,by omega,_,_,rfl,k+1,by rw [Up g3];rfl,rfl,by omega⟩
  ·refine gr ?_
   exact ⟨q - 1,by omega,_,_,rfl,k+1,by rw [Uo g3];rfl,rfl,by omega⟩
 ·have g2:=z8 g1
  obtain rfl:k=t.m8.length:=by omega
  refine gr ?_;exact ⟨_,rfl,rfl⟩
theorem AF:∀ xs:List Int,y9 (xs.map iv)=0
 |[]=>rfl
 |x::xs=>by simp [y9,iv,b6.M3,AF xs]
theorem Ic (id:Nat):∀ xs:List Int,H7 id (xs.map iv)=xs.map iv
 |[]=>rfl
 |x::xs=>by simp only [G7,H7,Ic id xs];rfl
theorem Uh (xs:List Int):(xs.map iv).all b6.one=true:=by
 simp only [List.all_map,List.all_eq_true];intro x _;rfl
theorem Gg:∀ xs:List Int,(xs.flatMap fun n=>[num n])=xs.map num
 |[]=>rfl
 |x::xs=>by simp [Gg xs]
theorem Rc (H:o6)(xs:List Int):I8 H 1 (.d (ints xs))=some (xs.length,xs.map iv):=by
 have h1:=Gg xs;simp only [I8,ints,y7,h1];rw [if_pos (by simp)];simp [Function.comp_def];intro a _;rfl
theorem Mn (H:o6)(n:Nat):∀ (xs:List Int) (f:Nat),xs.length<f->bI H n f (xs.map iv)=some (xs.map iv)
 |[],f+1,_=>rfl
 |x::xs,f+1,h=>by
  have ih:=Mn H n xs f (by simp at h;omega);simp only [G7,bI,ih,iv]
theorem LY:∀ xs:List Int,L7 (xs.map iv)=some (xs.map num)
 |[]=>rfl
 |x::xs=>by simp only [G7,L7,iv,b6.data?];rw [LY xs]
theorem Xa {T:List b6}{H:o6}{ds zs:List Int}(hT:T[3]? =some (.D0 1 1 0 ds.length))(hH:H[1]? =some (.cells ((ds++zs).map iv)))(hl:ds.length<=500):jI ZT 0 (some (.ret,⟨T,H⟩))=some (.d (ints ds),[]):=by
 have h1:rd H 1 0 (ds.length * 1)=some (ds.map iv):=by
  simp only [rd,hH];rw [if_pos (by simp)];simp
 have h2:=Mn H 0 ds 999 (by omega);have h3:=Gg ds;have h4:bF T H ZT.results=some [.D0 1 1 0 ds.length]:=by
  show bF T H [.slot 3]=_
  simp only [bF,jU,hT]
 unfold jI;simp only [h4];show finish false 0 [.D0 1 1 0 ds.length] H=_
 simp only [finish,b7,if_false,b9,bI,Nat.not_lt_zero,h1,h2,LY];simp [b6.M3,ints,y7,h3]
def HF (c:m9)(xs:List Int):o6:=[.cells (c.enc.map .d),.cells (xs.map iv)]
def lF:F9:=⟨0,0,2,2⟩
theorem FH (c:m9)(xs:List Int):W8 (HF c xs)=0:=by
 have e1:y9 (c.enc.map b6.d)=0:=rfl;simp only [HF,W8,u5.M3,e1,AF];rfl
theorem PI (c:m9)(xs:List Int):O1 (HF c xs) 0=true:=by
 have e1:y9 (c.enc.map b6.d)=0:=rfl;simp only [HF,O1,u5.M3,e1,AF];rfl
section
variable {b:Nat} {j4 ops:List n8} {T:List b6} {n:Nat} {rl:List b6} {n5:List u7.Touch} {Q:List b6->o6->List b6->Prop}
theorem c0F {c:m9}{xs ys:List Int}{f:FuncId}{os:List r8}{u:List Nat}{v:b6}{args:List b6}(hc:Pm A f args (HF c xs) lF v (HF c ys))(h2:Ry A bK b false j4 ops T (HF c ys) (n+1) (v::rl) (.below 2::n5) Q)
  (ha:os.map (rq T n rl)=args:=by rfl) (hb:y9 args=2:=by rfl) (dc:A.prom f=false:=by rfl) (hm:A.mode f=0:=by rfl):Ry A bK b false j4 (⟨.call f os,none,none,u⟩::ops) T (HF c xs) n rl n5 Q:=by
 refine c0 hc rfl (m:=2) ?_ ?_ rfl rfl ?_ (fun h=>by cases h) ha dc hm rfl (HD:=[]) (H2:=HF c ys) rfl h2
 ·show W8 (HF c xs)<=2
  rw [FH];omega
 ·rw [hb]
  exact fF (by show W8 (HF c xs)<=2;rw [FH];omega)
 ·show F9.mk 0 0 2 (B5 _ 0 2)=lF
  have:B5 (HF c xs) 0 2=2:=by
   unfold B5;rw [if_neg (by decide),if_pos (by show O1 (HF c xs) 0=true;exact PI c xs)]
  rw [this];rfl
end
theorem au5 (c:m9)(xs:List Int)(h:xs.length<=1000000):Pm A 42 [.D0 1 1 0 xs.length] (HF c xs) lF (.tuple []) (HF c (T5 xs)):=Pm.ga rfl (wg rfl rfl rfl (Nat.ble_eq_true_of_le h))
theorem au4 (c:m9)(xs:List Int)(h:xs.length<=1000000):Pm A 43 [.D0 1 1 0 xs.length] (HF c xs) lF (.D0 1 1 0 (S6 xs).length) (HF c (S6 xs++c9 (xs.length - (S6 xs).length) 0)):=Pm.ga rfl (lJ rfl rfl rfl (Nat.ble_eq_true_of_le h))
def nj (m8:List W6)(k:Nat):List Int:=(m8.take k).flatMap W6.A7
theorem rQ {m8:List W6}{k:Nat}(h:k<m8.length):nj m8 (k+1)=nj m8 k++(nth m8 k).A7:=by
 unfold nj;rw [I6 h];simp
theorem qa {m8:List W6}(h:∀ i,i<m8.length->(nth m8 i).A7.length<=8):∀ k,k<=m8.length->(nj m8 k).length<=8 * k
 |0,_=>by simp [nj]
 |k+1,hk=>by
  have:=qa h k (by omega);have:=h k (by omega);rw [rQ (by omega)];simp;omega
def vk (t:er):List Int:=0::nj t.m8 t.m8.length
def fixC (c:m9)(n:Int):List Int:=S6 (T5 (vk (nth c.j3 n.toNat)))
theorem vW (t:er):∀ (xs:List Int) (p:Int), -1<=p->Q8 t p xs=true->(xs.length:Int)<=max 0 (t.m8.length - 1 - p)
 |[],p,_,_=>by simp;omega
 |o::r,p,hp,h=>by
  simp only [Q8,b5] at h;obtain ⟨⟨⟨h1,h2⟩,_⟩,h4⟩:=h;have h1:=z6 h1;have h2:=z6 h2;have ih:=vW t r o (by omega) h4;simp;omega
theorem oY (c:m9)(n:Nat):∀ k i,bD c n k i=0->∀ m,i<=m->m<i+k->X6 c n m=0
 |0,i,_,m,h1,h2=>absurd h1 (by omega)
 |k+1,i,h,m,h1,h2=>by
  rw [bD] at h;cases e:o8 (X6 c n i) 0 with
  |false =>
   simp only [e,Bool.not_false,if_true] at h;exact absurd h (sM e)
  |true =>
   simp only [e,Bool.not_true,b7,if_false] at h
   rcases p7 i m with g|g
   ·exact oY c n k (i+1) h m (by omega) (by omega)
   ·obtain rfl:m=i:=by omega
    exact X2 e
theorem xb {c:m9}{n:Nat}(hv:M7 c=true)(hn:n<c.j3.length):(nth c.j3 n).m8.length<=8/\∀ i,i<(nth c.j3 n).m8.length->(nth (nth c.j3 n).m8 i).A7.length<=8:=by
 have hok:=(mh hv).1;have hnl:=Z9 c;have ht:=dU (hok n (by unfold m9.ns at hnl;omega)) hn;have h8:=(cy ht).2;refine ⟨h8,fun i hi=> ?_⟩;have hc:X6 c n i=0:=by
  unfold cU at ht;split at ht
  ·omega
  ·exact oY c n _ 0 ht i (by omega) (by omega)
 have ho:Q8 (nth c.j3 n) (-1) (nth (nth c.j3 n).m8 i).A7=true:=by
  unfold X6 at hc;cases h:Q8 (nth c.j3 n) (-1) (nth (nth c.j3 n).m8 i).A7 with
  |true=>rfl
  |false =>
   rw [h] at hc;simp only [Bool.not_false,Bool.or_true,Bool.true_or] at hc
   repeat' split at hc
   all_goals first|omega|exact absurd trivial (by assumption)
 have:=vW _ _ _ (Int.le_refl _) ho;omega
set_option maxHeartbeats 8000000 in
theorem YG (c:m9)(hs:E8 c)(n:Nat)(h:sV c n=true):Pf A 17 [cat c,.d (num n)] (.d (ints (fixC c n))):=by
 have p10:=Yl c hs;have e:(C2 n 0||X4 c.j3.length n|| !M7 c)=false:=by
  have e:=congrArg (!·) (yW c n);rw [h] at e;simp only [Bool.not_not,Bool.not_true] at e;exact e.symm
 have h3:=HY h;have hcl:=xb (Be h3.1) (n:=n) (by omega);obtain ⟨t,ht⟩:∃ t,nth c.j3 n=t:=⟨_,rfl⟩;have e9:fixC c n=S6 (T5 (vk t)):=by unfold fixC;rw [Int.toNat_natCast,ht]
 rw [ht] at hcl;rw [e9];refine Pf.run [cat c,.d (num n),.any,.any,.any,.any,.any,.any,.any] rfl rfl rfl rfl ?_
 repeat' (first|refine mn (h2:= ?_)|refine gx ?_|fail)
 refine tB (C2 n 0||X4 c.j3.length n|| !M7 c) ?_ (fun h1=> ?_) (fun h1=> ?_)
 ·repeat' (first|refine cl (p10) ?_|refine gx ?_|refine fk (h1:=fun hw=> ?_) (h2:=fun hw=> ?_)|refine M8 (h1:=fun hw=> ?_) (h2:=fun hw=> ?_)|refine ⟨rfl,rfl,_,rfl,?_⟩|refine ⟨rfl,rfl⟩|fail)
  all_goals exact cc
 ·rw [e] at h1;cases h1
 repeat' (first|refine Ts [iv 0] rfl ⟨by decide,rfl⟩ (h2:= ?_)|refine gx ?_|fail)
 rw [ht];refine gr ?_;refine Ex.ff (fun q T H=>∃ (k:Nat),T=[.any,.any,.any,.any,.D0 1 1 0 (0::nj t.m8 k).length,.any,.d (y7 W6.enc t.m8),.d (num t.m8.length),.d (num k)]/\H=HF c (0::nj t.m8 k)/\k+q=t.m8.length) ?_ (k:=t.m8.length) ⟨0,rfl,rfl,by simp⟩;rintro q _ _ ⟨k,rfl,rfl,hq⟩;refine Ex.seq ?_;refine tb (C2 k t.m8.length) (fun g1=> ?_) (fun g1=> ?_)
 ·have g2:=z6 g1
  have XK:=qa hcl.2 k (by omega);have hok:=hcl.2 k (by omega);unfold HF;refine gr ?_;refine apo (m:=(nth t.m8 k).A7.length) (len:=(0::nj t.m8 k).length) (k2:=(0::nj t.m8 (k+1)).length) (old:=(0::nj t.m8 k).map iv) (cs:=(nth t.m8 k).A7.map iv) (T2:=[.any,.any,.any,.any,.any,.ptr 2 0,.d (y7 W6.enc t.m8),.d (num t.m8.length),.d (num k)]) (Zb:=[.d (ints (nth t.m8 k).A7),.ptr 2 4,.any]) (H2:=HF c (0::nj t.m8 (k+1))++[.cells ((nth t.m8 k).enc.map .d)]) (by simp only [roomFor,decide_eq_true_eq];simp;omega) (Rc _ _) (by simp) (Uh _) (AF _) (hH:= ?_) (hk2:=by rw [rQ (by omega)];simp;omega) (h2:= ?_)
  ·show [u5.cells (c.enc.map .d),u5.cells (H7 1 ((0::nj t.m8 k).map iv)++(nth t.m8 k).A7.map iv),u5.cells ((nth t.m8 k).enc.map .d)]=_
   rw [Ic,rQ (by omega)];simp [HF]
  refine gr ?_;refine ⟨q - 1,by omega,_,_,uX (m6 rfl) ?_,k+1,rfl,rfl,by omega⟩;show W8 (HF c (0::nj t.m8 (k+1)))<=2
  rw [FH];omega
 ·have g2:=z8 g1
  obtain rfl:k=t.m8.length:=by omega
  have XK:=qa hcl.2 t.m8.length (by omega);have e8:(0::nj t.m8 t.m8.length)=vk t:=rfl;rw [e8];have hfl:(vk t).length<=100:=by rw [<- e8];simp;omega
  have vB:=jj (vk t);have pS:=au5 c (vk t) (by omega);have pC:=au4 c (T5 (vk t)) (by omega);rw [vB] at pC;have hdl:=kP (T5 (vk t))
  repeat' (first|refine c0F pS ?_|refine c0F pC ?_|refine gx ?_|fail)
  exact ⟨_,Xa rfl rfl (by omega),rfl⟩
end Go.Proofs.YtkmclibmmlgogaaGreat


/- Texts D54 D56 D57 D58 (made short by a program) -/
import Derived.Test.YtkmclibmmlgogaaGreatX2
set_option linter.unusedVariables false
set_option linter.unusedSimpArgs false
open Bool renaming and_eq_true → b5, false_eq_true → b7, not_eq_false' → A9, not_eq_true' → j5
open List renaming length_append → E0, length_cons → B7, replicate → c9, take_of_length_le → q5
open Nat renaming le_of_ble_eq_true → o7, le_refl → n5, lt_or_ge → u9
namespace Go.Proofs.YtkmclibmmlgogaaGreat
open Go.y3 Go.y3.S
attribute [local irreducible] Rx Ry Rn Ex Pf
theorem nZ (c:m8)(n:Int):bF c n=(!(C9 n 0||W8 c.j3.length n|| !J3 c)):=by
 unfold bF P9 m8.ns;rw [Bool.eq_iff_iff];simp only [b5,j5,Bool.or_eq_false_iff,p4,p5,decide_eq_true_eq,decide_eq_false_iff_not,A9];constructor
 ·rintro ⟨⟨h1,h2,h3⟩,h4⟩;exact ⟨⟨by omega,by omega⟩,h1⟩
 ·rintro ⟨⟨h2,h3⟩,h1⟩;exact ⟨⟨h1,by omega,by omega⟩,by omega⟩
theorem qU {c:m8}{n:Int}(h:bF c n=true):P9 c n=true/\0<=n/\n<c.j3.length:=by
 unfold bF at h;rw [b5] at h;have h1:=(cq h.1).2.2;exact ⟨h.1,h1.1,y9 h.2⟩
def ru (m7:List Y5):Nat->List Int
 |0=>[]
 |k+1=>ru m7 k++(if C9 0 (nth m7 k).C5.length then [(k:Int)] else [])
theorem PU {m7:List Y5}{k:Nat}(h:C9 0 (nth m7 k).C5.length=false):ru m7 (k+1)=ru m7 k:=by
 simp only [ru];rw [h];simp
theorem PW {m7:List Y5}{k:Nat}(h:C9 0 (nth m7 k).C5.length=true):ru m7 (k+1)=ru m7 k++[(k:Int)]:=by
 simp only [ru];rw [h];simp
theorem rA (m7:List Y5):∀ k,(ru m7 k).length<=k
 |0=>n5 _
 |k+1=>by
  have:=rA m7 k;simp only [ru];split<;>simp<;>omega
def CX (c:m8)(n:Int):List Int:=ru (nth c.j3 n.toNat).m7 (nth c.j3 n.toNat).m7.length
theorem VC (c:m8)(hs:B6 c)(n:Int)(h:bF c n=false):Pf A 16 [cat c,.d (num n)] (.own 1 0 []):=by
 have NW:=PX c hs;have e:(C9 n 0||W8 c.j3.length n|| !J3 c)=true:=by
  have e:=congrArg (!·) (nZ c n);rw [h] at e;simp only [Bool.not_not,Bool.not_false] at e;exact e.symm
 refine Pf.run [cat c,.d (num n),.any,.any,.any,.any,.any,.any,.any,.any] rfl rfl rfl rfl ?_;refine gr ?_;refine tB (C9 n 0||W8 c.j3.length n|| !J3 c) ?_ (fun h1=> ?_) (fun h1=> ?_)
 ·repeat' (first|refine cl (NW) ?_|refine gx ?_|refine fk (h1:=fun hw=> ?_) (h2:=fun hw=> ?_)|refine L7 (h1:=fun hw=> ?_) (h2:=fun hw=> ?_)|refine ⟨rfl,rfl,_,rfl,?_⟩|refine ⟨rfl,rfl⟩|fail)
  all_goals exact cc
 ·refine gr ?_
  exact ⟨_,rfl,rfl⟩
 ·rw [e] at h1;cases h1
set_option maxHeartbeats 8000000 in
theorem ak9 (c:m8)(hs:B6 c)(n:Nat)(h:bF c n=true):Pf A 16 [cat c,.d (num n)] (.d (ints (CX c n))):=by
 have NW:=PX c hs;have e:(C9 n 0||W8 c.j3.length n|| !J3 c)=false:=by
  have e:=congrArg (!·) (nZ c n);rw [h] at e;simp only [Bool.not_not,Bool.not_true] at e;exact e.symm
 have h3:=qU h;have hcl:=hs.sm.m7 n (by omega);obtain ⟨t,ht⟩:∃ t,nth c.j3 n=t:=⟨_,rfl⟩;have e9:CX c n=ru t.m7 t.m7.length:=by unfold CX;rw [Int.toNat_natCast,ht]
 rw [ht] at hcl;rw [e9];refine Pf.run [cat c,.d (num n),.any,.any,.any,.any,.any,.any,.any,.any] rfl rfl rfl rfl ?_;refine gr ?_;refine tB (C9 n 0||W8 c.j3.length n|| !J3 c) ?_ (fun h1=> ?_) (fun h1=> ?_)
 ·repeat' (first|refine cl (NW) ?_|refine gx ?_|refine fk (h1:=fun hw=> ?_) (h2:=fun hw=> ?_)|refine L7 (h1:=fun hw=> ?_) (h2:=fun hw=> ?_)|refine ⟨rfl,rfl,_,rfl,?_⟩|refine ⟨rfl,rfl⟩|fail)
  all_goals exact cc
 ·rw [e] at h1;cases h1
 refine gr ?_;rw [ht];refine gr ?_;refine Ex.fS (fun q T H=>∃ (k:Nat),T=[.any,.any,.any,.any,B3 1 (fun n=>[num n]) (ru t.m7 k),.any,.any,.d (z6 Y5.enc t.m7),.d (num t.m7.length),.d (num k)]/\H=[.cells (c.enc.map .d)]/\k+q=t.m7.length) ?_ (k:=t.m7.length) ⟨0,rfl,rfl,by simp⟩;rintro q _ _ ⟨k,rfl,rfl,hq⟩;have DM:=rA t.m7 k;refine Ex.seq ?_;refine tb (C9 k t.m7.length) (fun g1=> ?_) (fun g1=> ?_)
 ·have g2:=y9 g1
  refine gr ?_;refine tb (C9 0 (nth t.m7 k).C5.length) (fun g3=> ?_) (fun g3=> ?_)
  ·refine gr ?_
   exact ⟨q - 1,by omega,_,_,rfl,k+1,by rw [PW g3];rfl,rfl,by omega⟩
  ·refine gr ?_
   exact ⟨q - 1,by omega,_,_,rfl,k+1,by rw [PU g3];rfl,rfl,by omega⟩
 ·have g2:=y8 g1
  obtain rfl:k=t.m7.length:=by omega
  refine gr ?_;exact ⟨_,rfl,rfl⟩
theorem VL (c:m8)(hs:B6 c)(n:Int)(h:bF c n=false):Pf A 57 [cat c,.d (num n)] (.d (ints [])):=by
 have PS:=TM c hs n;rw [h] at PS;refine Pf.run [cat c,.d (num n),.any,.any,.any,.any] rfl rfl rfl rfl ?_;refine gr ?_;refine Ex.J0 (fun q T H=>∃ (w0 w3:b6),T=[w0,.d (num n),.ptr 0 0,w3,.own 1 0 [],.d (num 0)]/\H=[.cells (c.enc.map .d)]) (by rintro _ _ _ ⟨_,_,_,rfl⟩;rfl) ?_ (k:=0) ⟨_,_,rfl,rfl⟩;rintro q _ _ ⟨w0,w3,rfl,rfl⟩;refine Ex.nT ?_;refine Ex.seq ?_;refine tB (false) ?_ (fun g1=> ?_) (fun g1=> ?_)
 ·repeat' (first|refine cl (PS) ?_|refine gx ?_|refine fk (h1:=fun hw=> ?_) (h2:=fun hw=> ?_)|refine L7 (h1:=fun hw=> ?_) (h2:=fun hw=> ?_)|refine ⟨rfl,rfl,_,rfl,?_⟩|refine ⟨rfl,rfl⟩|fail)
  all_goals exact cc
 ·cases g1
 refine gr ?_;exact ⟨_,rfl,rfl⟩
set_option maxHeartbeats 8000000 in
theorem an0 (c:m8)(hs:B6 c)(n:Nat)(h:bF c n=true):Pf A 57 [cat c,.d (num n)] (.d (ints (CX c n))):=by
 have PS:=TM c hs n;rw [h] at PS;have h3:=qU h;have hcl:=hs.sm.m7 n (by omega);have e9:CX c n=ru (nth c.j3 n).m7 (nth c.j3 n).m7.length:=by unfold CX;rw [Int.toNat_natCast]
 rw [e9];refine Pf.run [cat c,.d (num n),.any,.any,.any,.any] rfl rfl rfl rfl ?_;refine gr ?_;refine Ex.J0 (fun q T H=>∃ (k:Nat) (w0 w3:b6),T=[w0,.d (num n),.ptr 0 0,w3,B3 1 (fun n=>[num n]) (ru (nth c.j3 n).m7 k),.d (num k)]/\H=[.cells (c.enc.map .d)]/\k+q=(nth c.j3 n).m7.length) (by rintro _ _ _ ⟨_,_,_,_,rfl,_⟩;rfl) ?_ (k:=(nth c.j3 n).m7.length) ⟨0,_,_,rfl,rfl,by simp⟩;rintro q _ _ ⟨k,w0,w3,rfl,rfl,hq⟩;have DM:=rA (nth c.j3 n).m7 k;refine Ex.nT ?_;refine Ex.seq ?_;refine tB (C9 k (nth c.j3 n).m7.length) ?_ (fun g1=> ?_) (fun g1=> ?_)
 ·repeat' (first|refine cl (PS) ?_|refine gx ?_|refine fk (h1:=fun hw=> ?_) (h2:=fun hw=> ?_)|refine L7 (h1:=fun hw=> ?_) (h2:=fun hw=> ?_)|refine ⟨rfl,rfl,_,rfl,?_⟩|refine ⟨rfl,rfl⟩|fail)
  all_goals exact cc
 ·have g2:=y9 g1
  refine gr ?_;refine tb (C9 0 (nth (nth c.j3 n).m7 k).C5.length) (fun g3=> ?_) (fun g3=> ?_)
  ·refine gr ?_
   exact ⟨q - 1,by omega,k+1,_,_,by rw [PW g3];rfl,rfl,by omega⟩
  ·refine gr ?_
   exact ⟨q - 1,by omega,k+1,_,_,by rw [PU g3];rfl,rfl,by omega⟩
 ·have g2:=y8 g1
  obtain rfl:k=(nth c.j3 n).m7.length:=by omega
  refine gr ?_;exact ⟨_,rfl,rfl⟩
theorem Cl:∀ xs:List Int,A4 (xs.map iv)=0
 |[]=>rfl
 |x::xs=>by simp [A4,iv,b6.N4,Cl xs]
theorem JS (id:Nat):∀ xs:List Int,G5 id (xs.map iv)=xs.map iv
 |[]=>rfl
 |x::xs=>by simp only [List.map_cons,G5,JS id xs];rfl
theorem XM (xs:List Int):(xs.map iv).all b6.one=true:=by
 simp only [List.all_map,List.all_eq_true];intro x _;rfl
theorem Ia:∀ xs:List Int,(xs.flatMap fun n=>[num n])=xs.map num
 |[]=>rfl
 |x::xs=>by simp [Ia xs]
theorem Uf (H:o6)(xs:List Int):J5 H 1 (.d (ints xs))=some (xs.length,xs.map iv):=by
 have h1:=Ia xs;simp only [J5,ints,z6,h1];rw [if_pos (by simp)];simp [Function.comp_def];intro a _;rfl
theorem OM (H:o6)(n:Nat):∀ (xs:List Int) (f:Nat),xs.length<f->bV H n f (xs.map iv)=some (xs.map iv)
 |[],f+1,_=>rfl
 |x::xs,f+1,h=>by
  have ih:=OM H n xs f (by simp at h;omega);simp only [List.map_cons,bV,ih,iv]
theorem Ov:∀ xs:List Int,N9 (xs.map iv)=some (xs.map num)
 |[]=>rfl
 |x::xs=>by simp only [List.map_cons,N9,iv,b6.data?];rw [Ov xs]
theorem ad9 {T:List b6}{H:o6}{ds zs:List Int}(hT:T[3]? =some (.D4 1 1 0 ds.length))(hH:H[1]? =some (.cells ((ds++zs).map iv)))(hl:ds.length<=500):kF a17 0 (some (.ret,⟨T,H⟩))=some (.d (ints ds),[]):=by
 have h1:rd H 1 0 (ds.length * 1)=some (ds.map iv):=by
  simp only [rd,hH];rw [if_pos (by simp)];simp
 have h2:=OM H 0 ds 999 (by omega);have h3:=Ia ds;have h4:cu T H a17.results=some [.D4 1 1 0 ds.length]:=by
  show cu T H [.slot 3]=_
  simp only [cu,kQ,hT]
 unfold kF;simp only [h4];show finish false 0 [.D4 1 1 0 ds.length] H=_
 simp only [finish,b7,if_false,b8,bV,Nat.not_lt_zero,h1,h2,Ov];simp [b6.N4,ints,z6,h3]
def HF (c:m8)(xs:List Int):o6:=[.cells (c.enc.map .d),.cells (xs.map iv)]
def lF:G9:=⟨0,0,2,2⟩
theorem HA (c:m8)(xs:List Int):Y6 (HF c xs)=0:=by
 have e1:A4 (c.enc.map b6.d)=0:=rfl;simp only [HF,Y6,y7.N4,e1,Cl];rfl
theorem SI (c:m8)(xs:List Int):P8 (HF c xs) 0=true:=by
 have e1:A4 (c.enc.map b6.d)=0:=rfl;simp only [HF,P8,y7.N4,e1,Cl];rfl
section
variable {b:Nat} {j4 ops:List n8} {T:List b6} {n:Nat} {rl:List b6} {n6:List y3.Touch} {Q:List b6->o6->List b6->Prop}
theorem c0F {c:m8}{xs ys:List Int}{f:FuncId}{os:List q7}{u:List Nat}{v:b6}{args:List b6}(hc:Pm A f args (HF c xs) lF v (HF c ys))(h2:Ry A cB b false j4 ops T (HF c ys) (n+1) (v::rl) (.below 2::n6) Q)
  (ha:os.map (rq T n rl)=args:=by rfl) (hb:A4 args=2:=by rfl) (fR:A.prom f=false:=by rfl) (hm:A.mode f=0:=by rfl):Ry A cB b false j4 (⟨.call f os,none,none,u⟩::ops) T (HF c xs) n rl n6 Q:=by
 refine c0 hc rfl (m:=2) ?_ ?_ rfl rfl ?_ (fun h=>by cases h) ha fR hm rfl (HD:=[]) (H2:=HF c ys) rfl h2
 ·show Y6 (HF c xs)<=2
  rw [HA];omega
 ·rw [hb]
  exact gu (by show Y6 (HF c xs)<=2;rw [HA];omega)
 ·show G9.mk 0 0 2 (C8 _ 0 2)=lF
  have:C8 (HF c xs) 0 2=2:=by
   unfold C8;rw [if_neg (by decide),if_pos (by show P8 (HF c xs) 0=true;exact SI c xs)]
  rw [this];rfl
end
theorem aP2 (c:m8)(xs:List Int)(h:xs.length<=1000000):Pm A 42 [.D4 1 1 0 xs.length] (HF c xs) lF (.tuple []) (HF c (Q6 xs)):=Pm.gS rfl (xZ rfl rfl rfl (Nat.ble_eq_true_of_le h))
theorem aP1 (c:m8)(xs:List Int)(h:xs.length<=1000000):Pm A 43 [.D4 1 1 0 xs.length] (HF c xs) lF (.D4 1 1 0 (Q4 xs).length) (HF c (Q4 xs++c9 (xs.length - (Q4 xs).length) 0)):=Pm.gS rfl (mS rfl rfl rfl (Nat.ble_eq_true_of_le h))
def iw (m7:List Y5)(k:Nat):List Int:=(m7.take k).flatMap Y5.C5
theorem oh {m7:List Y5}{k:Nat}(h:k<m7.length):iw m7 (k+1)=iw m7 k++(nth m7 k).C5:=by
 unfold iw;rw [F7 h];simp
theorem mR {m7:List Y5}(h:∀ i,i<m7.length->(nth m7 i).C5.length<=8):∀ k,k<=m7.length->(iw m7 k).length<=8 * k
 |0,_=>by simp [iw]
 |k+1,hk=>by
  have:=mR h k (by omega);have:=h k (by omega);rw [oh (by omega)];simp;omega
def xh (t:eZ):List Int:=0::iw t.m7 t.m7.length
def fixC (c:m8)(n:Int):List Int:=Q4 (Q6 (xh (nth c.j3 n.toNat)))
theorem xT (t:eZ):∀ (xs:List Int) (p:Int), -1<=p->T1 t p xs=true->(xs.length:Int)<=max 0 (t.m7.length - 1 - p)
 |[],p,_,_=>by simp;omega
 |o::r,p,hp,h=>by
  simp only [T1,b5] at h;obtain ⟨⟨⟨h1,h2⟩,_⟩,h4⟩:=h;have h1:=y9 h1;have h2:=y9 h2;have ih:=xT t r o (by omega) h4;simp;omega
theorem qF (c:m8)(n:Nat):∀ k i,cn c n k i=0->∀ m,i<=m->m<i+k->Z2 c n m=0
 |0,i,_,m,h1,h2=>absurd h1 (by omega)
 |k+1,i,h,m,h1,h2=>by
  rw [cn] at h;cases e:o9 (Z2 c n i) 0 with
  |false =>
   simp only [e,Bool.not_false,if_true] at h;exact absurd h (mz e)
  |true =>
   simp only [e,Bool.not_true,b7,if_false] at h
   rcases u9 i m with g|g
   ·exact qF c n k (i+1) h m (by omega) (by omega)
   ·obtain rfl:m=i:=by omega
    exact X2 e
theorem qg {c:m8}{n:Nat}(hv:J3 c=true)(hn:n<c.j3.length):(nth c.j3 n).m7.length<=8/\∀ i,i<(nth c.j3 n).m7.length->(nth (nth c.j3 n).m7 i).C5.length<=8:=by
 have hok:=(fC hv).1;have hnl:=Z3 c;have ht:=ez (hok n (by unfold m8.ns at hnl;omega)) hn;have h8:=(cU ht).2;refine ⟨h8,fun i hi=> ?_⟩;have hc:Z2 c n i=0:=by
  unfold dK at ht;split at ht
  ·omega
  ·exact qF c n _ 0 ht i (by omega) (by omega)
 have ho:T1 (nth c.j3 n) (-1) (nth (nth c.j3 n).m7 i).C5=true:=by
  unfold Z2 at hc;cases h:T1 (nth c.j3 n) (-1) (nth (nth c.j3 n).m7 i).C5 with
  |true=>rfl
  |false =>
   rw [h] at hc;simp only [Bool.not_false,Bool.or_true,Bool.true_or] at hc
   repeat' split at hc
   all_goals first|omega|exact absurd trivial (by assumption)
 have:=xT _ _ _ (Int.le_refl _) ho;omega
theorem Qb (c:m8)(hs:B6 c)(n:Int)(h:bF c n=false):Pf A 17 [cat c,.d (num n)] (.d (ints [])):=by
 have NW:=PX c hs;have e:(C9 n 0||W8 c.j3.length n|| !J3 c)=true:=by
  have e:=congrArg (!·) (nZ c n);rw [h] at e;simp only [Bool.not_not,Bool.not_false] at e;exact e.symm
 refine Pf.run [cat c,.d (num n),.any,.any,.any,.any,.any,.any,.any] rfl rfl rfl rfl ?_
 repeat' (first|refine mn (h2:= ?_)|refine gx ?_|fail)
 refine tB (C9 n 0||W8 c.j3.length n|| !J3 c) ?_ (fun h1=> ?_) (fun h1=> ?_)
 ·repeat' (first|refine cl (NW) ?_|refine gx ?_|refine fk (h1:=fun hw=> ?_) (h2:=fun hw=> ?_)|refine L7 (h1:=fun hw=> ?_) (h2:=fun hw=> ?_)|refine ⟨rfl,rfl,_,rfl,?_⟩|refine ⟨rfl,rfl⟩|fail)
  all_goals exact cc
 ·repeat' (first|refine mn (h2:= ?_)|refine gx ?_|fail)
  exact ⟨_,rfl,rfl⟩
 ·rw [e] at h1;cases h1
set_option maxHeartbeats 8000000 in
theorem al4 (c:m8)(hs:B6 c)(n:Nat)(h:bF c n=true):Pf A 17 [cat c,.d (num n)] (.d (ints (fixC c n))):=by
 have NW:=PX c hs;have e:(C9 n 0||W8 c.j3.length n|| !J3 c)=false:=by
  have e:=congrArg (!·) (nZ c n);rw [h] at e;simp only [Bool.not_not,Bool.not_true] at e;exact e.symm
 have h3:=qU h;have hcl:=qg (gf h3.1) (n:=n) (by omega);obtain ⟨t,ht⟩:∃ t,nth c.j3 n=t:=⟨_,rfl⟩;have e9:fixC c n=Q4 (Q6 (xh t)):=by unfold fixC;rw [Int.toNat_natCast,ht]
 rw [ht] at hcl;rw [e9];refine Pf.run [cat c,.d (num n),.any,.any,.any,.any,.any,.any,.any] rfl rfl rfl rfl ?_
 repeat' (first|refine mn (h2:= ?_)|refine gx ?_|fail)
 refine tB (C9 n 0||W8 c.j3.length n|| !J3 c) ?_ (fun h1=> ?_) (fun h1=> ?_)
 ·repeat' (first|refine cl (NW) ?_|refine gx ?_|refine fk (h1:=fun hw=> ?_) (h2:=fun hw=> ?_)|refine L7 (h1:=fun hw=> ?_) (h2:=fun hw=> ?_)|refine ⟨rfl,rfl,_,rfl,?_⟩|refine ⟨rfl,rfl⟩|fail)
  all_goals exact cc
 ·rw [e] at h1;cases h1
 repeat' (first|refine Wy [iv 0] rfl ⟨by decide,rfl⟩ (h2:= ?_)|refine gx ?_|fail)
 rw [ht];refine gr ?_;refine Ex.fS (fun q T H=>∃ (k:Nat),T=[.any,.any,.any,.any,.D4 1 1 0 (0::iw t.m7 k).length,.any,.d (z6 Y5.enc t.m7),.d (num t.m7.length),.d (num k)]/\H=HF c (0::iw t.m7 k)/\k+q=t.m7.length) ?_ (k:=t.m7.length) ⟨0,rfl,rfl,by simp⟩;rintro q _ _ ⟨k,rfl,rfl,hq⟩;refine Ex.seq ?_;refine tb (C9 k t.m7.length) (fun g1=> ?_) (fun g1=> ?_)
 ·have g2:=y9 g1
  have WT:=mR hcl.2 k (by omega);have hok:=hcl.2 k (by omega);unfold HF;refine gr ?_;refine apo (m:=(nth t.m7 k).C5.length) (len:=(0::iw t.m7 k).length) (k2:=(0::iw t.m7 (k+1)).length) (old:=(0::iw t.m7 k).map iv) (cs:=(nth t.m7 k).C5.map iv) (T2:=[.any,.any,.any,.any,.any,.ptr 2 0,.d (z6 Y5.enc t.m7),.d (num t.m7.length),.d (num k)]) (rl2:=[.d (ints (nth t.m7 k).C5),.ptr 2 4,.any]) (H2:=HF c (0::iw t.m7 (k+1))++[.cells ((nth t.m7 k).enc.map .d)]) (by simp only [roomFor,decide_eq_true_eq];simp;omega) (Uf _ _) (by simp) (XM _) (Cl _) (hH:= ?_) (hk2:=by rw [oh (by omega)];simp;omega) (h2:= ?_)
  ·show [y7.cells (c.enc.map .d),y7.cells (G5 1 ((0::iw t.m7 k).map iv)++(nth t.m7 k).C5.map iv),y7.cells ((nth t.m7 k).enc.map .d)]=_
   rw [JS,oh (by omega)];simp [HF]
  refine gr ?_;refine ⟨q - 1,by omega,_,_,wW (o7 rfl) ?_,k+1,rfl,rfl,by omega⟩;show Y6 (HF c (0::iw t.m7 (k+1)))<=2
  rw [HA];omega
 ·have g2:=y8 g1
  obtain rfl:k=t.m7.length:=by omega
  have WT:=mR hcl.2 t.m7.length (by omega);have e8:(0::iw t.m7 t.m7.length)=xh t:=rfl;rw [e8];have hfl:(xh t).length<=100:=by rw [<- e8];simp;omega
  have vM:=jS (xh t);have pS:=aP2 c (xh t) (by omega);have pC:=aP1 c (Q6 (xh t)) (by omega);rw [vM] at pC;have hdl:=me (Q6 (xh t))
  repeat' (first|refine c0F pS ?_|refine c0F pC ?_|refine gx ?_|fail)
  exact ⟨_,ad9 rfl rfl (by omega),rfl⟩
theorem VM (c:m8)(hs:B6 c)(n:Int)(h:bF c n=false):Pf A 58 [cat c,.d (num n)] (.own 1 0 []):=by
 have PS:=TM c hs n;rw [h] at PS;refine Pf.run [cat c,.d (num n),.any,.any,.any,.any,.any,.any] rfl rfl rfl rfl ?_;refine gr ?_;refine tB (true) ?_ (fun h1=> ?_) (fun h1=> ?_)
 ·repeat' (first|refine cl (PS) ?_|refine gx ?_|refine fk (h1:=fun hw=> ?_) (h2:=fun hw=> ?_)|refine L7 (h1:=fun hw=> ?_) (h2:=fun hw=> ?_)|refine ⟨rfl,rfl,_,rfl,?_⟩|refine ⟨rfl,rfl⟩|fail)
  all_goals exact cc
 ·refine gr ?_
  exact ⟨_,rfl,rfl⟩
 ·cases h1
theorem DU (x:Int):∀ l:List Int,(Z7 l x).length<=l.length+1
 |[]=>by simp [Z7]
 |y::l=>by
  have:=DU x l;simp only [Z7];split
  ·simp;omega
  ·split<;>simp
theorem Eu:∀ (xs l:List Int),(xs.foldl Z7 l).length<=l.length+xs.length
 |[],l=>by simp
 |x::xs,l=>by
  have h1:=Eu xs (Z7 l x);have h2:=DU x l;simp only [List.foldl_cons,B7];omega
set_option maxHeartbeats 8000000 in
theorem an1 (c:m8)(hs:B6 c)(n:Nat)(h:bF c n=true):Pf A 58 [cat c,.d (num n)] (.d (ints (fixC c n))):=by
 have PS:=TM c hs n;rw [h] at PS;have h3:=qU h;have hcl:=qg (gf h3.1) (n:=n) (by omega);have e9:fixC c n=(iw (nth c.j3 n).m7 (nth c.j3 n).m7.length).foldl Z7 [0]:=by rw [fix_eq];unfold fixC xh;rw [Int.toNat_natCast]
 rw [e9];refine Pf.run [cat c,.d (num n),.any,.any,.any,.any,.any,.any] rfl rfl rfl rfl ?_;refine gr ?_;refine tB (false) ?_ (fun h1=> ?_) (fun h1=> ?_)
 ·repeat' (first|refine cl (PS) ?_|refine gx ?_|refine fk (h1:=fun hw=> ?_) (h2:=fun hw=> ?_)|refine L7 (h1:=fun hw=> ?_) (h2:=fun hw=> ?_)|refine ⟨rfl,rfl,_,rfl,?_⟩|refine ⟨rfl,rfl⟩|fail)
  all_goals exact cc
 ·cases h1
 refine gr ?_;refine Ex.J0 (fun q T H=>∃ (k:Nat) (w0 w3 w4 w6 w7:b6),T=[w0,.d (num n),.ptr 0 0,w3,w4,.d (num k),w6,w7]/\H=[.cells (c.enc.map .d)]/\UL w4 ((iw (nth c.j3 n).m7 k).foldl Z7 [0])/\k+q=(nth c.j3 n).m7.length) (by rintro _ _ _ ⟨_,_,_,_,_,_,_,rfl,_⟩;rfl) ?_ (k:=(nth c.j3 n).m7.length) ⟨0,_,_,_,_,_,rfl,rfl,.inr rfl,by simp⟩;rintro q _ _ ⟨k,w0,w3,w4,w6,w7,rfl,rfl,hw,hq⟩;refine Ex.nT ?_;refine Ex.seq ?_;refine tb (C9 k (nth c.j3 n).m7.length) (fun g1=> ?_) (fun g1=> ?_)
 ·have g2:=y9 g1
  have WT:=mR hcl.2 k (by omega);have hok:=hcl.2 k (by omega);obtain ⟨os,hos⟩:∃ os,(nth (nth c.j3 n).m7 k).C5=os:=⟨_,rfl⟩;rw [hos] at hok;refine gr ?_;rw [hos];refine gr ?_;refine Ex.J0 (fun q2 T H=>∃ (j:Nat) (w0 w3 w4:b6),T=[w0,.d (num n),.ptr 0 0,w3,w4,.d (num k),.d (ints os),.d (num j)]/\H=[.cells (c.enc.map .d)]/\UL w4 ((iw (nth c.j3 n).m7 k++os.take j).foldl Z7 [0])/\j+q2=os.length) (by rintro _ _ _ ⟨_,_,_,_,_,rfl,_⟩;rfl) ?_ (k:=os.length) ⟨0,_,_,_,rfl,rfl,by simpa using hw,by simp⟩;clear hw;rintro q2 _ _ ⟨j,w0,w3,w4,rfl,rfl,hw,Sv⟩;refine Ex.nT ?_;refine Ex.seq ?_;refine tb (C9 j os.length) (fun g3=> ?_) (fun g3=> ?_)
  ·have g4:=y9 g3
   have hfl:=Eu (iw (nth c.j3 n).m7 k++os.take j) [0];simp only [E0,List.length_take,List.length_singleton] at hfl;obtain ⟨w5,hw5,PR⟩:=XW ((iw (nth c.j3 n).m7 k++os.take j).foldl Z7 [0]) (nth os j) (by omega);have Sy:=hw.as;have e1:(iw (nth c.j3 n).m7 k++os.take (j+1)).foldl Z7 [0]=Z7 ((iw (nth c.j3 n).m7 k++os.take j).foldl Z7 [0]) (nth os j):=by
    rw [F7 (by omega),<- List.append_assoc,List.foldl_append];rfl
   rw [<- e1] at hw5
   rcases hw5 with rfl|rfl
   ·repeat' (first|refine XF Sy ?_|refine cl (PR) ?_|refine gx ?_|fail)
    exact ⟨q2 - 1,by omega,j+1,_,_,_,rfl,rfl,.inl rfl,by omega⟩
   ·repeat' (first|refine XF Sy ?_|refine cl (PR) ?_|refine gx ?_|fail)
    exact ⟨q2 - 1,by omega,j+1,_,_,_,rfl,rfl,.inr rfl,by omega⟩
  ·have g4:=y8 g3
   rw [q5 (by omega),<- hos,<- oh (by omega)] at hw;refine gr ?_;exact ⟨q - 1,by omega,k+1,_,_,_,_,_,rfl,rfl,hw,by omega⟩
 ·have g2:=y8 g1
  obtain rfl:k=(nth c.j3 n).m7.length:=by omega
  have Sy:=hw.as
  repeat' (first|refine XF Sy ?_|refine gx ?_|fail)
  exact ⟨_,rfl,rfl⟩
end Go.Proofs.YtkmclibmmlgogaaGreat


/- Texts D54 D55 D56 D57 D58 (made short by a program) -/
import Derived.Test.YtkmclibmmlgogaaGreatX2
set_option linter.unusedVariables false
set_option linter.unusedSimpArgs false
open Bool renaming and_eq_true → b5, false_eq_true → b7, not_eq_false' → A7, not_eq_true' → j5, or_eq_false_iff → L6
open List renaming length_append → C1, length_cons → A2, map_cons → H8, mem_cons → x9, replicate → c9, take_of_length_le → q7
open Nat renaming le_of_ble_eq_true → m8, le_refl → k9, lt_or_ge → p9
namespace Go.Proofs.YtkmclibmmlgogaaGreat
open Go.z7 Go.z7.S
attribute [local irreducible] Rx Ry Rn Ex Pf
theorem nC (c:n5)(n:Int):cH c n=(!(C7 n 0||W6 c.j3.length n|| !K7 c)):=by
 unfold cH P9 n5.ns;rw [Bool.eq_iff_iff];simp only [b5,j5,L6,p5,p8,decide_eq_true_eq,decide_eq_false_iff_not,A7];constructor
 ·rintro ⟨⟨h1,h2,h3⟩,h4⟩;exact ⟨⟨by omega,by omega⟩,h1⟩
 ·rintro ⟨⟨h2,h3⟩,h1⟩;exact ⟨⟨h1,by omega,by omega⟩,by omega⟩
theorem qC {c:n5}{n:Int}(h:cH c n=true):P9 c n=true/\0<=n/\n<c.j3.length:=by
 unfold cH at h;rw [b5] at h;have h1:=(bT h.1).2.2;exact ⟨h.1,h1.1,A4 h.2⟩
def qJ (m9:List Y6):Nat->List Int
 |0=>[]
 |k+1=>qJ m9 k++(if C7 0 (nth m9 k).C9.length then [(k:Int)] else [])
theorem NK {m9:List Y6}{k:Nat}(h:C7 0 (nth m9 k).C9.length=false):qJ m9 (k+1)=qJ m9 k:=by
 simp only [qJ];rw [h];simp
theorem NL {m9:List Y6}{k:Nat}(h:C7 0 (nth m9 k).C9.length=true):qJ m9 (k+1)=qJ m9 k++[(k:Int)]:=by
 simp only [qJ];rw [h];simp
theorem qK (m9:List Y6):∀ k,(qJ m9 k).length<=k
 |0=>k9 _
 |k+1=>by
  have:=qK m9 k;simp only [qJ];split<;>simp<;>omega
def BW (c:n5)(n:Int):List Int:=qJ (nth c.j3 n.toNat).m9 (nth c.j3 n.toNat).m9.length
theorem TG (c:n5)(hs:C0 c)(n:Int)(h:cH c n=false):Pf A 16 [cat c,.d (num n)] (.own 1 0 []):=by
 have Vs:=RA c hs;have e:(C7 n 0||W6 c.j3.length n|| !K7 c)=true:=by
  have e:=congrArg (!·) (nC c n);rw [h] at e;simp only [Bool.not_not,Bool.not_false] at e;exact e.symm
 refine Pf.run [cat c,.d (num n),.any,.any,.any,.any,.any,.any,.any,.any] rfl rfl rfl rfl ?_;refine gr ?_;refine tB (C7 n 0||W6 c.j3.length n|| !K7 c) ?_ (fun h1=> ?_) (fun h1=> ?_)
 ·repeat' (first|refine cl (Vs) ?_|refine gx ?_|refine fk (h1:=fun hw=> ?_) (h2:=fun hw=> ?_)|refine L3 (h1:=fun hw=> ?_) (h2:=fun hw=> ?_)|refine ⟨rfl,rfl,_,rfl,?_⟩|refine ⟨rfl,rfl⟩|fail)
  all_goals exact cc
 ·refine gr ?_
  exact ⟨_,rfl,rfl⟩
 ·rw [e] at h1;cases h1
set_option maxHeartbeats 8000000 in
theorem ZN (c:n5)(hs:C0 c)(n:Nat)(h:cH c n=true):Pf A 16 [cat c,.d (num n)] (.d (ints (BW c n))):=by
 have Vs:=RA c hs;have e:(C7 n 0||W6 c.j3.length n|| !K7 c)=false:=by
  have e:=congrArg (!·) (nC c n);rw [h] at e;simp only [Bool.not_not,Bool.not_true] at e;exact e.symm
 have h3:=qC h;have hcl:=hs.sm.m9 n (by omega);obtain ⟨t,ht⟩:∃ t,nth c.j3 n=t:=⟨_,rfl⟩;have e9:BW c n=qJ t.m9 t.m9.length:=by unfold BW;rw [Int.toNat_natCast,ht]
 rw [ht] at hcl;rw [e9];refine Pf.run [cat c,.d (num n),.any,.any,.any,.any,.any,.any,.any,.any] rfl rfl rfl rfl ?_;refine gr ?_;refine tB (C7 n 0||W6 c.j3.length n|| !K7 c) ?_ (fun h1=> ?_) (fun h1=> ?_)
 ·repeat' (first|refine cl (Vs) ?_|refine gx ?_|refine fk (h1:=fun hw=> ?_) (h2:=fun hw=> ?_)|refine L3 (h1:=fun hw=> ?_) (h2:=fun hw=> ?_)|refine ⟨rfl,rfl,_,rfl,?_⟩|refine ⟨rfl,rfl⟩|fail)
  all_goals exact cc
 ·rw [e] at h1;cases h1
 refine gr ?_;rw [ht];refine gr ?_;refine Ex.fG (fun q T H=>∃ (k:Nat),T=[.any,.any,.any,.any,B4 1 (fun n=>[num n]) (qJ t.m9 k),.any,.any,.d (A5 Y6.enc t.m9),.d (num t.m9.length),.d (num k)]/\H=[.cells (c.enc.map .d)]/\k+q=t.m9.length) ?_ (k:=t.m9.length) ⟨0,rfl,rfl,by simp⟩;rintro q _ _ ⟨k,rfl,rfl,hq⟩;have Gd:=qK t.m9 k;refine Ex.seq ?_;refine tb (C7 k t.m9.length) (fun g1=> ?_) (fun g1=> ?_)
 ·have g2:=A4 g1
  refine gr ?_;refine tb (C7 0 (nth t.m9 k).C9.length) (fun g3=> ?_) (fun g3=> ?_)
  ·refine gr ?_
   exact ⟨q - 1,by omega,_,_,rfl,k+1,by rw [NL g3];rfl,rfl,by omega⟩
  ·refine gr ?_
   exact ⟨q - 1,by omega,_,_,rfl,k+1,by rw [NK g3];rfl,rfl,by omega⟩
 ·have g2:=z8 g1
  obtain rfl:k=t.m9.length:=by omega
  refine gr ?_;exact ⟨_,rfl,rfl⟩
theorem TR (c:n5)(hs:C0 c)(n:Int)(h:cH c n=false):Pf A 57 [cat c,.d (num n)] (.d (ints [])):=by
 have NI:=RC c hs n;rw [h] at NI;refine Pf.run [cat c,.d (num n),.any,.any,.any,.any] rfl rfl rfl rfl ?_;refine gr ?_;refine Ex.J1 (fun q T H=>∃ (w0 w3:b6),T=[w0,.d (num n),.ptr 0 0,w3,.own 1 0 [],.d (num 0)]/\H=[.cells (c.enc.map .d)]) (by rintro _ _ _ ⟨_,_,_,rfl⟩;rfl) ?_ (k:=0) ⟨_,_,rfl,rfl⟩;rintro q _ _ ⟨w0,w3,rfl,rfl⟩;refine Ex.nT ?_;refine Ex.seq ?_;refine tB (false) ?_ (fun g1=> ?_) (fun g1=> ?_)
 ·repeat' (first|refine cl (NI) ?_|refine gx ?_|refine fk (h1:=fun hw=> ?_) (h2:=fun hw=> ?_)|refine L3 (h1:=fun hw=> ?_) (h2:=fun hw=> ?_)|refine ⟨rfl,rfl,_,rfl,?_⟩|refine ⟨rfl,rfl⟩|fail)
  all_goals exact cc
 ·cases g1
 refine gr ?_;exact ⟨_,rfl,rfl⟩
set_option maxHeartbeats 8000000 in
theorem aa6 (c:n5)(hs:C0 c)(n:Nat)(h:cH c n=true):Pf A 57 [cat c,.d (num n)] (.d (ints (BW c n))):=by
 have NI:=RC c hs n;rw [h] at NI;have h3:=qC h;have hcl:=hs.sm.m9 n (by omega);have e9:BW c n=qJ (nth c.j3 n).m9 (nth c.j3 n).m9.length:=by unfold BW;rw [Int.toNat_natCast]
 rw [e9];refine Pf.run [cat c,.d (num n),.any,.any,.any,.any] rfl rfl rfl rfl ?_;refine gr ?_;refine Ex.J1 (fun q T H=>∃ (k:Nat) (w0 w3:b6),T=[w0,.d (num n),.ptr 0 0,w3,B4 1 (fun n=>[num n]) (qJ (nth c.j3 n).m9 k),.d (num k)]/\H=[.cells (c.enc.map .d)]/\k+q=(nth c.j3 n).m9.length) (by rintro _ _ _ ⟨_,_,_,_,rfl,_⟩;rfl) ?_ (k:=(nth c.j3 n).m9.length) ⟨0,_,_,rfl,rfl,by simp⟩;rintro q _ _ ⟨k,w0,w3,rfl,rfl,hq⟩;have Gd:=qK (nth c.j3 n).m9 k;refine Ex.nT ?_;refine Ex.seq ?_;refine tB (C7 k (nth c.j3 n).m9.length) ?_ (fun g1=> ?_) (fun g1=> ?_)
 ·repeat' (first|refine cl (NI) ?_|refine gx ?_|refine fk (h1:=fun hw=> ?_) (h2:=fun hw=> ?_)|refine L3 (h1:=fun hw=> ?_) (h2:=fun hw=> ?_)|refine ⟨rfl,rfl,_,rfl,?_⟩|refine ⟨rfl,rfl⟩|fail)
  all_goals exact cc
 ·have g2:=A4 g1
  refine gr ?_;refine tb (C7 0 (nth (nth c.j3 n).m9 k).C9.length) (fun g3=> ?_) (fun g3=> ?_)
  ·refine gr ?_
   exact ⟨q - 1,by omega,k+1,_,_,by rw [NL g3];rfl,rfl,by omega⟩
  ·refine gr ?_
   exact ⟨q - 1,by omega,k+1,_,_,by rw [NK g3];rfl,rfl,by omega⟩
 ·have g2:=z8 g1
  obtain rfl:k=(nth c.j3 n).m9.length:=by omega
  refine gr ?_;exact ⟨_,rfl,rfl⟩
end Go.Proofs.YtkmclibmmlgogaaGreat
namespace Go.Proofs.YtkmclibmmlgogaaGreat
open Go.z7 Go.z7.S
theorem Ii:∀ {l m:List Int},l.Pairwise (·<·)->m.Pairwise (·<·)->(∀ s,s ∈ l↔s ∈ m)->l=m
 |[],[],_,_,_=>rfl
 |[],y::m,_,_,h=>absurd ((h y).2 (by simp)) (by simp)
 |x::l,[],_,_,h=>absurd ((h x).1 (by simp)) (by simp)
 |x::l,y::m,h1,h2,h=>by
  obtain ⟨a1,b1⟩:=List.pairwise_cons.1 h1;obtain ⟨a2,b2⟩:=List.pairwise_cons.1 h2;have hx:=(h x).1 (by simp);have hy:=(h y).2 (by simp);have e:x=y:=by
   simp only [x9] at hx hy
   rcases hx with hx|hx
   ·exact hx
   ·rcases hy with hy|hy
    ·exact hy.symm
    ·have:=a1 y hy
     have:=a2 x hx;omega
  subst e
  congr 1
  refine Ii b1 b2 fun s=>⟨fun hs=> ?_,fun hs=> ?_⟩
  ·have:=a1 s hs
   have h3:=(h s).1 (by simp [hs]);simp only [x9] at h3
   rcases h3 with h3|h3
   ·omega
   ·exact h3
  ·have:=a2 s hs
   have h3:=(h s).2 (by simp [hs]);simp only [x9] at h3
   rcases h3 with h3|h3
   ·omega
   ·exact h3
theorem wI (x s:Int):∀ l:List Int,s ∈ fA x l↔s=x\/s ∈ l
 |[]=>by simp [fA]
 |y::l=>by
  simp only [fA];split
  ·simp
  ·simp only [x9,wI x s l]
   exact or_left_comm
theorem zV (s:Int):∀ l:List Int,s ∈ O6 l↔s ∈ l
 |[]=>by simp [O6]
 |x::l=>by simp only [O6,wI,zV s l,x9]
theorem ED (x:Int):∀ l:List Int,l.Pairwise (·<=·)->(fA x l).Pairwise (·<=·)
 |[],_=>by simp [fA]
 |y::l,h=>by
  obtain ⟨a,b⟩:=List.pairwise_cons.1 h;simp only [fA];split
  ·rename_i hx
   refine List.pairwise_cons.2 ⟨fun s hs=> ?_,h⟩;simp only [x9] at hs
   rcases hs with rfl|hs
   ·exact hx
   ·have:=a s hs;omega
  ·rename_i hx
   refine List.pairwise_cons.2 ⟨fun s hs=> ?_,ED x l b⟩;rw [wI] at hs
   rcases hs with rfl|hs
   ·omega
   ·exact a s hs
theorem Ah:∀ l:List Int,(O6 l).Pairwise (·<=·)
 |[]=>by simp [O6]
 |x::l=>ED x _ (Ah l)
theorem wH (s:Int):∀ l:List Int,s ∈ O2 l↔s ∈ l
 |[]=>by simp [O2]
 |[x]=>by simp [O2]
 |x::y::l=>by
  have ih:=wH s (y::l);simp only [O2];split
  ·rename_i h
   subst h;rw [ih];simp
  ·simp only [x9] at ih ⊢
   rw [ih]
theorem CZ:∀ l:List Int,l.Pairwise (·<=·)->(O2 l).Pairwise (·<·)
 |[],_=>by simp [O2]
 |[x],_=>by simp [O2]
 |x::y::l,h=>by
  obtain ⟨a,b⟩:=List.pairwise_cons.1 h;have ih:=CZ (y::l) b;simp only [O2];split
  ·exact ih
  ·rename_i hx
   refine List.pairwise_cons.2 ⟨fun s hs=> ?_,ih⟩;rw [wH] at hs;have h1:=a y (by simp);simp only [x9] at hs
   rcases hs with rfl|hs
   ·omega
   ·have:=(List.pairwise_cons.1 b).1 s hs
    omega
theorem wG (x s:Int):∀ l:List Int,s ∈ Z4 l x↔s=x\/s ∈ l
 |[]=>by simp [Z4]
 |y::l=>by
  have ih:=wG x s l;simp only [Z4];split
  ·simp only [x9,ih]
   exact or_left_comm
  ·split
   ·rename_i h
    subst h;simp
   ·simp
theorem CY (x:Int):∀ l:List Int,l.Pairwise (·<·)->(Z4 l x).Pairwise (·<·)
 |[],_=>by simp [Z4]
 |y::l,h=>by
  obtain ⟨a,b⟩:=List.pairwise_cons.1 h;simp only [Z4];split
  ·rename_i hx
   refine List.pairwise_cons.2 ⟨fun s hs=> ?_,CY x l b⟩;rw [wG] at hs
   rcases hs with rfl|hs
   ·exact hx
   ·exact a s hs
  ·split
   ·exact h
   ·refine List.pairwise_cons.2 ⟨fun s hs=> ?_,h⟩
    simp only [x9] at hs
    rcases hs with rfl|hs
    ·omega
    ·have:=a s hs;omega
theorem Ic:∀ (xs l:List Int),l.Pairwise (·<·)->(xs.foldl Z4 l).Pairwise (·<·)/\∀ s,s ∈ xs.foldl Z4 l↔s ∈ l\/s ∈ xs
 |[],l,h=>⟨h,fun s=>by simp⟩
 |x::xs,l,h=>by
  obtain ⟨h1,h2⟩:=Ic xs (Z4 l x) (CY x l h);refine ⟨h1,fun s=> ?_⟩;simp only [List.foldl_cons,h2,wG,x9];constructor
  ·rintro ((h|h)|h)<;>simp [h]
  ·rintro (h|h|h)<;>simp [h]
theorem fix_eq (x:Int)(xs:List Int):xs.foldl Z4 [x]=O2 (O6 (x::xs)):=by
 obtain ⟨h1,h2⟩:=Ic xs [x] (by simp);refine Ii h1 (CZ _ (Ah _)) fun s=> ?_
 rw [h2,wH,zV];simp
attribute [local irreducible] Rx Ry Rn Ex Pf
theorem Bm:∀ xs:List Int,A9 (xs.map iv)=0
 |[]=>rfl
 |x::xs=>by simp [A9,iv,b6.N7,Bm xs]
theorem IG (id:Nat):∀ xs:List Int,J0 id (xs.map iv)=xs.map iv
 |[]=>rfl
 |x::xs=>by simp only [H8,J0,IG id xs];rfl
theorem Vq (xs:List Int):(xs.map iv).all b6.one=true:=by
 simp only [List.all_map,List.all_eq_true];intro x _;rfl
theorem GI:∀ xs:List Int,(xs.flatMap fun n=>[num n])=xs.map num
 |[]=>rfl
 |x::xs=>by simp [GI xs]
theorem Sb (H:o6)(xs:List Int):J7 H 1 (.d (ints xs))=some (xs.length,xs.map iv):=by
 have h1:=GI xs;simp only [J7,ints,A5,h1];rw [if_pos (by simp)];simp [Function.comp_def];intro a _;rfl
theorem MQ (H:o6)(n:Nat):∀ (xs:List Int) (f:Nat),xs.length<f->bY H n f (xs.map iv)=some (xs.map iv)
 |[],f+1,_=>rfl
 |x::xs,f+1,h=>by
  have ih:=MQ H n xs f (by simp at h;omega);simp only [H8,bY,ih,iv]
theorem MC:∀ xs:List Int,M9 (xs.map iv)=some (xs.map num)
 |[]=>rfl
 |x::xs=>by simp only [H8,M9,iv,b6.data?];rw [MC xs]
theorem Ys {T:List b6}{H:o6}{ds zs:List Int}(hT:T[3]? =some (.E3 1 1 0 ds.length))(hH:H[1]? =some (.cells ((ds++zs).map iv)))(hl:ds.length<=500):ki a17 0 (some (.ret,⟨T,H⟩))=some (.d (ints ds),[]):=by
 have h1:rd H 1 0 (ds.length * 1)=some (ds.map iv):=by
  simp only [rd,hH];rw [if_pos (by simp)];simp
 have h2:=MQ H 0 ds 999 (by omega);have h3:=GI ds;have h4:bV T H a17.results=some [.E3 1 1 0 ds.length]:=by
  show bV T H [.slot 3]=_
  simp only [bV,kH,hT]
 unfold ki;simp only [h4];show finish false 0 [.E3 1 1 0 ds.length] H=_
 simp only [finish,b7,if_false,b9,bY,Nat.not_lt_zero,h1,h2,MC];simp [b6.N7,ints,A5,h3]
def HF (c:n5)(xs:List Int):o6:=[.cells (c.enc.map .d),.cells (xs.map iv)]
def lF:H7:=⟨0,0,2,2⟩
theorem Gj (c:n5)(xs:List Int):Y2 (HF c xs)=0:=by
 have e1:A9 (c.enc.map b6.d)=0:=rfl;simp only [HF,Y2,z6.N7,e1,Bm];rfl
theorem Qt (c:n5)(xs:List Int):P3 (HF c xs) 0=true:=by
 have e1:A9 (c.enc.map b6.d)=0:=rfl;simp only [HF,P3,z6.N7,e1,Bm];rfl
section
variable {b:Nat} {j4 ops:List n9} {T:List b6} {n:Nat} {rl:List b6} {n7:List z7.Touch} {Q:List b6->o6->List b6->Prop}
theorem c0F {c:n5}{xs ys:List Int}{f:FuncId}{os:List u5}{u:List Nat}{v:b6}{args:List b6}(hc:Pm A f args (HF c xs) lF v (HF c ys))(h2:Ry A cU b false j4 ops T (HF c ys) (n+1) (v::rl) (.below 2::n7) Q)
  (ha:os.map (rq T n rl)=args:=by rfl) (hb:A9 args=2:=by rfl) (dM:A.prom f=false:=by rfl) (hm:A.mode f=0:=by rfl):Ry A cU b false j4 (⟨.call f os,none,none,u⟩::ops) T (HF c xs) n rl n7 Q:=by
 refine c0 hc rfl (m:=2) ?_ ?_ rfl rfl ?_ (fun h=>by cases h) ha dM hm rfl (HD:=[]) (H2:=HF c ys) rfl h2
 ·show Y2 (HF c xs)<=2
  rw [Gj];omega
 ·rw [hb]
  exact fT (by show Y2 (HF c xs)<=2;rw [Gj];omega)
 ·show H7.mk 0 0 2 (C5 _ 0 2)=lF
  have:C5 (HF c xs) 0 2=2:=by
   unfold C5;rw [if_neg (by decide),if_pos (by show P3 (HF c xs) 0=true;exact Qt c xs)]
  rw [this];rfl
end
theorem aC5 (c:n5)(xs:List Int)(h:xs.length<=1000000):Pm A 42 [.E3 1 1 0 xs.length] (HF c xs) lF (.tuple []) (HF c (O6 xs)):=Pm.gB rfl (wZ rfl rfl rfl (Nat.ble_eq_true_of_le h))
theorem aC4 (c:n5)(xs:List Int)(h:xs.length<=1000000):Pm A 43 [.E3 1 1 0 xs.length] (HF c xs) lF (.E3 1 1 0 (O2 xs).length) (HF c (O2 xs++c9 (xs.length - (O2 xs).length) 0)):=Pm.gB rfl (mC rfl rfl rfl (Nat.ble_eq_true_of_le h))
def gR (m9:List Y6)(k:Nat):List Int:=(m9.take k).flatMap Y6.C9
theorem nI {m9:List Y6}{k:Nat}(h:k<m9.length):gR m9 (k+1)=gR m9 k++(nth m9 k).C9:=by
 unfold gR;rw [F6 h];simp
theorem mB {m9:List Y6}(h:∀ i,i<m9.length->(nth m9 i).C9.length<=8):∀ k,k<=m9.length->(gR m9 k).length<=8 * k
 |0,_=>by simp [gR]
 |k+1,hk=>by
  have:=mB h k (by omega);have:=h k (by omega);rw [nI (by omega)];simp;omega
def vY (t:fu):List Int:=0::gR t.m9 t.m9.length
def fixC (c:n5)(n:Int):List Int:=O2 (O6 (vY (nth c.j3 n.toNat)))
theorem wT (t:fu):∀ (xs:List Int) (p:Int), -1<=p->S3 t p xs=true->(xs.length:Int)<=max 0 (t.m9.length - 1 - p)
 |[],p,_,_=>by simp;omega
 |o::r,p,hp,h=>by
  simp only [S3,b5] at h;obtain ⟨⟨⟨h1,h2⟩,_⟩,h4⟩:=h;have h1:=A4 h1;have h2:=A4 h2;have ih:=wT t r o (by omega) h4;simp;omega
theorem qj (c:n5)(n:Nat):∀ k i,bS c n k i=0->∀ m,i<=m->m<i+k->Y9 c n m=0
 |0,i,_,m,h1,h2=>absurd h1 (by omega)
 |k+1,i,h,m,h1,h2=>by
  rw [bS] at h;cases e:o9 (Y9 c n i) 0 with
  |false =>
   simp only [e,Bool.not_false,if_true] at h;exact absurd h (qp e)
  |true =>
   simp only [e,Bool.not_true,b7,if_false] at h
   rcases p9 i m with g|g
   ·exact qj c n k (i+1) h m (by omega) (by omega)
   ·obtain rfl:m=i:=by omega
    exact X2 e
theorem pH {c:n5}{n:Nat}(hv:K7 c=true)(hn:n<c.j3.length):(nth c.j3 n).m9.length<=8/\∀ i,i<(nth c.j3 n).m9.length->(nth (nth c.j3 n).m9 i).C9.length<=8:=by
 have hok:=(fh hv).1;have hnl:=Z1 c;have ht:=eo (hok n (by unfold n5.ns at hnl;omega)) hn;have h8:=(cM ht).2;refine ⟨h8,fun i hi=> ?_⟩;have hc:Y9 c n i=0:=by
  unfold dA at ht;split at ht
  ·omega
  ·exact qj c n _ 0 ht i (by omega) (by omega)
 have ho:S3 (nth c.j3 n) (-1) (nth (nth c.j3 n).m9 i).C9=true:=by
  unfold Y9 at hc;cases h:S3 (nth c.j3 n) (-1) (nth (nth c.j3 n).m9 i).C9 with
  |true=>rfl
  |false =>
   rw [h] at hc;simp only [Bool.not_false,Bool.or_true,Bool.true_or] at hc
   repeat' split at hc
   all_goals first|omega|exact absurd trivial (by assumption)
 have:=wT _ _ _ (Int.le_refl _) ho;omega
theorem TI (c:n5)(hs:C0 c)(n:Int)(h:cH c n=false):Pf A 17 [cat c,.d (num n)] (.d (ints [])):=by
 have Vs:=RA c hs;have e:(C7 n 0||W6 c.j3.length n|| !K7 c)=true:=by
  have e:=congrArg (!·) (nC c n);rw [h] at e;simp only [Bool.not_not,Bool.not_false] at e;exact e.symm
 refine Pf.run [cat c,.d (num n),.any,.any,.any,.any,.any,.any,.any] rfl rfl rfl rfl ?_
 repeat' (first|refine mn (h2:= ?_)|refine gx ?_|fail)
 refine tB (C7 n 0||W6 c.j3.length n|| !K7 c) ?_ (fun h1=> ?_) (fun h1=> ?_)
 ·repeat' (first|refine cl (Vs) ?_|refine gx ?_|refine fk (h1:=fun hw=> ?_) (h2:=fun hw=> ?_)|refine L3 (h1:=fun hw=> ?_) (h2:=fun hw=> ?_)|refine ⟨rfl,rfl,_,rfl,?_⟩|refine ⟨rfl,rfl⟩|fail)
  all_goals exact cc
 ·repeat' (first|refine mn (h2:= ?_)|refine gx ?_|fail)
  exact ⟨_,rfl,rfl⟩
 ·rw [e] at h1;cases h1
set_option maxHeartbeats 8000000 in
theorem ZR (c:n5)(hs:C0 c)(n:Nat)(h:cH c n=true):Pf A 17 [cat c,.d (num n)] (.d (ints (fixC c n))):=by
 have Vs:=RA c hs;have e:(C7 n 0||W6 c.j3.length n|| !K7 c)=false:=by
  have e:=congrArg (!·) (nC c n);rw [h] at e;simp only [Bool.not_not,Bool.not_true] at e;exact e.symm
 have h3:=qC h;have hcl:=pH (fO h3.1) (n:=n) (by omega);obtain ⟨t,ht⟩:∃ t,nth c.j3 n=t:=⟨_,rfl⟩;have e9:fixC c n=O2 (O6 (vY t)):=by unfold fixC;rw [Int.toNat_natCast,ht]
 rw [ht] at hcl;rw [e9];refine Pf.run [cat c,.d (num n),.any,.any,.any,.any,.any,.any,.any] rfl rfl rfl rfl ?_
 repeat' (first|refine mn (h2:= ?_)|refine gx ?_|fail)
 refine tB (C7 n 0||W6 c.j3.length n|| !K7 c) ?_ (fun h1=> ?_) (fun h1=> ?_)
 ·repeat' (first|refine cl (Vs) ?_|refine gx ?_|refine fk (h1:=fun hw=> ?_) (h2:=fun hw=> ?_)|refine L3 (h1:=fun hw=> ?_) (h2:=fun hw=> ?_)|refine ⟨rfl,rfl,_,rfl,?_⟩|refine ⟨rfl,rfl⟩|fail)
  all_goals exact cc
 ·rw [e] at h1;cases h1
 repeat' (first|refine Uy [iv 0] rfl ⟨by decide,rfl⟩ (h2:= ?_)|refine gx ?_|fail)
 rw [ht];refine gr ?_;refine Ex.fG (fun q T H=>∃ (k:Nat),T=[.any,.any,.any,.any,.E3 1 1 0 (0::gR t.m9 k).length,.any,.d (A5 Y6.enc t.m9),.d (num t.m9.length),.d (num k)]/\H=HF c (0::gR t.m9 k)/\k+q=t.m9.length) ?_ (k:=t.m9.length) ⟨0,rfl,rfl,by simp⟩;rintro q _ _ ⟨k,rfl,rfl,hq⟩;refine Ex.seq ?_;refine tb (C7 k t.m9.length) (fun g1=> ?_) (fun g1=> ?_)
 ·have g2:=A4 g1
  have WZ:=mB hcl.2 k (by omega);have hok:=hcl.2 k (by omega);unfold HF;refine gr ?_;refine apo (m:=(nth t.m9 k).C9.length) (len:=(0::gR t.m9 k).length) (k2:=(0::gR t.m9 (k+1)).length) (old:=(0::gR t.m9 k).map iv) (cs:=(nth t.m9 k).C9.map iv) (T2:=[.any,.any,.any,.any,.any,.ptr 2 0,.d (A5 Y6.enc t.m9),.d (num t.m9.length),.d (num k)]) (rl2:=[.d (ints (nth t.m9 k).C9),.ptr 2 4,.any]) (H2:=HF c (0::gR t.m9 (k+1))++[.cells ((nth t.m9 k).enc.map .d)]) (by simp only [roomFor,decide_eq_true_eq];simp;omega) (Sb _ _) (by simp) (Vq _) (Bm _) (hH:= ?_) (hk2:=by rw [nI (by omega)];simp;omega) (h2:= ?_)
  ·show [z6.cells (c.enc.map .d),z6.cells (J0 1 ((0::gR t.m9 k).map iv)++(nth t.m9 k).C9.map iv),z6.cells ((nth t.m9 k).enc.map .d)]=_
   rw [IG,nI (by omega)];simp [HF]
  refine gr ?_;refine ⟨q - 1,by omega,_,_,vP (m8 rfl) ?_,k+1,rfl,rfl,by omega⟩;show Y2 (HF c (0::gR t.m9 (k+1)))<=2
  rw [Gj];omega
 ·have g2:=z8 g1
  obtain rfl:k=t.m9.length:=by omega
  have WZ:=mB hcl.2 t.m9.length (by omega);have e8:(0::gR t.m9 t.m9.length)=vY t:=rfl;rw [e8];have hfl:(vY t).length<=100:=by rw [<- e8];simp;omega
  have uD:=jF (vY t);have pS:=aC5 c (vY t) (by omega);have pC:=aC4 c (O6 (vY t)) (by omega);rw [uD] at pC;have hdl:=lM (O6 (vY t))
  repeat' (first|refine c0F pS ?_|refine c0F pC ?_|refine gx ?_|fail)
  exact ⟨_,Ys rfl rfl (by omega),rfl⟩
theorem TS (c:n5)(hs:C0 c)(n:Int)(h:cH c n=false):Pf A 58 [cat c,.d (num n)] (.own 1 0 []):=by
 have NI:=RC c hs n;rw [h] at NI;refine Pf.run [cat c,.d (num n),.any,.any,.any,.any,.any,.any] rfl rfl rfl rfl ?_;refine gr ?_;refine tB (true) ?_ (fun h1=> ?_) (fun h1=> ?_)
 ·repeat' (first|refine cl (NI) ?_|refine gx ?_|refine fk (h1:=fun hw=> ?_) (h2:=fun hw=> ?_)|refine L3 (h1:=fun hw=> ?_) (h2:=fun hw=> ?_)|refine ⟨rfl,rfl,_,rfl,?_⟩|refine ⟨rfl,rfl⟩|fail)
  all_goals exact cc
 ·refine gr ?_
  exact ⟨_,rfl,rfl⟩
 ·cases h1
theorem CW (x:Int):∀ l:List Int,(Z4 l x).length<=l.length+1
 |[]=>by simp [Z4]
 |y::l=>by
  have:=CW x l;simp only [Z4];split
  ·simp;omega
  ·split<;>simp
theorem Dv:∀ (xs l:List Int),(xs.foldl Z4 l).length<=l.length+xs.length
 |[],l=>by simp
 |x::xs,l=>by
  have h1:=Dv xs (Z4 l x);have h2:=CW x l;simp only [List.foldl_cons,A2];omega
set_option maxHeartbeats 8000000 in
theorem aa7 (c:n5)(hs:C0 c)(n:Nat)(h:cH c n=true):Pf A 58 [cat c,.d (num n)] (.d (ints (fixC c n))):=by
 have NI:=RC c hs n;rw [h] at NI;have h3:=qC h;have hcl:=pH (fO h3.1) (n:=n) (by omega);have e9:fixC c n=(gR (nth c.j3 n).m9 (nth c.j3 n).m9.length).foldl Z4 [0]:=by rw [fix_eq];unfold fixC vY;rw [Int.toNat_natCast]
 rw [e9];refine Pf.run [cat c,.d (num n),.any,.any,.any,.any,.any,.any] rfl rfl rfl rfl ?_;refine gr ?_;refine tB (false) ?_ (fun h1=> ?_) (fun h1=> ?_)
 ·repeat' (first|refine cl (NI) ?_|refine gx ?_|refine fk (h1:=fun hw=> ?_) (h2:=fun hw=> ?_)|refine L3 (h1:=fun hw=> ?_) (h2:=fun hw=> ?_)|refine ⟨rfl,rfl,_,rfl,?_⟩|refine ⟨rfl,rfl⟩|fail)
  all_goals exact cc
 ·cases h1
 refine gr ?_;refine Ex.J1 (fun q T H=>∃ (k:Nat) (w0 w3 w4 w6 w7:b6),T=[w0,.d (num n),.ptr 0 0,w3,w4,.d (num k),w6,w7]/\H=[.cells (c.enc.map .d)]/\SL w4 ((gR (nth c.j3 n).m9 k).foldl Z4 [0])/\k+q=(nth c.j3 n).m9.length) (by rintro _ _ _ ⟨_,_,_,_,_,_,_,rfl,_⟩;rfl) ?_ (k:=(nth c.j3 n).m9.length) ⟨0,_,_,_,_,_,rfl,rfl,.inr rfl,by simp⟩;rintro q _ _ ⟨k,w0,w3,w4,w6,w7,rfl,rfl,hw,hq⟩;refine Ex.nT ?_;refine Ex.seq ?_;refine tb (C7 k (nth c.j3 n).m9.length) (fun g1=> ?_) (fun g1=> ?_)
 ·have g2:=A4 g1
  have WZ:=mB hcl.2 k (by omega);have hok:=hcl.2 k (by omega);obtain ⟨os,hos⟩:∃ os,(nth (nth c.j3 n).m9 k).C9=os:=⟨_,rfl⟩;rw [hos] at hok;refine gr ?_;rw [hos];refine gr ?_;refine Ex.J1 (fun q2 T H=>∃ (j:Nat) (w0 w3 w4:b6),T=[w0,.d (num n),.ptr 0 0,w3,w4,.d (num k),.d (ints os),.d (num j)]/\H=[.cells (c.enc.map .d)]/\SL w4 ((gR (nth c.j3 n).m9 k++os.take j).foldl Z4 [0])/\j+q2=os.length) (by rintro _ _ _ ⟨_,_,_,_,_,rfl,_⟩;rfl) ?_ (k:=os.length) ⟨0,_,_,_,rfl,rfl,by simpa using hw,by simp⟩;clear hw;rintro q2 _ _ ⟨j,w0,w3,w4,rfl,rfl,hw,Qi⟩;refine Ex.nT ?_;refine Ex.seq ?_;refine tb (C7 j os.length) (fun g3=> ?_) (fun g3=> ?_)
  ·have g4:=A4 g3
   have hfl:=Dv (gR (nth c.j3 n).m9 k++os.take j) [0];simp only [C1,List.length_take,List.length_singleton] at hfl;obtain ⟨w5,hw5,NH⟩:=VC ((gR (nth c.j3 n).m9 k++os.take j).foldl Z4 [0]) (nth os j) (by omega);have Qk:=hw.as;have e1:(gR (nth c.j3 n).m9 k++os.take (j+1)).foldl Z4 [0]=Z4 ((gR (nth c.j3 n).m9 k++os.take j).foldl Z4 [0]) (nth os j):=by
    rw [F6 (by omega),<- List.append_assoc,List.foldl_append];rfl
   rw [<- e1] at hw5
   rcases hw5 with rfl|rfl
   ·repeat' (first|refine Vk Qk ?_|refine cl (NH) ?_|refine gx ?_|fail)
    exact ⟨q2 - 1,by omega,j+1,_,_,_,rfl,rfl,.inl rfl,by omega⟩
   ·repeat' (first|refine Vk Qk ?_|refine cl (NH) ?_|refine gx ?_|fail)
    exact ⟨q2 - 1,by omega,j+1,_,_,_,rfl,rfl,.inr rfl,by omega⟩
  ·have g4:=z8 g3
   rw [q7 (by omega),<- hos,<- nI (by omega)] at hw;refine gr ?_;exact ⟨q - 1,by omega,k+1,_,_,_,_,_,rfl,rfl,hw,by omega⟩
 ·have g2:=z8 g1
  obtain rfl:k=(nth c.j3 n).m9.length:=by omega
  have Qk:=hw.as
  repeat' (first|refine Vk Qk ?_|refine gx ?_|fail)
  exact ⟨_,rfl,rfl⟩
end Go.Proofs.YtkmclibmmlgogaaGreat


/- Texts D43 D44 D45 D46 D44w D45w D46w D47 (made short by a program) -/
import Derived.Test.YtkmclibmmlgogaaGreatW2
set_option linter.unusedVariables false
set_option linter.unusedSimpArgs false
open Bool renaming and_eq_true → b5, false_eq_true → b7, not_eq_false' → B4, not_eq_true' → j9
open List renaming drop_of_length_le → m7, map_cons → G7, replicate → c9, take_of_length_le → s6
open Nat renaming ble → J7, le_refl → l5, lt_or_ge → p7
namespace Go.Proofs.YtkmclibmmlgogaaGreat
open Go.u7 Go.u7.S
attribute [local irreducible] Rx Ry Rn Ex Pf
theorem oX (c:m9):∀ k i,(aI c k i).2=0->aI c k i=(0,0)/\∀ m,i<=m->m<i+k->J2 c m=0
 |0,i,_=>⟨rfl,fun m h1 h2=>absurd h1 (by omega)⟩
 |k+1,i,h=>by
  rw [aI] at h ⊢;cases e:o8 (J2 c i) 0 with
  |false =>
   simp only [e,Bool.not_false,if_true] at h;exact absurd h (sM e)
  |true =>
   simp only [e,Bool.not_true,b7,if_false] at h ⊢;obtain ⟨h1,h2⟩:=oX c k (i+1) h;refine ⟨h1,fun m g1 g2=> ?_⟩
   rcases p7 i m with g3|g3
   ·exact h2 m g3 (by omega)
   ·obtain rfl:m=i:=by omega
    exact X2 e
theorem yG {c:m9}(h:(L1 c).2=0):(L1 c).1=0/\tooMany c=false/\br c c.names.length:=by
 unfold L1 at h ⊢;cases e:tooMany c with
 |true=>rw [e] at h;simp at h
 |false =>
  rw [e] at h;simp only [b7,if_false] at h ⊢;obtain ⟨h1,h2⟩:=oX c _ _ h;exact ⟨by rw [h1],trivial,fun m hm=>h2 m (by omega) (by omega)⟩
theorem LU {c:m9}{fds:List C7}{Gi:List W5}{v:b6}{H1:o6}(h:gF c fds Gi v H1):v= .tuple [.d .bN,.d (num (L1 c).1),.d (num (L1 c).2)]\/v= .tuple [.ptr 4 0,.d (num (L1 c).1),.d (num (L1 c).2)]:=by
 obtain ⟨_,h1,h2⟩:=h;cases e:o8 (L1 c).2 0 with
 |false=>exact .inl (h1 e)
 |true =>
  refine .inr ((h2 e).1.trans ?_);rw [X2 e,(yG (X2 e)).1]
def M7 (c:m9):Bool:=o8 (L1 c).2 0
theorem Yl (c:m9)(hs:E8 c):Pf A 10 [cat c] (.d (.bool (M7 c))):=by
 obtain ⟨v,H1,hp,FB⟩:=zk c hs;have hle:=ru hp;refine Pf.run [cat c,.any,.any,.any] rfl rfl rfl rfl ?_
 rcases LU hp with rfl|rfl
 ·repeat' (first|refine cp FB hle ?_|refine gx ?_|fail)
  exact ⟨_,rfl,rfl⟩
 ·repeat' (first|refine cp FB hle ?_|refine gx ?_|fail)
  exact ⟨_,rfl,rfl⟩
theorem ck {b:Nat}{dr:Bool}{j4 ops:List n8}{T:List b6}{n:Nat}{rl:List b6}{n5:List u7.Touch}{Q:List b6->o6->List b6->Prop}{c:m9}{ds:List C7}{ss:List W5}{R:o6}{f:FuncId}{xs:List r8}{u:List Nat}{v:b6}{args:List b6}(hc:Pm A f args (HH c ds ss) lR v (HH c ds ss))(h2:Ry A bK b dr j4 ops T (HH c ds ss++R) (n+1) (v::rl) n5 Q)
  (ha:xs.map (rq T n rl)=args:=by rfl) (hb:y9 args=5:=by rfl) (dc:A.prom f=false:=by rfl) (hm:A.mode f=1:=by rfl):Ry A bK b dr j4 (⟨.call f xs,none,none,u⟩::ops) T (HH c ds ss++R) n rl n5 Q:=by
 have Kx:=uF c ds ss;have Qi:=oM c ds ss;refine c1 hc rfl h2 (m:=5) ?_ ?_ rfl rfl ?_ ha dc hm
 ·show W8 (HH c ds ss)<=5
  exact Kx
 ·rw [hb]
  exact fF (by show W8 (HH c ds ss)<=5;exact Kx)
 ·show F9.mk 0 5 5 (B5 _ 0 5)=lR
  rw [qt (by show O1 (HH c ds ss) 0=true;exact Qi)];rfl
def dA (c:m9)(n:Int):Bool:=M7 c&&(X4 0 n&&C2 n (m9.ns c))
theorem Hl (c:m9){n:Int}(h:0<=n/\n<(m9.ns c)):nth (z7 c (m9.ns c)) n.toNat=mb c n.toNat:=K2 c (by omega)
theorem mS {c:m9}{n:Int}(h:dA c n=true):o8 (L1 c).2 0=true/\(X4 0 n&&C2 n (m9.ns c))=true/\0<=n/\n<(m9.ns c):=by
 unfold dA M7 at h;rw [b5] at h;exact ⟨h.1,h.2,by simpa [o5,o9] using h.2⟩
theorem Yx (c:m9)(hs:E8 c)(n:Int)(h:dA c n=true):Pf A 14 [cat c,.d (num n)] (.d (y7 encS (FY c n.toNat))):=by
 obtain ⟨v,H1,hp,FB⟩:=zk c hs;have hle:=ru hp;obtain ⟨_,hp1,hp2⟩:=hp;obtain ⟨e,h2,h3⟩:=mS h;obtain ⟨rfl,rfl⟩:=hp2 e;have h4:=Hl c h3;have h6:=C4 c (m9.ns c);have MZ:=Np c c.names (z7 c (m9.ns c)) n;rw [C4,h2] at MZ;refine Pf.run [cat c,.d (num n),.any,.any,.any,.any] rfl rfl rfl rfl ?_
 repeat' (first|refine cp FB hle ?_|refine gx ?_|fail)
 refine tB (false) ?_ (fun h1=> ?_) (fun h1=> ?_)
 ·repeat' (first|refine ck MZ ?_|refine gx ?_|refine fk (h1:=fun hw=> ?_) (h2:=fun hw=> ?_)|refine M8 (h1:=fun hw=> ?_) (h2:=fun hw=> ?_)|refine ⟨rfl,rfl,_,rfl,?_⟩|refine ⟨rfl,rfl⟩|fail)
  all_goals exact cc
 ·cases h1
 refine gr ?_;exact ⟨_,rfl,by rw [h4];rfl⟩
theorem Yz (c:m9)(hs:E8 c)(n:Int)(h:dA c n=true):Pf A 15 [cat c,.d (num n)] (.d (ints (P8 c n.toNat))):=by
 obtain ⟨v,H1,hp,FB⟩:=zk c hs;have hle:=ru hp;obtain ⟨_,hp1,hp2⟩:=hp;obtain ⟨e,h2,h3⟩:=mS h;obtain ⟨rfl,rfl⟩:=hp2 e;have h4:=Hl c h3;have h6:=C4 c (m9.ns c);have MZ:=Np c c.names (z7 c (m9.ns c)) n;rw [C4,h2] at MZ;refine Pf.run [cat c,.d (num n),.any,.any,.any,.any] rfl rfl rfl rfl ?_
 repeat' (first|refine cp FB hle ?_|refine gx ?_|fail)
 refine tB (false) ?_ (fun h1=> ?_) (fun h1=> ?_)
 ·repeat' (first|refine ck MZ ?_|refine gx ?_|refine fk (h1:=fun hw=> ?_) (h2:=fun hw=> ?_)|refine M8 (h1:=fun hw=> ?_) (h2:=fun hw=> ?_)|refine ⟨rfl,rfl,_,rfl,?_⟩|refine ⟨rfl,rfl⟩|fail)
  all_goals exact cc
 ·cases h1
 refine gr ?_;exact ⟨_,rfl,by rw [h4];rfl⟩
def iv (n:Int):b6:= .d (num n)
theorem ou:∀ xs:List Int,gI (xs.map iv)=some xs
 |[]=>rfl
 |x::xs=>by
  have:=ou xs;simp only [G7,iv,num,gI];rw [this]
theorem jj:∀ xs:List Int,(T5 xs).length=xs.length
 |[]=>rfl
 |x::xs=>by
  have h:∀ l:List Int,(ot x l).length=l.length+1:=fun l=>by
   induction l with
   |nil=>rfl
   |cons y l ih=>simp only [ot];split<;>simp [ih]
  simp [T5,h,jj xs]
theorem kP:∀ xs:List Int,(S6 xs).length<=xs.length
 |[]=>l5 _
 |[x]=>l5 _
 |x::y::l=>by
  have:=kP (y::l);simp only [S6];split<;>simp at this ⊢<;>omega
theorem Ou {H:o6}{id:Nat}{old vs:List b6}(ho:H[id]? =some (.cells old))(hl:vs.length=old.length):wr H id 0 vs=some (H.set id (.cells vs)):=by
 simp [wr,ho,hl,splice,m7]
theorem Nz {H:o6}{id len:Nat}{old:List b6}(ho:H[id]? =some (.cells old))(hl:old.length=len):rd H id 0 len=some old:=by
 simp [rd,ho,hl,s6]
theorem wg {H:o6}{id len:Nat}{l:F9}{xs:List Int}(hm:l.may id=true)(ho:H[id]? =some (.cells (xs.map iv)))(hl:xs.length=len)(hb:J7 len 1000000=true:=by rfl):we [.D0 id 1 0 len] H l=some (.tuple [],H.set id (.cells ((T5 xs).map iv))):=by
 have h1:=Nz (len:=len) ho (by simp [hl]);have h2:=Ou (vs:=(T5 xs).map iv) ho (by simp [jj]);simp only [we,hm,hb,Bool.and_self,if_true,h1,ou];rw [show ((T5 xs).map fun n=>b6.d (.int .i64 n))=(T5 xs).map iv from rfl,h2]
theorem lJ {H:o6}{id len:Nat}{l:F9}{xs:List Int}(hm:l.may id=true)(ho:H[id]? =some (.cells (xs.map iv)))(hl:xs.length=len)(hb:J7 len 1000000=true:=by rfl) :
  fY [.D0 id 1 0 len] H l=some (.D0 id 1 0 (S6 xs).length,H.set id (.cells ((S6 xs++c9 (xs.length - (S6 xs).length) 0).map iv))):=by
 have h1:=Nz (len:=len) ho (by simp [hl]);have h3:=kP xs;have h2:=Ou (vs:=(S6 xs++c9 (xs.length - (S6 xs).length) 0).map iv) ho (by simp;omega);simp only [fY,hm,hb,Bool.and_self,if_true,h1,ou];have h4:wr H id 0 ((S6 xs++c9 (xs.length - (S6 xs).length) 0).map fun n=>b6.d (.int .i64 n))=_:=h2;rw [h4]
def lY (v:Vw)(ns:List C7):List Int:=S6 (T5 (if I9 v.right [] then [A8 v.left ns 0] else [A8 v.left ns 0,A8 v.right ns 0]))
theorem Nq (c:m9)(ds:List C7)(ss:List W5)(n:Int)(hn:n<c.j3.length):Pm A 45 [.ptr 4 0,.d (num n)] (HH c ds ss) lR (.d (ints [])) (HH c ds ss):=by
 suffices h:Pq A 45 [.ptr 4 0,.d (num n)] (HH c ds ss) lR fun w H1=>w= .d (ints [])/\H1=HH c ds ss by
  obtain ⟨w,H1,⟨rfl,rfl⟩,h⟩:=h;exact h
 unfold HH at *
 refine Pq.run (b:=5) [.ptr 4 0,.d (num n),.any,.any,.any] rfl rfl rfl rfl rfl ?_
 repeat' (first|refine mn (h2:= ?_)|refine gx ?_|fail)
 refine tb (C2 n c.j3.length) (fun g1=> ?_) (fun g1=> ?_)
 ·repeat' (first|refine mn (h2:= ?_)|refine gx ?_|fail)
  exact ⟨_,_,rfl,rfl,rfl⟩
 ·have:=z8 g1
  omega
def XY:F9:=⟨0,5,7,7⟩
theorem QH (a0 a1 a2 a3 a4 a5:u5)(xs ys:List Int)(h:T5 xs=ys)(hb:J7 xs.length 1000000=true:=by rfl):Pm A 42 [.D0 6 1 0 xs.length] [a0,a1,a2,a3,a4,a5,.cells (xs.map iv)] XY (.tuple []) [a0,a1,a2,a3,a4,a5,.cells (ys.map iv)]:=by
 subst h;exact Pm.ga rfl (wg rfl rfl rfl hb)
theorem QG (a0 a1 a2 a3 a4 a5:u5)(xs ys:List Int)(h:S6 xs=ys)(hb:J7 xs.length 1000000=true:=by rfl):Pm A 43 [.D0 6 1 0 xs.length] [a0,a1,a2,a3,a4,a5,.cells (xs.map iv)] XY (.D0 6 1 0 ys.length) [a0,a1,a2,a3,a4,a5,.cells ((ys++c9 (xs.length - ys.length) 0).map iv)]:=by
 subst h;exact Pm.ga rfl (lJ rfl rfl rfl hb)
theorem SN (i j:Int):(T5 [i,j]=[i,i]/\S6 [i,i]=[i])\/(T5 [i,j]=[i,j]/\S6 [i,j]=[i,j])\/(T5 [i,j]=[j,i]/\S6 [j,i]=[j,i]):=by
 rcases Int.lt_trichotomy i j with h|h|h
 ·refine .inr (.inl ⟨?_,?_⟩)
  ·simp only [T5,ot];rw [if_pos (by omega)]
  ·simp only [S6];rw [if_neg (by omega)]
 ·subst h
  refine .inl ⟨?_,?_⟩
  ·simp only [T5,ot];rw [if_pos (by omega)]
  ·simp [S6]
 ·refine .inr (.inr ⟨?_,?_⟩)
  ·simp only [T5,ot];rw [if_neg (by omega)]
  ·simp only [S6];rw [if_neg (by omega)]
set_option maxHeartbeats 4000000 in
theorem Nr (c:m9)(ds:List C7)(ss:List W5)(n:Int)(hn:c.j3.length<=n)(hn2:n<(m9.ns c))(hvl:c.views.length<=1000):Pm A 45 [.ptr 4 0,.d (num n)] (HH c ds ss) lR (.d (ints (lY (nth c.views (n - c.j3.length).toNat) (ss.map (·.1))))) (HH c ds ss):=by
 have aN:m9.ns c=c.j3.length+c.views.length:=rfl;obtain ⟨v,hv⟩:∃ v,nth c.views (n - c.j3.length).toNat=v:=⟨_,rfl⟩;rw [hv]
 suffices h:Pq A 45 [.ptr 4 0,.d (num n)] (HH c ds ss) lR fun w H1=>w= .d (ints (lY v (ss.map (·.1))))/\H1=HH c ds ss by
  obtain ⟨w,H1,⟨rfl,rfl⟩,h⟩:=h;exact h
 have pL:=lK c ds ss v.left;have pR:=lK c ds ss v.right;unfold HH at *
 refine Pq.run (b:=5) [.ptr 4 0,.d (num n),.any,.any,.any] rfl rfl rfl rfl rfl ?_
 repeat' (first|refine mn (h2:= ?_)|refine gx ?_|fail)
 refine tb (C2 n c.j3.length) (fun g1=> ?_) (fun g1=> ?_)
 ·have:=z6 g1
  omega
 refine gr ?_;refine Ex.region (Rn.z 3 5 [.cells (c.enc.map .d),.cells (c.enc.map .d),.map (dmap ds),.map (R1 (ss.map (·.1)) 0),.cells (c.enc.map .d++[.map 2,.map 3,A5 2 E9 ss]),.dead] rfl rfl (by decide) rfl rfl ?_);refine zm ?_;refine zp (rs:=[]) (.ptr 4 0) rfl ?_;refine zp (rs:=[]) (.ptr 4 0) rfl ?_;refine zp (rs:=[]) (.ptr 4 1) rfl ?_;refine zp (rs:=[4]) (.d (y7 Vw.enc c.views)) rfl ?_;refine zm ?_;refine zm ?_;refine zp (rs:=[]) (.ptr 4 0) rfl ?_;refine zp (rs:=[]) (.ptr 4 0) rfl ?_;refine zp (rs:=[]) (.ptr 4 0) rfl ?_;refine zp (rs:=[4]) (.d (y7 er.enc c.j3)) rfl ?_;refine zp (rs:=[]) (.d (num c.j3.length)) rfl ?_;refine zsb (c:=n) (d:=c.j3.length) (by omega) ?_;refine zix (xs:=c.views) (enc:=Vw.enc) (e:=n - c.j3.length) (by omega) ?_;refine zle ?_;rw [hv];refine za (h2:= ?_);refine zs (h2:= ?_);refine zn ?_
 repeat' (first|refine c1 pL rfl ?_|refine Ts [iv (A8 v.left (ss.map (·.1)) 0)] rfl ⟨by decide,rfl⟩ (h2:= ?_)|refine gx ?_|fail)
 obtain ⟨i,hi⟩:∃ i,A8 v.left (ss.map (·.1)) 0=i:=⟨_,rfl⟩;obtain ⟨j,hj⟩:∃ j,A8 v.right (ss.map (·.1)) 0=j:=⟨_,rfl⟩;rw [hi] at pL ⊢;rw [hj] at pR;refine tb (!I9 v.right []) (fun g2=> ?_) (fun g2=> ?_)
 ·repeat' (first|refine c1 pR rfl ?_|refine Ts [iv j] rfl ⟨by decide,rfl⟩ (h2:= ?_)|refine apo (m:=1) (len:=1) (k2:=2) (old:=[iv i]) (cs:=[iv j]) (T2:=[.ptr 4 0,.d (num n),.d (.slice 0 []),.ptr 5 0,.any]) (Zb:=[.D0 7 1 0 1,.d (num j),.d (.str v.right),.ptr 5 3,.ptr 4 0,.any]) (H2:=[.cells (c.enc.map .d),.cells (c.enc.map .d),.map (dmap ds),.map (R1 (ss.map (·.1)) 0),.cells (c.enc.map .d++[.map 2,.map 3,A5 2 E9 ss]),.cells (v.enc.map .d),.cells [iv i,iv j],.cells [iv j]]) rfl rfl rfl rfl rfl (h2:= ?_)|refine gx ?_|fail)
  have e1:lY v (ss.map (·.1))=S6 (T5 [i,j]):=by unfold lY;rw [hi,hj];simp only [j9] at g2;rw [g2];rfl
  rcases SN i j with ⟨h1,h2⟩|⟨h1,h2⟩|⟨h1,h2⟩
  ·repeat' (first|refine c0 (QH _ _ _ _ _ _ [i,j] [i,i] h1) rfl (h2:= ?_)|refine c0 (QG _ _ _ _ _ _ [i,i] [i] h2) rfl (h2:= ?_)|refine gx ?_|fail)
   exact ⟨_,_,rfl,by rw [e1,h1,h2];rfl,rfl⟩
  ·repeat' (first|refine c0 (QH _ _ _ _ _ _ [i,j] [i,j] h1) rfl (h2:= ?_)|refine c0 (QG _ _ _ _ _ _ [i,j] [i,j] h2) rfl (h2:= ?_)|refine gx ?_|fail)
   exact ⟨_,_,rfl,by rw [e1,h1,h2];rfl,rfl⟩
  ·repeat' (first|refine c0 (QH _ _ _ _ _ _ [i,j] [j,i] h1) rfl (h2:= ?_)|refine c0 (QG _ _ _ _ _ _ [j,i] [j,i] h2) rfl (h2:= ?_)|refine gx ?_|fail)
   exact ⟨_,_,rfl,by rw [e1,h1,h2];rfl,rfl⟩
 ·have e1:lY v (ss.map (·.1))=[i]:=by unfold lY;rw [hi,hj];simp only [B4] at g2;rw [g2];rfl
  repeat' (first|refine c0 (QH _ _ _ _ _ _ [i] [i] rfl) rfl (h2:= ?_)|refine c0 (QG _ _ _ _ _ _ [i] [i] rfl) rfl (h2:= ?_)|refine gx ?_|fail)
  exact ⟨_,_,rfl,by rw [e1];rfl,rfl⟩
def sns (c:m9):List C7:=(z7 c (m9.ns c)).map (·.1)
def jV (c:m9)(n:Int):List Int:=if C2 n c.j3.length then [] else lY (nth c.views (n - c.j3.length).toNat) (sns c)
theorem Uu (c:m9)(ds:List C7)(n:Int)(hn2:n<(m9.ns c))(hvl:c.views.length<=1000):Pm A 45 [.ptr 4 0,.d (num n)] (HH c ds (z7 c (m9.ns c))) lR (.d (ints (jV c n))) (HH c ds (z7 c (m9.ns c))):=by
 unfold jV;cases h:C2 n c.j3.length with
 |true=>exact Nq c ds _ n (z6 h)
 |false=>exact Nr c ds _ n (by have:=z8 h;omega) hn2 hvl
theorem YN (c:m9)(hs:E8 c)(n:Int)(h:dA c n=true):Pf A 19 [cat c,.d (num n)] (.d (ints (jV c n))):=by
 obtain ⟨v,H1,hp,FB⟩:=zk c hs;have hle:=ru hp;obtain ⟨_,hp1,hp2⟩:=hp;obtain ⟨e,h2,h3⟩:=mS h;obtain ⟨rfl,rfl⟩:=hp2 e;have h4:=Hl c h3;have h6:=C4 c (m9.ns c);have MZ:=Np c c.names (z7 c (m9.ns c)) n;rw [C4,h2] at MZ;refine Pf.run [cat c,.d (num n),.any,.any,.any,.any] rfl rfl rfl rfl ?_
 repeat' (first|refine cp FB hle ?_|refine gx ?_|fail)
 have p45:=Uu c c.names n h3.2 hs.sm.fI.2.1;refine tB (false) ?_ (fun h1=> ?_) (fun h1=> ?_)
 ·repeat' (first|refine ck MZ ?_|refine gx ?_|refine fk (h1:=fun hw=> ?_) (h2:=fun hw=> ?_)|refine M8 (h1:=fun hw=> ?_) (h2:=fun hw=> ?_)|refine ⟨rfl,rfl,_,rfl,?_⟩|refine ⟨rfl,rfl⟩|fail)
  all_goals exact cc
 ·cases h1
 repeat' (first|refine ck p45 ?_|refine gx ?_|fail)
 exact ⟨_,rfl,rfl⟩
end Go.Proofs.YtkmclibmmlgogaaGreat
namespace Go.Proofs.YtkmclibmmlgogaaGreat.fB
open Go.u7 Go.u7.S
attribute [local irreducible] Rx Ry Rn Ex Pf
variable [Inhabited XO]
theorem ck {b:Nat}{dr:Bool}{j4 ops:List n8}{T:List b6}{n:Nat}{rl:List b6}{n5:List u7.Touch}{Q:List b6->o6->List b6->Prop}{c:m9}{ds:List C7}{ss:List W5}{R:o6}{f:FuncId}{xs:List r8}{u:List Nat}{v:b6}{args:List b6}(hc:Pm A f args (HH c ds ss) lR v (HH c ds ss))(h2:Ry A bK b dr j4 ops T (HH c ds ss++R) (n+1) (v::rl) n5 Q)
  (ha:xs.map (rq T n rl)=args:=by rfl) (hb:y9 args=6:=by rfl) (dc:A.prom f=false:=by rfl) (hm:A.mode f=1:=by rfl):Ry A bK b dr j4 (⟨.call f xs,none,none,u⟩::ops) T (HH c ds ss++R) n rl n5 Q:=by
 have Kx:=uF c ds ss;have Qi:=oM c ds ss;refine c1 hc rfl h2 (m:=6) ?_ ?_ rfl rfl ?_ ha dc hm
 ·show W8 (HH c ds ss)<=6
  exact Kx
 ·rw [hb]
  exact fF (by show W8 (HH c ds ss)<=6;exact Kx)
 ·show F9.mk 0 6 6 (B5 _ 0 6)=lR
  rw [qt (by show O1 (HH c ds ss) 0=true;exact Qi)];rfl
end Go.Proofs.YtkmclibmmlgogaaGreat.fB
namespace Go.Proofs.YtkmclibmmlgogaaGreat.fB
open Go.u7 Go.u7.S
attribute [local irreducible] Rx Ry Rn Ex Pf
variable [Inhabited XO]
theorem Nq (c:m9)(ds:List C7)(ss:List W5)(n:Int)(hn:n<c.j3.length):Pm A 45 [.ptr 5 0,.d (num n)] (HH c ds ss) lR (.d (ints [])) (HH c ds ss):=by
 suffices h:Pq A 45 [.ptr 5 0,.d (num n)] (HH c ds ss) lR fun w H1=>w= .d (ints [])/\H1=HH c ds ss by
  obtain ⟨w,H1,⟨rfl,rfl⟩,h⟩:=h;exact h
 unfold HH at *
 refine Pq.run (b:=6) [.ptr 5 0,.d (num n),.any,.any,.any] rfl rfl rfl rfl rfl ?_
 repeat' (first|refine mn (h2:= ?_)|refine gx ?_|fail)
 refine tb (C2 n c.j3.length) (fun g1=> ?_) (fun g1=> ?_)
 ·repeat' (first|refine mn (h2:= ?_)|refine gx ?_|fail)
  exact ⟨_,_,rfl,rfl,rfl⟩
 ·have:=z8 g1
  omega
def XY:F9:=⟨0,6,8,8⟩
theorem QH (a0 ax a1 a2 a3 a4 a5:u5)(xs ys:List Int)(h:T5 xs=ys)(hb:J7 xs.length 1000000=true:=by rfl):Pm A 42 [.D0 7 1 0 xs.length] [a0,ax,a1,a2,a3,a4,a5,.cells (xs.map iv)] XY (.tuple []) [a0,ax,a1,a2,a3,a4,a5,.cells (ys.map iv)]:=by
 have _x:=(default:XO);subst h;exact Pm.ga rfl (wg rfl rfl rfl hb)
theorem QG (a0 ax a1 a2 a3 a4 a5:u5)(xs ys:List Int)(h:S6 xs=ys)(hb:J7 xs.length 1000000=true:=by rfl):Pm A 43 [.D0 7 1 0 xs.length] [a0,ax,a1,a2,a3,a4,a5,.cells (xs.map iv)] XY (.D0 7 1 0 ys.length) [a0,ax,a1,a2,a3,a4,a5,.cells ((ys++c9 (xs.length - ys.length) 0).map iv)]:=by
 have _x:=(default:XO);subst h;exact Pm.ga rfl (lJ rfl rfl rfl hb)
set_option maxHeartbeats 4000000 in
theorem Nr (c:m9)(ds:List C7)(ss:List W5)(n:Int)(hn:c.j3.length<=n)(hn2:n<(m9.ns c))(hvl:c.views.length<=1000):Pm A 45 [.ptr 5 0,.d (num n)] (HH c ds ss) lR (.d (ints (lY (nth c.views (n - c.j3.length).toNat) (ss.map (·.1))))) (HH c ds ss):=by
 have aN:m9.ns c=c.j3.length+c.views.length:=rfl;obtain ⟨v,hv⟩:∃ v,nth c.views (n - c.j3.length).toNat=v:=⟨_,rfl⟩;rw [hv]
 suffices h:Pq A 45 [.ptr 5 0,.d (num n)] (HH c ds ss) lR fun w H1=>w= .d (ints (lY v (ss.map (·.1))))/\H1=HH c ds ss by
  obtain ⟨w,H1,⟨rfl,rfl⟩,h⟩:=h;exact h
 have pL:=lK c ds ss v.left;have pR:=lK c ds ss v.right;unfold HH at *
 refine Pq.run (b:=6) [.ptr 5 0,.d (num n),.any,.any,.any] rfl rfl rfl rfl rfl ?_
 repeat' (first|refine mn (h2:= ?_)|refine gx ?_|fail)
 refine tb (C2 n c.j3.length) (fun g1=> ?_) (fun g1=> ?_)
 ·have:=z6 g1
  omega
 refine gr ?_;refine Ex.region (Rn.z 3 6 [.cells (c.enc.map .d),xo,.cells (c.enc.map .d),.map (dmap ds),.map (R1 (ss.map (·.1)) 0),.cells (c.enc.map .d++[.map 3,.map 4,A5 2 E9 ss]),.dead] rfl rfl (by decide) rfl rfl ?_);refine zm ?_;refine zp (rs:=[]) (.ptr 5 0) rfl ?_;refine zp (rs:=[]) (.ptr 5 0) rfl ?_;refine zp (rs:=[]) (.ptr 5 1) rfl ?_;refine zp (rs:=[5]) (.d (y7 Vw.enc c.views)) rfl ?_;refine zm ?_;refine zm ?_;refine zp (rs:=[]) (.ptr 5 0) rfl ?_;refine zp (rs:=[]) (.ptr 5 0) rfl ?_;refine zp (rs:=[]) (.ptr 5 0) rfl ?_;refine zp (rs:=[5]) (.d (y7 er.enc c.j3)) rfl ?_;refine zp (rs:=[]) (.d (num c.j3.length)) rfl ?_;refine zsb (c:=n) (d:=c.j3.length) (by omega) ?_;refine zix (xs:=c.views) (enc:=Vw.enc) (e:=n - c.j3.length) (by omega) ?_;refine zle ?_;rw [hv];refine za (h2:= ?_);refine zs (h2:= ?_);refine zn ?_
 repeat' (first|refine c1 pL rfl ?_|refine Ts [iv (A8 v.left (ss.map (·.1)) 0)] rfl ⟨by decide,rfl⟩ (h2:= ?_)|refine gx ?_|fail)
 obtain ⟨i,hi⟩:∃ i,A8 v.left (ss.map (·.1)) 0=i:=⟨_,rfl⟩;obtain ⟨j,hj⟩:∃ j,A8 v.right (ss.map (·.1)) 0=j:=⟨_,rfl⟩;rw [hi] at pL ⊢;rw [hj] at pR;refine tb (!I9 v.right []) (fun g2=> ?_) (fun g2=> ?_)
 ·repeat' (first|refine c1 pR rfl ?_|refine Ts [iv j] rfl ⟨by decide,rfl⟩ (h2:= ?_)|refine apo (m:=1) (len:=1) (k2:=2) (old:=[iv i]) (cs:=[iv j]) (T2:=[.ptr 5 0,.d (num n),.d (.slice 0 []),.ptr 6 0,.any]) (Zb:=[.D0 8 1 0 1,.d (num j),.d (.str v.right),.ptr 6 3,.ptr 5 0,.any]) (H2:=[.cells (c.enc.map .d),xo,.cells (c.enc.map .d),.map (dmap ds),.map (R1 (ss.map (·.1)) 0),.cells (c.enc.map .d++[.map 3,.map 4,A5 2 E9 ss]),.cells (v.enc.map .d),.cells [iv i,iv j],.cells [iv j]]) rfl rfl rfl rfl rfl (h2:= ?_)|refine gx ?_|fail)
  have e1:lY v (ss.map (·.1))=S6 (T5 [i,j]):=by unfold lY;rw [hi,hj];simp only [j9] at g2;rw [g2];rfl
  rcases SN i j with ⟨h1,h2⟩|⟨h1,h2⟩|⟨h1,h2⟩
  ·repeat' (first|refine c0 (QH _ _ _ _ _ _ _ [i,j] [i,i] h1) rfl (h2:= ?_)|refine c0 (QG _ _ _ _ _ _ _ [i,i] [i] h2) rfl (h2:= ?_)|refine gx ?_|fail)
   exact ⟨_,_,rfl,by rw [e1,h1,h2];rfl,rfl⟩
  ·repeat' (first|refine c0 (QH _ _ _ _ _ _ _ [i,j] [i,j] h1) rfl (h2:= ?_)|refine c0 (QG _ _ _ _ _ _ _ [i,j] [i,j] h2) rfl (h2:= ?_)|refine gx ?_|fail)
   exact ⟨_,_,rfl,by rw [e1,h1,h2];rfl,rfl⟩
  ·repeat' (first|refine c0 (QH _ _ _ _ _ _ _ [i,j] [j,i] h1) rfl (h2:= ?_)|refine c0 (QG _ _ _ _ _ _ _ [j,i] [j,i] h2) rfl (h2:= ?_)|refine gx ?_|fail)
   exact ⟨_,_,rfl,by rw [e1,h1,h2];rfl,rfl⟩
 ·have e1:lY v (ss.map (·.1))=[i]:=by unfold lY;rw [hi,hj];simp only [B4] at g2;rw [g2];rfl
  repeat' (first|refine c0 (QH _ _ _ _ _ _ _ [i] [i] rfl) rfl (h2:= ?_)|refine c0 (QG _ _ _ _ _ _ _ [i] [i] rfl) rfl (h2:= ?_)|refine gx ?_|fail)
  exact ⟨_,_,rfl,by rw [e1];rfl,rfl⟩
end Go.Proofs.YtkmclibmmlgogaaGreat.fB
namespace Go.Proofs.YtkmclibmmlgogaaGreat.fB
open Go.u7 Go.u7.S
attribute [local irreducible] Rx Ry Rn Ex Pf
variable [Inhabited XO]
theorem Uu (c:m9)(ds:List C7)(n:Int)(hn2:n<(m9.ns c))(hvl:c.views.length<=1000):Pm A 45 [.ptr 5 0,.d (num n)] (HH c ds (z7 c (m9.ns c))) lR (.d (ints (jV c n))) (HH c ds (z7 c (m9.ns c))):=by
 unfold jV;cases h:C2 n c.j3.length with
 |true=>exact Nq c ds _ n (z6 h)
 |false=>exact Nr c ds _ n (by have:=z8 h;omega) hn2 hvl
end Go.Proofs.YtkmclibmmlgogaaGreat.fB
namespace Go.Proofs.YtkmclibmmlgogaaGreat
open Go.u7 Go.u7.S
attribute [local irreducible] Rx Ry Rn Ex Pf
end Go.Proofs.YtkmclibmmlgogaaGreat


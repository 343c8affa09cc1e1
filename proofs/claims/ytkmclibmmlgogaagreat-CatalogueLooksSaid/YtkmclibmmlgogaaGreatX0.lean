/- Texts D43 D44 D45 D46 D44w D45w D46w D47 (made short by a program) -/
import Derived.Test.YtkmclibmmlgogaaGreatW2
set_option linter.unusedVariables false
set_option linter.unusedSimpArgs false
open Bool renaming and_eq_true → b5, false_eq_true → b7, not_eq_false' → A7, not_eq_true' → j5
open List renaming drop_of_length_le → m6, map_cons → H8, replicate → c9, take_of_length_le → q7
open Nat renaming ble → J9, le_refl → k9, lt_or_ge → p9
namespace Go.Proofs.YtkmclibmmlgogaaGreat
open Go.z7 Go.z7.S
attribute [local irreducible] Rx Ry Rn Ex Pf
theorem qh (c:n5):∀ k i,(aW c k i).2=0->aW c k i=(0,0)/\∀ m,i<=m->m<i+k->K2 c m=0
 |0,i,_=>⟨rfl,fun m h1 h2=>absurd h1 (by omega)⟩
 |k+1,i,h=>by
  rw [aW] at h ⊢;cases e:o9 (K2 c i) 0 with
  |false =>
   simp only [e,Bool.not_false,if_true] at h;exact absurd h (qp e)
  |true =>
   simp only [e,Bool.not_true,b7,if_false] at h ⊢;obtain ⟨h1,h2⟩:=qh c k (i+1) h;refine ⟨h1,fun m g1 g2=> ?_⟩
   rcases p9 i m with g3|g3
   ·exact h2 m g3 (by omega)
   ·obtain rfl:m=i:=by omega
    exact X2 e
theorem zw {c:n5}(h:(K6 c).2=0):(K6 c).1=0/\tooMany c=false/\bJ c c.names.length:=by
 unfold K6 at h ⊢;cases e:tooMany c with
 |true=>rw [e] at h;simp at h
 |false =>
  rw [e] at h;simp only [b7,if_false] at h ⊢;obtain ⟨h1,h2⟩:=qh c _ _ h;exact ⟨by rw [h1],trivial,fun m hm=>h2 m (by omega) (by omega)⟩
theorem My {c:n5}{fds:List D6}{GJ:List Y0}{v:b6}{H1:o6}(h:gW c fds GJ v H1):v= .tuple [.d .cj,.d (num (K6 c).1),.d (num (K6 c).2)]\/v= .tuple [.ptr 4 0,.d (num (K6 c).1),.d (num (K6 c).2)]:=by
 obtain ⟨_,h1,h2⟩:=h;cases e:o9 (K6 c).2 0 with
 |false=>exact .inl (h1 e)
 |true =>
  refine .inr ((h2 e).1.trans ?_);rw [X2 e,(zw (X2 e)).1]
def K7 (c:n5):Bool:=o9 (K6 c).2 0
theorem RA (c:n5)(hs:C0 c):Pf A 10 [cat c] (.d (.bool (K7 c))):=by
 obtain ⟨v,H1,hp,oV⟩:=mD c hs;have hle:=gj hp;refine Pf.run [cat c,.any,.any,.any] rfl rfl rfl rfl ?_
 rcases My hp with rfl|rfl
 ·repeat' (first|refine cp oV hle ?_|refine gx ?_|fail)
  exact ⟨_,rfl,rfl⟩
 ·repeat' (first|refine cp oV hle ?_|refine gx ?_|fail)
  exact ⟨_,rfl,rfl⟩
theorem ck {b:Nat}{dr:Bool}{j4 ops:List n9}{T:List b6}{n:Nat}{rl:List b6}{n7:List z7.Touch}{Q:List b6->o6->List b6->Prop}{c:n5}{ds:List D6}{ss:List Y0}{R:o6}{f:FuncId}{xs:List u5}{u:List Nat}{v:b6}{args:List b6}(hc:Pm A f args (HH c ds ss) lR v (HH c ds ss))(h2:Ry A cU b dr j4 ops T (HH c ds ss++R) (n+1) (v::rl) n7 Q)
  (ha:xs.map (rq T n rl)=args:=by rfl) (hb:A9 args=5:=by rfl) (dM:A.prom f=false:=by rfl) (hm:A.mode f=1:=by rfl):Ry A cU b dr j4 (⟨.call f xs,none,none,u⟩::ops) T (HH c ds ss++R) n rl n7 Q:=by
 have Lg:=vm c ds ss;have QU:=pU c ds ss;refine c1 hc rfl h2 (m:=5) ?_ ?_ rfl rfl ?_ ha dM hm
 ·show Y2 (HH c ds ss)<=5
  exact Lg
 ·rw [hb]
  exact fT (by show Y2 (HH c ds ss)<=5;exact Lg)
 ·show H7.mk 0 5 5 (C5 _ 0 5)=lR
  rw [rA (by show P3 (HH c ds ss) 0=true;exact QU)];rfl
def P9 (c:n5)(n:Int):Bool:=K7 c&&(W6 0 n&&C7 n (n5.ns c))
theorem HN (c:n5){n:Int}(h:0<=n/\n<(n5.ns c)):nth (A6 c (n5.ns c)) n.toNat=mM c n.toNat:=L1 c (by omega)
theorem bT {c:n5}{n:Int}(h:P9 c n=true):o9 (K6 c).2 0=true/\(W6 0 n&&C7 n (n5.ns c))=true/\0<=n/\n<(n5.ns c):=by
 unfold P9 K7 at h;rw [b5] at h;exact ⟨h.1,h.2,by simpa [p5,p8] using h.2⟩
theorem ZI (c:n5)(hs:C0 c)(n:Int)(h:P9 c n=false):Pf A 14 [cat c,.d (num n)] (.own 1 0 []):=by
 obtain ⟨v,H1,hp,oV⟩:=mD c hs;have hle:=gj hp;obtain ⟨_,hp1,hp2⟩:=hp;refine Pf.run [cat c,.d (num n),.any,.any,.any,.any] rfl rfl rfl rfl ?_;cases e:o9 (K6 c).2 0 with
 |false =>
  obtain rfl:=hp1 e
  repeat' (first|refine cp oV hle ?_|refine gx ?_|fail)
  refine tB (true) ?_ (fun h1=> ?_) (fun h1=> ?_)
  ·repeat' (first|refine cl (e) ?_|refine gx ?_|refine fk (h1:=fun hw=> ?_) (h2:=fun hw=> ?_)|refine L3 (h1:=fun hw=> ?_) (h2:=fun hw=> ?_)|refine ⟨rfl,rfl,_,rfl,?_⟩|refine ⟨rfl,rfl⟩|fail)
   all_goals exact cc
  ·refine gr ?_
   exact ⟨_,rfl,rfl⟩
  ·cases h1
 |true =>
  obtain ⟨rfl,rfl⟩:=hp2 e;have sR:=BY c c.names (A6 c (n5.ns c)) n;rw [C8] at sR;have h2:(W6 0 n&&C7 n (n5.ns c))=false:=by unfold P9 K7 at h;rw [e] at h;exact h
  rw [h2] at sR
  repeat' (first|refine cp oV hle ?_|refine gx ?_|fail)
  refine tB (true) ?_ (fun h1=> ?_) (fun h1=> ?_)
  ·repeat' (first|refine ck sR ?_|refine gx ?_|refine fk (h1:=fun hw=> ?_) (h2:=fun hw=> ?_)|refine L3 (h1:=fun hw=> ?_) (h2:=fun hw=> ?_)|refine ⟨rfl,rfl,_,rfl,?_⟩|refine ⟨rfl,rfl⟩|fail)
   all_goals exact cc
  ·refine gr ?_
   exact ⟨_,rfl,rfl⟩
  ·cases h1
theorem Tz (c:n5)(hs:C0 c)(n:Int)(h:P9 c n=true):Pf A 14 [cat c,.d (num n)] (.d (A5 encS (vQ c n.toNat))):=by
 obtain ⟨v,H1,hp,oV⟩:=mD c hs;have hle:=gj hp;obtain ⟨_,hp1,hp2⟩:=hp;obtain ⟨e,h2,h3⟩:=bT h;obtain ⟨rfl,rfl⟩:=hp2 e;have h4:=HN c h3;have h6:=C8 c (n5.ns c);have sR:=BY c c.names (A6 c (n5.ns c)) n;rw [C8,h2] at sR;refine Pf.run [cat c,.d (num n),.any,.any,.any,.any] rfl rfl rfl rfl ?_
 repeat' (first|refine cp oV hle ?_|refine gx ?_|fail)
 refine tB (false) ?_ (fun h1=> ?_) (fun h1=> ?_)
 ·repeat' (first|refine ck sR ?_|refine gx ?_|refine fk (h1:=fun hw=> ?_) (h2:=fun hw=> ?_)|refine L3 (h1:=fun hw=> ?_) (h2:=fun hw=> ?_)|refine ⟨rfl,rfl,_,rfl,?_⟩|refine ⟨rfl,rfl⟩|fail)
  all_goals exact cc
 ·cases h1
 refine gr ?_;exact ⟨_,rfl,by rw [h4];rfl⟩
theorem ZK (c:n5)(hs:C0 c)(n:Int)(h:P9 c n=false):Pf A 15 [cat c,.d (num n)] (.own 1 0 []):=by
 obtain ⟨v,H1,hp,oV⟩:=mD c hs;have hle:=gj hp;obtain ⟨_,hp1,hp2⟩:=hp;refine Pf.run [cat c,.d (num n),.any,.any,.any,.any] rfl rfl rfl rfl ?_;cases e:o9 (K6 c).2 0 with
 |false =>
  obtain rfl:=hp1 e
  repeat' (first|refine cp oV hle ?_|refine gx ?_|fail)
  refine tB (true) ?_ (fun h1=> ?_) (fun h1=> ?_)
  ·repeat' (first|refine cl (e) ?_|refine gx ?_|refine fk (h1:=fun hw=> ?_) (h2:=fun hw=> ?_)|refine L3 (h1:=fun hw=> ?_) (h2:=fun hw=> ?_)|refine ⟨rfl,rfl,_,rfl,?_⟩|refine ⟨rfl,rfl⟩|fail)
   all_goals exact cc
  ·refine gr ?_
   exact ⟨_,rfl,rfl⟩
  ·cases h1
 |true =>
  obtain ⟨rfl,rfl⟩:=hp2 e;have sR:=BY c c.names (A6 c (n5.ns c)) n;rw [C8] at sR;have h2:(W6 0 n&&C7 n (n5.ns c))=false:=by unfold P9 K7 at h;rw [e] at h;exact h
  rw [h2] at sR
  repeat' (first|refine cp oV hle ?_|refine gx ?_|fail)
  refine tB (true) ?_ (fun h1=> ?_) (fun h1=> ?_)
  ·repeat' (first|refine ck sR ?_|refine gx ?_|refine fk (h1:=fun hw=> ?_) (h2:=fun hw=> ?_)|refine L3 (h1:=fun hw=> ?_) (h2:=fun hw=> ?_)|refine ⟨rfl,rfl,_,rfl,?_⟩|refine ⟨rfl,rfl⟩|fail)
   all_goals exact cc
  ·refine gr ?_
   exact ⟨_,rfl,rfl⟩
  ·cases h1
theorem TE (c:n5)(hs:C0 c)(n:Int)(h:P9 c n=true):Pf A 15 [cat c,.d (num n)] (.d (ints (Q5 c n.toNat))):=by
 obtain ⟨v,H1,hp,oV⟩:=mD c hs;have hle:=gj hp;obtain ⟨_,hp1,hp2⟩:=hp;obtain ⟨e,h2,h3⟩:=bT h;obtain ⟨rfl,rfl⟩:=hp2 e;have h4:=HN c h3;have h6:=C8 c (n5.ns c);have sR:=BY c c.names (A6 c (n5.ns c)) n;rw [C8,h2] at sR;refine Pf.run [cat c,.d (num n),.any,.any,.any,.any] rfl rfl rfl rfl ?_
 repeat' (first|refine cp oV hle ?_|refine gx ?_|fail)
 refine tB (false) ?_ (fun h1=> ?_) (fun h1=> ?_)
 ·repeat' (first|refine ck sR ?_|refine gx ?_|refine fk (h1:=fun hw=> ?_) (h2:=fun hw=> ?_)|refine L3 (h1:=fun hw=> ?_) (h2:=fun hw=> ?_)|refine ⟨rfl,rfl,_,rfl,?_⟩|refine ⟨rfl,rfl⟩|fail)
  all_goals exact cc
 ·cases h1
 refine gr ?_;exact ⟨_,rfl,by rw [h4];rfl⟩
def iv (n:Int):b6:= .d (num n)
theorem oW:∀ xs:List Int,gZ (xs.map iv)=some xs
 |[]=>rfl
 |x::xs=>by
  have:=oW xs;simp only [H8,iv,num,gZ];rw [this]
theorem jF:∀ xs:List Int,(O6 xs).length=xs.length
 |[]=>rfl
 |x::xs=>by
  have h:∀ l:List Int,(fA x l).length=l.length+1:=fun l=>by
   induction l with
   |nil=>rfl
   |cons y l ih=>simp only [fA];split<;>simp [ih]
  simp [O6,h,jF xs]
theorem lM:∀ xs:List Int,(O2 xs).length<=xs.length
 |[]=>k9 _
 |[x]=>k9 _
 |x::y::l=>by
  have:=lM (y::l);simp only [O2];split<;>simp at this ⊢<;>omega
theorem Pa {H:o6}{id:Nat}{old vs:List b6}(ho:H[id]? =some (.cells old))(hl:vs.length=old.length):wr H id 0 vs=some (H.set id (.cells vs)):=by
 simp [wr,ho,hl,splice,m6]
theorem Og {H:o6}{id len:Nat}{old:List b6}(ho:H[id]? =some (.cells old))(hl:old.length=len):rd H id 0 len=some old:=by
 simp [rd,ho,hl,q7]
theorem wZ {H:o6}{id len:Nat}{l:H7}{xs:List Int}(hm:l.may id=true)(ho:H[id]? =some (.cells (xs.map iv)))(hl:xs.length=len)(hb:J9 len 1000000=true:=by rfl):wY [.E3 id 1 0 len] H l=some (.tuple [],H.set id (.cells ((O6 xs).map iv))):=by
 have h1:=Og (len:=len) ho (by simp [hl]);have h2:=Pa (vs:=(O6 xs).map iv) ho (by simp [jF]);simp only [wY,hm,hb,Bool.and_self,if_true,h1,oW];rw [show ((O6 xs).map fun n=>b6.d (.int .i64 n))=(O6 xs).map iv from rfl,h2]
theorem mC {H:o6}{id len:Nat}{l:H7}{xs:List Int}(hm:l.may id=true)(ho:H[id]? =some (.cells (xs.map iv)))(hl:xs.length=len)(hb:J9 len 1000000=true:=by rfl) :
  gy [.E3 id 1 0 len] H l=some (.E3 id 1 0 (O2 xs).length,H.set id (.cells ((O2 xs++c9 (xs.length - (O2 xs).length) 0).map iv))):=by
 have h1:=Og (len:=len) ho (by simp [hl]);have h3:=lM xs;have h2:=Pa (vs:=(O2 xs++c9 (xs.length - (O2 xs).length) 0).map iv) ho (by simp;omega);simp only [gy,hm,hb,Bool.and_self,if_true,h1,oW];have h4:wr H id 0 ((O2 xs++c9 (xs.length - (O2 xs).length) 0).map fun n=>b6.d (.int .i64 n))=_:=h2;rw [h4]
def nP (v:Vw)(ns:List D6):List Int:=O2 (O6 (if J4 v.right [] then [B8 v.left ns 0] else [B8 v.left ns 0,B8 v.right ns 0]))
theorem NY (c:n5)(ds:List D6)(ss:List Y0)(n:Int)(hn:n<c.j3.length):Pm A 45 [.ptr 4 0,.d (num n)] (HH c ds ss) lR (.d (ints [])) (HH c ds ss):=by
 suffices h:Pq A 45 [.ptr 4 0,.d (num n)] (HH c ds ss) lR fun w H1=>w= .d (ints [])/\H1=HH c ds ss by
  obtain ⟨w,H1,⟨rfl,rfl⟩,h⟩:=h;exact h
 unfold HH at *
 refine Pq.run (b:=5) [.ptr 4 0,.d (num n),.any,.any,.any] rfl rfl rfl rfl rfl ?_
 repeat' (first|refine mn (h2:= ?_)|refine gx ?_|fail)
 refine tb (C7 n c.j3.length) (fun g1=> ?_) (fun g1=> ?_)
 ·repeat' (first|refine mn (h2:= ?_)|refine gx ?_|fail)
  exact ⟨_,_,rfl,rfl,rfl⟩
 ·have:=z8 g1
  omega
def Zm:H7:=⟨0,5,7,7⟩
theorem RE (a0 a1 a2 a3 a4 a5:z6)(xs ys:List Int)(h:O6 xs=ys)(hb:J9 xs.length 1000000=true:=by rfl):Pm A 42 [.E3 6 1 0 xs.length] [a0,a1,a2,a3,a4,a5,.cells (xs.map iv)] Zm (.tuple []) [a0,a1,a2,a3,a4,a5,.cells (ys.map iv)]:=by
 subst h;exact Pm.gB rfl (wZ rfl rfl rfl hb)
theorem RD (a0 a1 a2 a3 a4 a5:z6)(xs ys:List Int)(h:O2 xs=ys)(hb:J9 xs.length 1000000=true:=by rfl):Pm A 43 [.E3 6 1 0 xs.length] [a0,a1,a2,a3,a4,a5,.cells (xs.map iv)] Zm (.E3 6 1 0 ys.length) [a0,a1,a2,a3,a4,a5,.cells ((ys++c9 (xs.length - ys.length) 0).map iv)]:=by
 subst h;exact Pm.gB rfl (mC rfl rfl rfl hb)
theorem Ub (i j:Int):(O6 [i,j]=[i,i]/\O2 [i,i]=[i])\/(O6 [i,j]=[i,j]/\O2 [i,j]=[i,j])\/(O6 [i,j]=[j,i]/\O2 [j,i]=[j,i]):=by
 rcases Int.lt_trichotomy i j with h|h|h
 ·refine .inr (.inl ⟨?_,?_⟩)
  ·simp only [O6,fA];rw [if_pos (by omega)]
  ·simp only [O2];rw [if_neg (by omega)]
 ·subst h
  refine .inl ⟨?_,?_⟩
  ·simp only [O6,fA];rw [if_pos (by omega)]
  ·simp [O2]
 ·refine .inr (.inr ⟨?_,?_⟩)
  ·simp only [O6,fA];rw [if_neg (by omega)]
  ·simp only [O2];rw [if_neg (by omega)]
set_option maxHeartbeats 4000000 in
theorem NZ (c:n5)(ds:List D6)(ss:List Y0)(n:Int)(hn:c.j3.length<=n)(hn2:n<(n5.ns c))(hvl:c.views.length<=1000):Pm A 45 [.ptr 4 0,.d (num n)] (HH c ds ss) lR (.d (ints (nP (nth c.views (n - c.j3.length).toNat) (ss.map (·.1))))) (HH c ds ss):=by
 have aY:n5.ns c=c.j3.length+c.views.length:=rfl;obtain ⟨v,hv⟩:∃ v,nth c.views (n - c.j3.length).toNat=v:=⟨_,rfl⟩;rw [hv]
 suffices h:Pq A 45 [.ptr 4 0,.d (num n)] (HH c ds ss) lR fun w H1=>w= .d (ints (nP v (ss.map (·.1))))/\H1=HH c ds ss by
  obtain ⟨w,H1,⟨rfl,rfl⟩,h⟩:=h;exact h
 have pL:=lD c ds ss v.left;have pR:=lD c ds ss v.right;unfold HH at *
 refine Pq.run (b:=5) [.ptr 4 0,.d (num n),.any,.any,.any] rfl rfl rfl rfl rfl ?_
 repeat' (first|refine mn (h2:= ?_)|refine gx ?_|fail)
 refine tb (C7 n c.j3.length) (fun g1=> ?_) (fun g1=> ?_)
 ·have:=A4 g1
  omega
 refine gr ?_;refine Ex.region (Rn.z 3 5 [.cells (c.enc.map .d),.cells (c.enc.map .d),.map (dmap ds),.map (S6 (ss.map (·.1)) 0),.cells (c.enc.map .d++[.map 2,.map 3,B4 2 G5 ss]),.dead] rfl rfl (by decide) rfl rfl ?_);refine zm ?_;refine zp (rs:=[]) (.ptr 4 0) rfl ?_;refine zp (rs:=[]) (.ptr 4 0) rfl ?_;refine zp (rs:=[]) (.ptr 4 1) rfl ?_;refine zp (rs:=[4]) (.d (A5 Vw.enc c.views)) rfl ?_;refine zm ?_;refine zm ?_;refine zp (rs:=[]) (.ptr 4 0) rfl ?_;refine zp (rs:=[]) (.ptr 4 0) rfl ?_;refine zp (rs:=[]) (.ptr 4 0) rfl ?_;refine zp (rs:=[4]) (.d (A5 fu.enc c.j3)) rfl ?_;refine zp (rs:=[]) (.d (num c.j3.length)) rfl ?_;refine zsb (c:=n) (d:=c.j3.length) (by omega) ?_;refine zix (xs:=c.views) (enc:=Vw.enc) (e:=n - c.j3.length) (by omega) ?_;refine zle ?_;rw [hv];refine za (h2:= ?_);refine zs (h2:= ?_);refine zn ?_
 repeat' (first|refine c1 pL rfl ?_|refine Uy [iv (B8 v.left (ss.map (·.1)) 0)] rfl ⟨by decide,rfl⟩ (h2:= ?_)|refine gx ?_|fail)
 obtain ⟨i,hi⟩:∃ i,B8 v.left (ss.map (·.1)) 0=i:=⟨_,rfl⟩;obtain ⟨j,hj⟩:∃ j,B8 v.right (ss.map (·.1)) 0=j:=⟨_,rfl⟩;rw [hi] at pL ⊢;rw [hj] at pR;refine tb (!J4 v.right []) (fun g2=> ?_) (fun g2=> ?_)
 ·repeat' (first|refine c1 pR rfl ?_|refine Uy [iv j] rfl ⟨by decide,rfl⟩ (h2:= ?_)|refine apo (m:=1) (len:=1) (k2:=2) (old:=[iv i]) (cs:=[iv j]) (T2:=[.ptr 4 0,.d (num n),.d (.slice 0 []),.ptr 5 0,.any]) (rl2:=[.E3 7 1 0 1,.d (num j),.d (.str v.right),.ptr 5 3,.ptr 4 0,.any]) (H2:=[.cells (c.enc.map .d),.cells (c.enc.map .d),.map (dmap ds),.map (S6 (ss.map (·.1)) 0),.cells (c.enc.map .d++[.map 2,.map 3,B4 2 G5 ss]),.cells (v.enc.map .d),.cells [iv i,iv j],.cells [iv j]]) rfl rfl rfl rfl rfl (h2:= ?_)|refine gx ?_|fail)
  have e1:nP v (ss.map (·.1))=O2 (O6 [i,j]):=by unfold nP;rw [hi,hj];simp only [j5] at g2;rw [g2];rfl
  rcases Ub i j with ⟨h1,h2⟩|⟨h1,h2⟩|⟨h1,h2⟩
  ·repeat' (first|refine c0 (RE _ _ _ _ _ _ [i,j] [i,i] h1) rfl (h2:= ?_)|refine c0 (RD _ _ _ _ _ _ [i,i] [i] h2) rfl (h2:= ?_)|refine gx ?_|fail)
   exact ⟨_,_,rfl,by rw [e1,h1,h2];rfl,rfl⟩
  ·repeat' (first|refine c0 (RE _ _ _ _ _ _ [i,j] [i,j] h1) rfl (h2:= ?_)|refine c0 (RD _ _ _ _ _ _ [i,j] [i,j] h2) rfl (h2:= ?_)|refine gx ?_|fail)
   exact ⟨_,_,rfl,by rw [e1,h1,h2];rfl,rfl⟩
  ·repeat' (first|refine c0 (RE _ _ _ _ _ _ [i,j] [j,i] h1) rfl (h2:= ?_)|refine c0 (RD _ _ _ _ _ _ [j,i] [j,i] h2) rfl (h2:= ?_)|refine gx ?_|fail)
   exact ⟨_,_,rfl,by rw [e1,h1,h2];rfl,rfl⟩
 ·have e1:nP v (ss.map (·.1))=[i]:=by unfold nP;rw [hi,hj];simp only [A7] at g2;rw [g2];rfl
  repeat' (first|refine c0 (RE _ _ _ _ _ _ [i] [i] rfl) rfl (h2:= ?_)|refine c0 (RD _ _ _ _ _ _ [i] [i] rfl) rfl (h2:= ?_)|refine gx ?_|fail)
  exact ⟨_,_,rfl,by rw [e1];rfl,rfl⟩
def Wx (c:n5):List D6:=(A6 c (n5.ns c)).map (·.1)
def ay (c:n5)(n:Int):List Int:=if C7 n c.j3.length then [] else nP (nth c.views (n - c.j3.length).toNat) (Wx c)
theorem VD (c:n5)(ds:List D6)(n:Int)(hn2:n<(n5.ns c))(hvl:c.views.length<=1000):Pm A 45 [.ptr 4 0,.d (num n)] (HH c ds (A6 c (n5.ns c))) lR (.d (ints (ay c n))) (HH c ds (A6 c (n5.ns c))):=by
 unfold ay;cases h:C7 n c.j3.length with
 |true=>exact NY c ds _ n (A4 h)
 |false=>exact NZ c ds _ n (by have:=z8 h;omega) hn2 hvl
theorem ZY (c:n5)(hs:C0 c)(n:Int)(h:P9 c n=false):Pf A 19 [cat c,.d (num n)] (.own 1 0 []):=by
 obtain ⟨v,H1,hp,oV⟩:=mD c hs;have hle:=gj hp;obtain ⟨_,hp1,hp2⟩:=hp;refine Pf.run [cat c,.d (num n),.any,.any,.any,.any] rfl rfl rfl rfl ?_;cases e:o9 (K6 c).2 0 with
 |false =>
  obtain rfl:=hp1 e
  repeat' (first|refine cp oV hle ?_|refine gx ?_|fail)
  refine tB (true) ?_ (fun h1=> ?_) (fun h1=> ?_)
  ·repeat' (first|refine cl (e) ?_|refine gx ?_|refine fk (h1:=fun hw=> ?_) (h2:=fun hw=> ?_)|refine L3 (h1:=fun hw=> ?_) (h2:=fun hw=> ?_)|refine ⟨rfl,rfl,_,rfl,?_⟩|refine ⟨rfl,rfl⟩|fail)
   all_goals exact cc
  ·refine gr ?_
   exact ⟨_,rfl,rfl⟩
  ·cases h1
 |true =>
  obtain ⟨rfl,rfl⟩:=hp2 e;have sR:=BY c c.names (A6 c (n5.ns c)) n;rw [C8] at sR;have h2:(W6 0 n&&C7 n (n5.ns c))=false:=by unfold P9 K7 at h;rw [e] at h;exact h
  rw [h2] at sR
  repeat' (first|refine cp oV hle ?_|refine gx ?_|fail)
  refine tB (true) ?_ (fun h1=> ?_) (fun h1=> ?_)
  ·repeat' (first|refine ck sR ?_|refine gx ?_|refine fk (h1:=fun hw=> ?_) (h2:=fun hw=> ?_)|refine L3 (h1:=fun hw=> ?_) (h2:=fun hw=> ?_)|refine ⟨rfl,rfl,_,rfl,?_⟩|refine ⟨rfl,rfl⟩|fail)
   all_goals exact cc
  ·refine gr ?_
   exact ⟨_,rfl,rfl⟩
  ·cases h1
theorem TK (c:n5)(hs:C0 c)(n:Int)(h:P9 c n=true):Pf A 19 [cat c,.d (num n)] (.d (ints (ay c n))):=by
 obtain ⟨v,H1,hp,oV⟩:=mD c hs;have hle:=gj hp;obtain ⟨_,hp1,hp2⟩:=hp;obtain ⟨e,h2,h3⟩:=bT h;obtain ⟨rfl,rfl⟩:=hp2 e;have h4:=HN c h3;have h6:=C8 c (n5.ns c);have sR:=BY c c.names (A6 c (n5.ns c)) n;rw [C8,h2] at sR;refine Pf.run [cat c,.d (num n),.any,.any,.any,.any] rfl rfl rfl rfl ?_
 repeat' (first|refine cp oV hle ?_|refine gx ?_|fail)
 have p45:=VD c c.names n h3.2 hs.sm.fq.2.1;refine tB (false) ?_ (fun h1=> ?_) (fun h1=> ?_)
 ·repeat' (first|refine ck sR ?_|refine gx ?_|refine fk (h1:=fun hw=> ?_) (h2:=fun hw=> ?_)|refine L3 (h1:=fun hw=> ?_) (h2:=fun hw=> ?_)|refine ⟨rfl,rfl,_,rfl,?_⟩|refine ⟨rfl,rfl⟩|fail)
  all_goals exact cc
 ·cases h1
 repeat' (first|refine ck p45 ?_|refine gx ?_|fail)
 exact ⟨_,rfl,rfl⟩
end Go.Proofs.YtkmclibmmlgogaaGreat
namespace Go.Proofs.YtkmclibmmlgogaaGreat.dK
open Go.z7 Go.z7.S
attribute [local irreducible] Rx Ry Rn Ex Pf
variable [Inhabited XO]
theorem ck {b:Nat}{dr:Bool}{j4 ops:List n9}{T:List b6}{n:Nat}{rl:List b6}{n7:List z7.Touch}{Q:List b6->o6->List b6->Prop}{c:n5}{ds:List D6}{ss:List Y0}{R:o6}{f:FuncId}{xs:List u5}{u:List Nat}{v:b6}{args:List b6}(hc:Pm A f args (HH c ds ss) lR v (HH c ds ss))(h2:Ry A cU b dr j4 ops T (HH c ds ss++R) (n+1) (v::rl) n7 Q)
  (ha:xs.map (rq T n rl)=args:=by rfl) (hb:A9 args=6:=by rfl) (dM:A.prom f=false:=by rfl) (hm:A.mode f=1:=by rfl):Ry A cU b dr j4 (⟨.call f xs,none,none,u⟩::ops) T (HH c ds ss++R) n rl n7 Q:=by
 have Lg:=vm c ds ss;have QU:=pU c ds ss;refine c1 hc rfl h2 (m:=6) ?_ ?_ rfl rfl ?_ ha dM hm
 ·show Y2 (HH c ds ss)<=6
  exact Lg
 ·rw [hb]
  exact fT (by show Y2 (HH c ds ss)<=6;exact Lg)
 ·show H7.mk 0 6 6 (C5 _ 0 6)=lR
  rw [rA (by show P3 (HH c ds ss) 0=true;exact QU)];rfl
end Go.Proofs.YtkmclibmmlgogaaGreat.dK
namespace Go.Proofs.YtkmclibmmlgogaaGreat.dK
open Go.z7 Go.z7.S
attribute [local irreducible] Rx Ry Rn Ex Pf
variable [Inhabited XO]
theorem NY (c:n5)(ds:List D6)(ss:List Y0)(n:Int)(hn:n<c.j3.length):Pm A 45 [.ptr 5 0,.d (num n)] (HH c ds ss) lR (.d (ints [])) (HH c ds ss):=by
 suffices h:Pq A 45 [.ptr 5 0,.d (num n)] (HH c ds ss) lR fun w H1=>w= .d (ints [])/\H1=HH c ds ss by
  obtain ⟨w,H1,⟨rfl,rfl⟩,h⟩:=h;exact h
 unfold HH at *
 refine Pq.run (b:=6) [.ptr 5 0,.d (num n),.any,.any,.any] rfl rfl rfl rfl rfl ?_
 repeat' (first|refine mn (h2:= ?_)|refine gx ?_|fail)
 refine tb (C7 n c.j3.length) (fun g1=> ?_) (fun g1=> ?_)
 ·repeat' (first|refine mn (h2:= ?_)|refine gx ?_|fail)
  exact ⟨_,_,rfl,rfl,rfl⟩
 ·have:=z8 g1
  omega
def Zm:H7:=⟨0,6,8,8⟩
theorem RE (a0 ax a1 a2 a3 a4 a5:z6)(xs ys:List Int)(h:O6 xs=ys)(hb:J9 xs.length 1000000=true:=by rfl):Pm A 42 [.E3 7 1 0 xs.length] [a0,ax,a1,a2,a3,a4,a5,.cells (xs.map iv)] Zm (.tuple []) [a0,ax,a1,a2,a3,a4,a5,.cells (ys.map iv)]:=by
 have _x:=(default:XO);subst h;exact Pm.gB rfl (wZ rfl rfl rfl hb)
theorem RD (a0 ax a1 a2 a3 a4 a5:z6)(xs ys:List Int)(h:O2 xs=ys)(hb:J9 xs.length 1000000=true:=by rfl):Pm A 43 [.E3 7 1 0 xs.length] [a0,ax,a1,a2,a3,a4,a5,.cells (xs.map iv)] Zm (.E3 7 1 0 ys.length) [a0,ax,a1,a2,a3,a4,a5,.cells ((ys++c9 (xs.length - ys.length) 0).map iv)]:=by
 have _x:=(default:XO);subst h;exact Pm.gB rfl (mC rfl rfl rfl hb)
set_option maxHeartbeats 4000000 in
theorem NZ (c:n5)(ds:List D6)(ss:List Y0)(n:Int)(hn:c.j3.length<=n)(hn2:n<(n5.ns c))(hvl:c.views.length<=1000):Pm A 45 [.ptr 5 0,.d (num n)] (HH c ds ss) lR (.d (ints (nP (nth c.views (n - c.j3.length).toNat) (ss.map (·.1))))) (HH c ds ss):=by
 have aY:n5.ns c=c.j3.length+c.views.length:=rfl;obtain ⟨v,hv⟩:∃ v,nth c.views (n - c.j3.length).toNat=v:=⟨_,rfl⟩;rw [hv]
 suffices h:Pq A 45 [.ptr 5 0,.d (num n)] (HH c ds ss) lR fun w H1=>w= .d (ints (nP v (ss.map (·.1))))/\H1=HH c ds ss by
  obtain ⟨w,H1,⟨rfl,rfl⟩,h⟩:=h;exact h
 have pL:=lD c ds ss v.left;have pR:=lD c ds ss v.right;unfold HH at *
 refine Pq.run (b:=6) [.ptr 5 0,.d (num n),.any,.any,.any] rfl rfl rfl rfl rfl ?_
 repeat' (first|refine mn (h2:= ?_)|refine gx ?_|fail)
 refine tb (C7 n c.j3.length) (fun g1=> ?_) (fun g1=> ?_)
 ·have:=A4 g1
  omega
 refine gr ?_;refine Ex.region (Rn.z 3 6 [.cells (c.enc.map .d),xo,.cells (c.enc.map .d),.map (dmap ds),.map (S6 (ss.map (·.1)) 0),.cells (c.enc.map .d++[.map 3,.map 4,B4 2 G5 ss]),.dead] rfl rfl (by decide) rfl rfl ?_);refine zm ?_;refine zp (rs:=[]) (.ptr 5 0) rfl ?_;refine zp (rs:=[]) (.ptr 5 0) rfl ?_;refine zp (rs:=[]) (.ptr 5 1) rfl ?_;refine zp (rs:=[5]) (.d (A5 Vw.enc c.views)) rfl ?_;refine zm ?_;refine zm ?_;refine zp (rs:=[]) (.ptr 5 0) rfl ?_;refine zp (rs:=[]) (.ptr 5 0) rfl ?_;refine zp (rs:=[]) (.ptr 5 0) rfl ?_;refine zp (rs:=[5]) (.d (A5 fu.enc c.j3)) rfl ?_;refine zp (rs:=[]) (.d (num c.j3.length)) rfl ?_;refine zsb (c:=n) (d:=c.j3.length) (by omega) ?_;refine zix (xs:=c.views) (enc:=Vw.enc) (e:=n - c.j3.length) (by omega) ?_;refine zle ?_;rw [hv];refine za (h2:= ?_);refine zs (h2:= ?_);refine zn ?_
 repeat' (first|refine c1 pL rfl ?_|refine Uy [iv (B8 v.left (ss.map (·.1)) 0)] rfl ⟨by decide,rfl⟩ (h2:= ?_)|refine gx ?_|fail)
 obtain ⟨i,hi⟩:∃ i,B8 v.left (ss.map (·.1)) 0=i:=⟨_,rfl⟩;obtain ⟨j,hj⟩:∃ j,B8 v.right (ss.map (·.1)) 0=j:=⟨_,rfl⟩;rw [hi] at pL ⊢;rw [hj] at pR;refine tb (!J4 v.right []) (fun g2=> ?_) (fun g2=> ?_)
 ·repeat' (first|refine c1 pR rfl ?_|refine Uy [iv j] rfl ⟨by decide,rfl⟩ (h2:= ?_)|refine apo (m:=1) (len:=1) (k2:=2) (old:=[iv i]) (cs:=[iv j]) (T2:=[.ptr 5 0,.d (num n),.d (.slice 0 []),.ptr 6 0,.any]) (rl2:=[.E3 8 1 0 1,.d (num j),.d (.str v.right),.ptr 6 3,.ptr 5 0,.any]) (H2:=[.cells (c.enc.map .d),xo,.cells (c.enc.map .d),.map (dmap ds),.map (S6 (ss.map (·.1)) 0),.cells (c.enc.map .d++[.map 3,.map 4,B4 2 G5 ss]),.cells (v.enc.map .d),.cells [iv i,iv j],.cells [iv j]]) rfl rfl rfl rfl rfl (h2:= ?_)|refine gx ?_|fail)
  have e1:nP v (ss.map (·.1))=O2 (O6 [i,j]):=by unfold nP;rw [hi,hj];simp only [j5] at g2;rw [g2];rfl
  rcases Ub i j with ⟨h1,h2⟩|⟨h1,h2⟩|⟨h1,h2⟩
  ·repeat' (first|refine c0 (RE _ _ _ _ _ _ _ [i,j] [i,i] h1) rfl (h2:= ?_)|refine c0 (RD _ _ _ _ _ _ _ [i,i] [i] h2) rfl (h2:= ?_)|refine gx ?_|fail)
   exact ⟨_,_,rfl,by rw [e1,h1,h2];rfl,rfl⟩
  ·repeat' (first|refine c0 (RE _ _ _ _ _ _ _ [i,j] [i,j] h1) rfl (h2:= ?_)|refine c0 (RD _ _ _ _ _ _ _ [i,j] [i,j] h2) rfl (h2:= ?_)|refine gx ?_|fail)
   exact ⟨_,_,rfl,by rw [e1,h1,h2];rfl,rfl⟩
  ·repeat' (first|refine c0 (RE _ _ _ _ _ _ _ [i,j] [j,i] h1) rfl (h2:= ?_)|refine c0 (RD _ _ _ _ _ _ _ [j,i] [j,i] h2) rfl (h2:= ?_)|refine gx ?_|fail)
   exact ⟨_,_,rfl,by rw [e1,h1,h2];rfl,rfl⟩
 ·have e1:nP v (ss.map (·.1))=[i]:=by unfold nP;rw [hi,hj];simp only [A7] at g2;rw [g2];rfl
  repeat' (first|refine c0 (RE _ _ _ _ _ _ _ [i] [i] rfl) rfl (h2:= ?_)|refine c0 (RD _ _ _ _ _ _ _ [i] [i] rfl) rfl (h2:= ?_)|refine gx ?_|fail)
  exact ⟨_,_,rfl,by rw [e1];rfl,rfl⟩
end Go.Proofs.YtkmclibmmlgogaaGreat.dK
namespace Go.Proofs.YtkmclibmmlgogaaGreat.dK
open Go.z7 Go.z7.S
attribute [local irreducible] Rx Ry Rn Ex Pf
variable [Inhabited XO]
theorem VD (c:n5)(ds:List D6)(n:Int)(hn2:n<(n5.ns c))(hvl:c.views.length<=1000):Pm A 45 [.ptr 5 0,.d (num n)] (HH c ds (A6 c (n5.ns c))) lR (.d (ints (ay c n))) (HH c ds (A6 c (n5.ns c))):=by
 unfold ay;cases h:C7 n c.j3.length with
 |true=>exact NY c ds _ n (A4 h)
 |false=>exact NZ c ds _ n (by have:=z8 h;omega) hn2 hvl
end Go.Proofs.YtkmclibmmlgogaaGreat.dK
namespace Go.Proofs.YtkmclibmmlgogaaGreat
open Go.z7 Go.z7.S
attribute [local irreducible] Rx Ry Rn Ex Pf
def QC (c:n5)(s:D6):Int:=if K7 c then B8 s (Wx c) 0 else -1
theorem Vy (c:n5)(hs:C0 c)(s:D6):Pf A 25 [cat c,.d (.str s)] (.d (num (QC c s))):=by
 letI:Inhabited dK.XO:=⟨⟨0⟩⟩
 obtain ⟨v,H1,hp,oV⟩:=dK.mD c hs;have hle:=dK.gj hp;obtain ⟨⟨R,hR⟩,hp1,hp2⟩:=hp;refine Pf.run [cat c,.d (.str s),.any,.any,.any,.any] rfl rfl rfl rfl ?_;cases e:o9 (K6 c).2 0 with
 |false =>
  obtain rfl:=hp1 e;subst hR
  repeat' (first|refine dfl ?_|refine cp oV hle ?_|refine gx ?_|fail)
  refine tB (true) ?_ (fun h1=> ?_) (fun h1=> ?_)
  ·repeat' (first|refine cl (e) ?_|refine gx ?_|refine fk (h1:=fun hw=> ?_) (h2:=fun hw=> ?_)|refine L3 (h1:=fun hw=> ?_) (h2:=fun hw=> ?_)|refine ⟨rfl,rfl,_,rfl,?_⟩|refine ⟨rfl,rfl⟩|fail)
   all_goals exact cc
  ·refine gr ?_
   exact ⟨_,rfl,by unfold QC K7;rw [e];rfl⟩
  ·cases h1
 |true =>
  obtain ⟨rfl,hH⟩:=hp2 e;have Rw:=dK.lD c c.names (A6 c (n5.ns c)) s;subst hH
  repeat' (first|refine dfl ?_|refine cp oV hle ?_|refine gx ?_|fail)
  refine tB (false) ?_ (fun h1=> ?_) (fun h1=> ?_)
  ·repeat' (first|refine cl (e) ?_|refine gx ?_|refine fk (h1:=fun hw=> ?_) (h2:=fun hw=> ?_)|refine L3 (h1:=fun hw=> ?_) (h2:=fun hw=> ?_)|refine ⟨rfl,rfl,_,rfl,?_⟩|refine ⟨rfl,rfl⟩|fail)
   all_goals exact cc
  ·cases h1
  repeat' (first|refine dK.ck Rw ?_|refine gx ?_|fail)
  exact ⟨_,rfl,by unfold QC K7;rw [e];rfl⟩
end Go.Proofs.YtkmclibmmlgogaaGreat


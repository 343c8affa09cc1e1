/- Texts D43 D44 D45 D46 D44w D45w D46w D47 (made short by a program) -/
import Derived.Test.YtkmclibmmlgogaaGreatW2
set_option linter.unusedVariables false
set_option linter.unusedSimpArgs false
open Bool renaming and_eq_true → b5, false_eq_true → b7, not_eq_false' → A9, not_eq_true' → j5
open List renaming drop_of_length_le → k9, replicate → c9, take_of_length_le → q5
open Nat renaming ble → L3, le_refl → n5, lt_or_ge → u9
namespace Go.Proofs.YtkmclibmmlgogaaGreat
open Go.y3 Go.y3.S
attribute [local irreducible] Rx Ry Rn Ex Pf
theorem qE (c:m8):∀ k i,(br c k i).2=0->br c k i=(0,0)/\∀ m,i<=m->m<i+k->K7 c m=0
 |0,i,_=>⟨rfl,fun m h1 h2=>absurd h1 (by omega)⟩
 |k+1,i,h=>by
  rw [br] at h ⊢;cases e:o9 (K7 c i) 0 with
  |false =>
   simp only [e,Bool.not_false,if_true] at h;exact absurd h (mz e)
  |true =>
   simp only [e,Bool.not_true,b7,if_false] at h ⊢;obtain ⟨h1,h2⟩:=qE c k (i+1) h;refine ⟨h1,fun m g1 g2=> ?_⟩
   rcases u9 i m with g3|g3
   ·exact h2 m g3 (by omega)
   ·obtain rfl:m=i:=by omega
    exact X2 e
theorem Ax {c:m8}(h:(L1 c).2=0):(L1 c).1=0/\tooMany c=false/\bW c c.names.length:=by
 unfold L1 at h ⊢;cases e:tooMany c with
 |true=>rw [e] at h;simp at h
 |false =>
  rw [e] at h;simp only [b7,if_false] at h ⊢;obtain ⟨h1,h2⟩:=qE c _ _ h;exact ⟨by rw [h1],trivial,fun m hm=>h2 m (by omega) (by omega)⟩
theorem On {c:m8}{fds:List D8}{Ib:List Y4}{v:b6}{H1:o6}(h:iD c fds Ib v H1):v= .tuple [.d .cD,.d (num (L1 c).1),.d (num (L1 c).2)]\/v= .tuple [.ptr 4 0,.d (num (L1 c).1),.d (num (L1 c).2)]:=by
 obtain ⟨_,h1,h2⟩:=h;cases e:o9 (L1 c).2 0 with
 |false=>exact .inl (h1 e)
 |true =>
  refine .inr ((h2 e).1.trans ?_);rw [X2 e,(Ax (X2 e)).1]
def J3 (c:m8):Bool:=o9 (L1 c).2 0
theorem PX (c:m8)(hs:B6 c):Pf A 10 [cat c] (.d (.bool (J3 c))):=by
 obtain ⟨v,H1,hp,pQ⟩:=mT c hs;have hle:=gH hp;refine Pf.run [cat c,.any,.any,.any] rfl rfl rfl rfl ?_
 rcases On hp with rfl|rfl
 ·repeat' (first|refine cp pQ hle ?_|refine gx ?_|fail)
  exact ⟨_,rfl,rfl⟩
 ·repeat' (first|refine cp pQ hle ?_|refine gx ?_|fail)
  exact ⟨_,rfl,rfl⟩
theorem ck {b:Nat}{dr:Bool}{j4 ops:List n8}{T:List b6}{n:Nat}{rl:List b6}{n6:List y3.Touch}{Q:List b6->o6->List b6->Prop}{c:m8}{ds:List D8}{ss:List Y4}{R:o6}{f:FuncId}{xs:List q7}{u:List Nat}{v:b6}{args:List b6}(hc:Pm A f args (HH c ds ss) lR v (HH c ds ss))(h2:Ry A cB b dr j4 ops T (HH c ds ss++R) (n+1) (v::rl) n6 Q)
  (ha:xs.map (rq T n rl)=args:=by rfl) (hb:A4 args=5:=by rfl) (fR:A.prom f=false:=by rfl) (hm:A.mode f=1:=by rfl):Ry A cB b dr j4 (⟨.call f xs,none,none,u⟩::ops) T (HH c ds ss++R) n rl n6 Q:=by
 have MM:=wz c ds ss;have Tl:=qq c ds ss;refine c1 hc rfl h2 (m:=5) ?_ ?_ rfl rfl ?_ ha fR hm
 ·show Y6 (HH c ds ss)<=5
  exact MM
 ·rw [hb]
  exact gu (by show Y6 (HH c ds ss)<=5;exact MM)
 ·show G9.mk 0 5 5 (C8 _ 0 5)=lR
  rw [rV (by show P8 (HH c ds ss) 0=true;exact Tl)];rfl
def P9 (c:m8)(n:Int):Bool:=J3 c&&(W8 0 n&&C9 n (m8.ns c))
theorem Ja (c:m8){n:Int}(h:0<=n/\n<(m8.ns c)):nth (A0 c (m8.ns c)) n.toNat=nj c n.toNat:=M0 c (by omega)
theorem cq {c:m8}{n:Int}(h:P9 c n=true):o9 (L1 c).2 0=true/\(W8 0 n&&C9 n (m8.ns c))=true/\0<=n/\n<(m8.ns c):=by
 unfold P9 J3 at h;rw [b5] at h;exact ⟨h.1,h.2,by simpa [p4,p5] using h.2⟩
theorem Vs (c:m8)(hs:B6 c)(n:Int)(h:P9 c n=false):Pf A 14 [cat c,.d (num n)] (.own 1 0 []):=by
 obtain ⟨v,H1,hp,pQ⟩:=mT c hs;have hle:=gH hp;obtain ⟨_,hp1,hp2⟩:=hp;refine Pf.run [cat c,.d (num n),.any,.any,.any,.any] rfl rfl rfl rfl ?_;cases e:o9 (L1 c).2 0 with
 |false =>
  obtain rfl:=hp1 e
  repeat' (first|refine cp pQ hle ?_|refine gx ?_|fail)
  refine tB (true) ?_ (fun h1=> ?_) (fun h1=> ?_)
  ·repeat' (first|refine cl (e) ?_|refine gx ?_|refine fk (h1:=fun hw=> ?_) (h2:=fun hw=> ?_)|refine L7 (h1:=fun hw=> ?_) (h2:=fun hw=> ?_)|refine ⟨rfl,rfl,_,rfl,?_⟩|refine ⟨rfl,rfl⟩|fail)
   all_goals exact cc
  ·refine gr ?_
   exact ⟨_,rfl,rfl⟩
  ·cases h1
 |true =>
  obtain ⟨rfl,rfl⟩:=hp2 e;have tG:=CZ c c.names (A0 c (m8.ns c)) n;rw [D0] at tG;have h2:(W8 0 n&&C9 n (m8.ns c))=false:=by unfold P9 J3 at h;rw [e] at h;exact h
  rw [h2] at tG
  repeat' (first|refine cp pQ hle ?_|refine gx ?_|fail)
  refine tB (true) ?_ (fun h1=> ?_) (fun h1=> ?_)
  ·repeat' (first|refine ck tG ?_|refine gx ?_|refine fk (h1:=fun hw=> ?_) (h2:=fun hw=> ?_)|refine L7 (h1:=fun hw=> ?_) (h2:=fun hw=> ?_)|refine ⟨rfl,rfl,_,rfl,?_⟩|refine ⟨rfl,rfl⟩|fail)
   all_goals exact cc
  ·refine gr ?_
   exact ⟨_,rfl,rfl⟩
  ·cases h1
theorem Vt (c:m8)(hs:B6 c)(n:Int)(h:P9 c n=true):Pf A 14 [cat c,.d (num n)] (.d (z6 encS (wY c n.toNat))):=by
 obtain ⟨v,H1,hp,pQ⟩:=mT c hs;have hle:=gH hp;obtain ⟨_,hp1,hp2⟩:=hp;obtain ⟨e,h2,h3⟩:=cq h;obtain ⟨rfl,rfl⟩:=hp2 e;have h4:=Ja c h3;have h6:=D0 c (m8.ns c);have tG:=CZ c c.names (A0 c (m8.ns c)) n;rw [D0,h2] at tG;refine Pf.run [cat c,.d (num n),.any,.any,.any,.any] rfl rfl rfl rfl ?_
 repeat' (first|refine cp pQ hle ?_|refine gx ?_|fail)
 refine tB (false) ?_ (fun h1=> ?_) (fun h1=> ?_)
 ·repeat' (first|refine ck tG ?_|refine gx ?_|refine fk (h1:=fun hw=> ?_) (h2:=fun hw=> ?_)|refine L7 (h1:=fun hw=> ?_) (h2:=fun hw=> ?_)|refine ⟨rfl,rfl,_,rfl,?_⟩|refine ⟨rfl,rfl⟩|fail)
  all_goals exact cc
 ·cases h1
 refine gr ?_;exact ⟨_,rfl,by rw [h4];rfl⟩
theorem Vz (c:m8)(hs:B6 c)(n:Int)(h:P9 c n=false):Pf A 15 [cat c,.d (num n)] (.own 1 0 []):=by
 obtain ⟨v,H1,hp,pQ⟩:=mT c hs;have hle:=gH hp;obtain ⟨_,hp1,hp2⟩:=hp;refine Pf.run [cat c,.d (num n),.any,.any,.any,.any] rfl rfl rfl rfl ?_;cases e:o9 (L1 c).2 0 with
 |false =>
  obtain rfl:=hp1 e
  repeat' (first|refine cp pQ hle ?_|refine gx ?_|fail)
  refine tB (true) ?_ (fun h1=> ?_) (fun h1=> ?_)
  ·repeat' (first|refine cl (e) ?_|refine gx ?_|refine fk (h1:=fun hw=> ?_) (h2:=fun hw=> ?_)|refine L7 (h1:=fun hw=> ?_) (h2:=fun hw=> ?_)|refine ⟨rfl,rfl,_,rfl,?_⟩|refine ⟨rfl,rfl⟩|fail)
   all_goals exact cc
  ·refine gr ?_
   exact ⟨_,rfl,rfl⟩
  ·cases h1
 |true =>
  obtain ⟨rfl,rfl⟩:=hp2 e;have tG:=CZ c c.names (A0 c (m8.ns c)) n;rw [D0] at tG;have h2:(W8 0 n&&C9 n (m8.ns c))=false:=by unfold P9 J3 at h;rw [e] at h;exact h
  rw [h2] at tG
  repeat' (first|refine cp pQ hle ?_|refine gx ?_|fail)
  refine tB (true) ?_ (fun h1=> ?_) (fun h1=> ?_)
  ·repeat' (first|refine ck tG ?_|refine gx ?_|refine fk (h1:=fun hw=> ?_) (h2:=fun hw=> ?_)|refine L7 (h1:=fun hw=> ?_) (h2:=fun hw=> ?_)|refine ⟨rfl,rfl,_,rfl,?_⟩|refine ⟨rfl,rfl⟩|fail)
   all_goals exact cc
  ·refine gr ?_
   exact ⟨_,rfl,rfl⟩
  ·cases h1
theorem VA (c:m8)(hs:B6 c)(n:Int)(h:P9 c n=true):Pf A 15 [cat c,.d (num n)] (.d (ints (R3 c n.toNat))):=by
 obtain ⟨v,H1,hp,pQ⟩:=mT c hs;have hle:=gH hp;obtain ⟨_,hp1,hp2⟩:=hp;obtain ⟨e,h2,h3⟩:=cq h;obtain ⟨rfl,rfl⟩:=hp2 e;have h4:=Ja c h3;have h6:=D0 c (m8.ns c);have tG:=CZ c c.names (A0 c (m8.ns c)) n;rw [D0,h2] at tG;refine Pf.run [cat c,.d (num n),.any,.any,.any,.any] rfl rfl rfl rfl ?_
 repeat' (first|refine cp pQ hle ?_|refine gx ?_|fail)
 refine tB (false) ?_ (fun h1=> ?_) (fun h1=> ?_)
 ·repeat' (first|refine ck tG ?_|refine gx ?_|refine fk (h1:=fun hw=> ?_) (h2:=fun hw=> ?_)|refine L7 (h1:=fun hw=> ?_) (h2:=fun hw=> ?_)|refine ⟨rfl,rfl,_,rfl,?_⟩|refine ⟨rfl,rfl⟩|fail)
  all_goals exact cc
 ·cases h1
 refine gr ?_;exact ⟨_,rfl,by rw [h4];rfl⟩
def iv (n:Int):b6:= .d (num n)
theorem pT:∀ xs:List Int,iH (xs.map iv)=some xs
 |[]=>rfl
 |x::xs=>by
  have:=pT xs;simp only [List.map_cons,iv,num,iH];rw [this]
theorem jS:∀ xs:List Int,(Q6 xs).length=xs.length
 |[]=>rfl
 |x::xs=>by
  have h:∀ l:List Int,(iu x l).length=l.length+1:=fun l=>by
   induction l with
   |nil=>rfl
   |cons y l ih=>simp only [iu];split<;>simp [ih]
  simp [Q6,h,jS xs]
theorem me:∀ xs:List Int,(Q4 xs).length<=xs.length
 |[]=>n5 _
 |[x]=>n5 _
 |x::y::l=>by
  have:=me (y::l);simp only [Q4];split<;>simp at this ⊢<;>omega
theorem Rq {H:o6}{id:Nat}{old vs:List b6}(ho:H[id]? =some (.cells old))(hl:vs.length=old.length):wr H id 0 vs=some (H.set id (.cells vs)):=by
 simp [wr,ho,hl,splice,k9]
theorem Qv {H:o6}{id len:Nat}{old:List b6}(ho:H[id]? =some (.cells old))(hl:old.length=len):rd H id 0 len=some old:=by
 simp [rd,ho,hl,q5]
theorem xZ {H:o6}{id len:Nat}{l:G9}{xs:List Int}(hm:l.may id=true)(ho:H[id]? =some (.cells (xs.map iv)))(hl:xs.length=len)(hb:L3 len 1000000=true:=by rfl):xY [.D4 id 1 0 len] H l=some (.tuple [],H.set id (.cells ((Q6 xs).map iv))):=by
 have h1:=Qv (len:=len) ho (by simp [hl]);have h2:=Rq (vs:=(Q6 xs).map iv) ho (by simp [jS]);simp only [xY,hm,hb,Bool.and_self,if_true,h1,pT];rw [show ((Q6 xs).map fun n=>b6.d (.int .i64 n))=(Q6 xs).map iv from rfl,h2]
theorem mS {H:o6}{id len:Nat}{l:G9}{xs:List Int}(hm:l.may id=true)(ho:H[id]? =some (.cells (xs.map iv)))(hl:xs.length=len)(hb:L3 len 1000000=true:=by rfl) :
  gQ [.D4 id 1 0 len] H l=some (.D4 id 1 0 (Q4 xs).length,H.set id (.cells ((Q4 xs++c9 (xs.length - (Q4 xs).length) 0).map iv))):=by
 have h1:=Qv (len:=len) ho (by simp [hl]);have h3:=me xs;have h2:=Rq (vs:=(Q4 xs++c9 (xs.length - (Q4 xs).length) 0).map iv) ho (by simp;omega);simp only [gQ,hm,hb,Bool.and_self,if_true,h1,pT];have h4:wr H id 0 ((Q4 xs++c9 (xs.length - (Q4 xs).length) 0).map fun n=>b6.d (.int .i64 n))=_:=h2;rw [h4]
def ov (v:Vw)(ns:List D8):List Int:=Q4 (Q6 (if J2 v.right [] then [C0 v.left ns 0] else [C0 v.left ns 0,C0 v.right ns 0]))
theorem Ql (c:m8)(ds:List D8)(ss:List Y4)(n:Int)(hn:n<c.j3.length):Pm A 45 [.ptr 4 0,.d (num n)] (HH c ds ss) lR (.d (ints [])) (HH c ds ss):=by
 suffices h:Pq A 45 [.ptr 4 0,.d (num n)] (HH c ds ss) lR fun w H1=>w= .d (ints [])/\H1=HH c ds ss by
  obtain ⟨w,H1,⟨rfl,rfl⟩,h⟩:=h;exact h
 unfold HH at *
 refine Pq.run (b:=5) [.ptr 4 0,.d (num n),.any,.any,.any] rfl rfl rfl rfl rfl ?_
 repeat' (first|refine mn (h2:= ?_)|refine gx ?_|fail)
 refine tb (C9 n c.j3.length) (fun g1=> ?_) (fun g1=> ?_)
 ·repeat' (first|refine mn (h2:= ?_)|refine gx ?_|fail)
  exact ⟨_,_,rfl,rfl,rfl⟩
 ·have:=y8 g1
  omega
def l57:G9:=⟨0,5,7,7⟩
theorem TP (a0 a1 a2 a3 a4 a5:y7)(xs ys:List Int)(h:Q6 xs=ys)(hb:L3 xs.length 1000000=true:=by rfl):Pm A 42 [.D4 6 1 0 xs.length] [a0,a1,a2,a3,a4,a5,.cells (xs.map iv)] l57 (.tuple []) [a0,a1,a2,a3,a4,a5,.cells (ys.map iv)]:=by
 subst h;exact Pm.gS rfl (xZ rfl rfl rfl hb)
theorem TN (a0 a1 a2 a3 a4 a5:y7)(xs ys:List Int)(h:Q4 xs=ys)(hb:L3 xs.length 1000000=true:=by rfl):Pm A 43 [.D4 6 1 0 xs.length] [a0,a1,a2,a3,a4,a5,.cells (xs.map iv)] l57 (.D4 6 1 0 ys.length) [a0,a1,a2,a3,a4,a5,.cells ((ys++c9 (xs.length - ys.length) 0).map iv)]:=by
 subst h;exact Pm.gS rfl (mS rfl rfl rfl hb)
theorem VW (i j:Int):(Q6 [i,j]=[i,i]/\Q4 [i,i]=[i])\/(Q6 [i,j]=[i,j]/\Q4 [i,j]=[i,j])\/(Q6 [i,j]=[j,i]/\Q4 [j,i]=[j,i]):=by
 rcases Int.lt_trichotomy i j with h|h|h
 ·refine .inr (.inl ⟨?_,?_⟩)
  ·simp only [Q6,iu];rw [if_pos (by omega)]
  ·simp only [Q4];rw [if_neg (by omega)]
 ·subst h
  refine .inl ⟨?_,?_⟩
  ·simp only [Q6,iu];rw [if_pos (by omega)]
  ·simp [Q4]
 ·refine .inr (.inr ⟨?_,?_⟩)
  ·simp only [Q6,iu];rw [if_neg (by omega)]
  ·simp only [Q4];rw [if_neg (by omega)]
set_option maxHeartbeats 4000000 in
theorem Qm (c:m8)(ds:List D8)(ss:List Y4)(n:Int)(hn:c.j3.length<=n)(hn2:n<(m8.ns c))(hvl:c.views.length<=1000):Pm A 45 [.ptr 4 0,.d (num n)] (HH c ds ss) lR (.d (ints (ov (nth c.views (n - c.j3.length).toNat) (ss.map (·.1))))) (HH c ds ss):=by
 have cz:m8.ns c=c.j3.length+c.views.length:=rfl;obtain ⟨v,hv⟩:∃ v,nth c.views (n - c.j3.length).toNat=v:=⟨_,rfl⟩;rw [hv]
 suffices h:Pq A 45 [.ptr 4 0,.d (num n)] (HH c ds ss) lR fun w H1=>w= .d (ints (ov v (ss.map (·.1))))/\H1=HH c ds ss by
  obtain ⟨w,H1,⟨rfl,rfl⟩,h⟩:=h;exact h
 have pL:=lN c ds ss v.left;have pR:=lN c ds ss v.right;unfold HH at *
 refine Pq.run (b:=5) [.ptr 4 0,.d (num n),.any,.any,.any] rfl rfl rfl rfl rfl ?_
 repeat' (first|refine mn (h2:= ?_)|refine gx ?_|fail)
 refine tb (C9 n c.j3.length) (fun g1=> ?_) (fun g1=> ?_)
 ·have:=y9 g1
  omega
 refine gr ?_;refine Ex.region (Rn.z 3 5 [.cells (c.enc.map .d),.cells (c.enc.map .d),.map (dmap ds),.map (T3 (ss.map (·.1)) 0),.cells (c.enc.map .d++[.map 2,.map 3,B3 2 F9 ss]),.dead] rfl rfl (by decide) rfl rfl ?_);refine zm ?_;refine zp (rs:=[]) (.ptr 4 0) rfl ?_;refine zp (rs:=[]) (.ptr 4 0) rfl ?_;refine zp (rs:=[]) (.ptr 4 1) rfl ?_;refine zp (rs:=[4]) (.d (z6 Vw.enc c.views)) rfl ?_;refine zm ?_;refine zm ?_;refine zp (rs:=[]) (.ptr 4 0) rfl ?_;refine zp (rs:=[]) (.ptr 4 0) rfl ?_;refine zp (rs:=[]) (.ptr 4 0) rfl ?_;refine zp (rs:=[4]) (.d (z6 eZ.enc c.j3)) rfl ?_;refine zp (rs:=[]) (.d (num c.j3.length)) rfl ?_;refine zsb (c:=n) (d:=c.j3.length) (by omega) ?_;refine zix (xs:=c.views) (enc:=Vw.enc) (e:=n - c.j3.length) (by omega) ?_;refine zle ?_;rw [hv];refine za (h2:= ?_);refine zs (h2:= ?_);refine zn ?_
 repeat' (first|refine c1 pL rfl ?_|refine Wy [iv (C0 v.left (ss.map (·.1)) 0)] rfl ⟨by decide,rfl⟩ (h2:= ?_)|refine gx ?_|fail)
 obtain ⟨i,hi⟩:∃ i,C0 v.left (ss.map (·.1)) 0=i:=⟨_,rfl⟩;obtain ⟨j,hj⟩:∃ j,C0 v.right (ss.map (·.1)) 0=j:=⟨_,rfl⟩;rw [hi] at pL ⊢;rw [hj] at pR;refine tb (!J2 v.right []) (fun g2=> ?_) (fun g2=> ?_)
 ·repeat' (first|refine c1 pR rfl ?_|refine Wy [iv j] rfl ⟨by decide,rfl⟩ (h2:= ?_)|refine apo (m:=1) (len:=1) (k2:=2) (old:=[iv i]) (cs:=[iv j]) (T2:=[.ptr 4 0,.d (num n),.d (.slice 0 []),.ptr 5 0,.any]) (rl2:=[.D4 7 1 0 1,.d (num j),.d (.str v.right),.ptr 5 3,.ptr 4 0,.any]) (H2:=[.cells (c.enc.map .d),.cells (c.enc.map .d),.map (dmap ds),.map (T3 (ss.map (·.1)) 0),.cells (c.enc.map .d++[.map 2,.map 3,B3 2 F9 ss]),.cells (v.enc.map .d),.cells [iv i,iv j],.cells [iv j]]) rfl rfl rfl rfl rfl (h2:= ?_)|refine gx ?_|fail)
  have e1:ov v (ss.map (·.1))=Q4 (Q6 [i,j]):=by unfold ov;rw [hi,hj];simp only [j5] at g2;rw [g2];rfl
  rcases VW i j with ⟨h1,h2⟩|⟨h1,h2⟩|⟨h1,h2⟩
  ·repeat' (first|refine c0 (TP _ _ _ _ _ _ [i,j] [i,i] h1) rfl (h2:= ?_)|refine c0 (TN _ _ _ _ _ _ [i,i] [i] h2) rfl (h2:= ?_)|refine gx ?_|fail)
   exact ⟨_,_,rfl,by rw [e1,h1,h2];rfl,rfl⟩
  ·repeat' (first|refine c0 (TP _ _ _ _ _ _ [i,j] [i,j] h1) rfl (h2:= ?_)|refine c0 (TN _ _ _ _ _ _ [i,j] [i,j] h2) rfl (h2:= ?_)|refine gx ?_|fail)
   exact ⟨_,_,rfl,by rw [e1,h1,h2];rfl,rfl⟩
  ·repeat' (first|refine c0 (TP _ _ _ _ _ _ [i,j] [j,i] h1) rfl (h2:= ?_)|refine c0 (TN _ _ _ _ _ _ [j,i] [j,i] h2) rfl (h2:= ?_)|refine gx ?_|fail)
   exact ⟨_,_,rfl,by rw [e1,h1,h2];rfl,rfl⟩
 ·have e1:ov v (ss.map (·.1))=[i]:=by unfold ov;rw [hi,hj];simp only [A9] at g2;rw [g2];rfl
  repeat' (first|refine c0 (TP _ _ _ _ _ _ [i] [i] rfl) rfl (h2:= ?_)|refine c0 (TN _ _ _ _ _ _ [i] [i] rfl) rfl (h2:= ?_)|refine gx ?_|fail)
  exact ⟨_,_,rfl,by rw [e1];rfl,rfl⟩
def YR (c:m8):List D8:=(A0 c (m8.ns c)).map (·.1)
def aG (c:m8)(n:Int):List Int:=if C9 n c.j3.length then [] else ov (nth c.views (n - c.j3.length).toNat) (YR c)
theorem XX (c:m8)(ds:List D8)(n:Int)(hn2:n<(m8.ns c))(hvl:c.views.length<=1000):Pm A 45 [.ptr 4 0,.d (num n)] (HH c ds (A0 c (m8.ns c))) lR (.d (ints (aG c n))) (HH c ds (A0 c (m8.ns c))):=by
 unfold aG;cases h:C9 n c.j3.length with
 |true=>exact Ql c ds _ n (y9 h)
 |false=>exact Qm c ds _ n (by have:=y8 h;omega) hn2 hvl
theorem am1 (c:m8)(hs:B6 c)(n:Int)(h:P9 c n=false):Pf A 19 [cat c,.d (num n)] (.own 1 0 []):=by
 obtain ⟨v,H1,hp,pQ⟩:=mT c hs;have hle:=gH hp;obtain ⟨_,hp1,hp2⟩:=hp;refine Pf.run [cat c,.d (num n),.any,.any,.any,.any] rfl rfl rfl rfl ?_;cases e:o9 (L1 c).2 0 with
 |false =>
  obtain rfl:=hp1 e
  repeat' (first|refine cp pQ hle ?_|refine gx ?_|fail)
  refine tB (true) ?_ (fun h1=> ?_) (fun h1=> ?_)
  ·repeat' (first|refine cl (e) ?_|refine gx ?_|refine fk (h1:=fun hw=> ?_) (h2:=fun hw=> ?_)|refine L7 (h1:=fun hw=> ?_) (h2:=fun hw=> ?_)|refine ⟨rfl,rfl,_,rfl,?_⟩|refine ⟨rfl,rfl⟩|fail)
   all_goals exact cc
  ·refine gr ?_
   exact ⟨_,rfl,rfl⟩
  ·cases h1
 |true =>
  obtain ⟨rfl,rfl⟩:=hp2 e;have tG:=CZ c c.names (A0 c (m8.ns c)) n;rw [D0] at tG;have h2:(W8 0 n&&C9 n (m8.ns c))=false:=by unfold P9 J3 at h;rw [e] at h;exact h
  rw [h2] at tG
  repeat' (first|refine cp pQ hle ?_|refine gx ?_|fail)
  refine tB (true) ?_ (fun h1=> ?_) (fun h1=> ?_)
  ·repeat' (first|refine ck tG ?_|refine gx ?_|refine fk (h1:=fun hw=> ?_) (h2:=fun hw=> ?_)|refine L7 (h1:=fun hw=> ?_) (h2:=fun hw=> ?_)|refine ⟨rfl,rfl,_,rfl,?_⟩|refine ⟨rfl,rfl⟩|fail)
   all_goals exact cc
  ·refine gr ?_
   exact ⟨_,rfl,rfl⟩
  ·cases h1
theorem VF (c:m8)(hs:B6 c)(n:Int)(h:P9 c n=true):Pf A 19 [cat c,.d (num n)] (.d (ints (aG c n))):=by
 obtain ⟨v,H1,hp,pQ⟩:=mT c hs;have hle:=gH hp;obtain ⟨_,hp1,hp2⟩:=hp;obtain ⟨e,h2,h3⟩:=cq h;obtain ⟨rfl,rfl⟩:=hp2 e;have h4:=Ja c h3;have h6:=D0 c (m8.ns c);have tG:=CZ c c.names (A0 c (m8.ns c)) n;rw [D0,h2] at tG;refine Pf.run [cat c,.d (num n),.any,.any,.any,.any] rfl rfl rfl rfl ?_
 repeat' (first|refine cp pQ hle ?_|refine gx ?_|fail)
 have p45:=XX c c.names n h3.2 hs.sm.fI.2.1;refine tB (false) ?_ (fun h1=> ?_) (fun h1=> ?_)
 ·repeat' (first|refine ck tG ?_|refine gx ?_|refine fk (h1:=fun hw=> ?_) (h2:=fun hw=> ?_)|refine L7 (h1:=fun hw=> ?_) (h2:=fun hw=> ?_)|refine ⟨rfl,rfl,_,rfl,?_⟩|refine ⟨rfl,rfl⟩|fail)
  all_goals exact cc
 ·cases h1
 repeat' (first|refine ck p45 ?_|refine gx ?_|fail)
 exact ⟨_,rfl,rfl⟩
end Go.Proofs.YtkmclibmmlgogaaGreat
namespace Go.Proofs.YtkmclibmmlgogaaGreat.dU
open Go.y3 Go.y3.S
attribute [local irreducible] Rx Ry Rn Ex Pf
variable [Inhabited XO]
theorem ck {b:Nat}{dr:Bool}{j4 ops:List n8}{T:List b6}{n:Nat}{rl:List b6}{n6:List y3.Touch}{Q:List b6->o6->List b6->Prop}{c:m8}{ds:List D8}{ss:List Y4}{R:o6}{f:FuncId}{xs:List q7}{u:List Nat}{v:b6}{args:List b6}(hc:Pm A f args (HH c ds ss) lR v (HH c ds ss))(h2:Ry A cB b dr j4 ops T (HH c ds ss++R) (n+1) (v::rl) n6 Q)
  (ha:xs.map (rq T n rl)=args:=by rfl) (hb:A4 args=6:=by rfl) (fR:A.prom f=false:=by rfl) (hm:A.mode f=1:=by rfl):Ry A cB b dr j4 (⟨.call f xs,none,none,u⟩::ops) T (HH c ds ss++R) n rl n6 Q:=by
 have MM:=wz c ds ss;have Tl:=qq c ds ss;refine c1 hc rfl h2 (m:=6) ?_ ?_ rfl rfl ?_ ha fR hm
 ·show Y6 (HH c ds ss)<=6
  exact MM
 ·rw [hb]
  exact gu (by show Y6 (HH c ds ss)<=6;exact MM)
 ·show G9.mk 0 6 6 (C8 _ 0 6)=lR
  rw [rV (by show P8 (HH c ds ss) 0=true;exact Tl)];rfl
end Go.Proofs.YtkmclibmmlgogaaGreat.dU
namespace Go.Proofs.YtkmclibmmlgogaaGreat.dU
open Go.y3 Go.y3.S
attribute [local irreducible] Rx Ry Rn Ex Pf
variable [Inhabited XO]
theorem Ql (c:m8)(ds:List D8)(ss:List Y4)(n:Int)(hn:n<c.j3.length):Pm A 45 [.ptr 5 0,.d (num n)] (HH c ds ss) lR (.d (ints [])) (HH c ds ss):=by
 suffices h:Pq A 45 [.ptr 5 0,.d (num n)] (HH c ds ss) lR fun w H1=>w= .d (ints [])/\H1=HH c ds ss by
  obtain ⟨w,H1,⟨rfl,rfl⟩,h⟩:=h;exact h
 unfold HH at *
 refine Pq.run (b:=6) [.ptr 5 0,.d (num n),.any,.any,.any] rfl rfl rfl rfl rfl ?_
 repeat' (first|refine mn (h2:= ?_)|refine gx ?_|fail)
 refine tb (C9 n c.j3.length) (fun g1=> ?_) (fun g1=> ?_)
 ·repeat' (first|refine mn (h2:= ?_)|refine gx ?_|fail)
  exact ⟨_,_,rfl,rfl,rfl⟩
 ·have:=y8 g1
  omega
def l57:G9:=⟨0,6,8,8⟩
theorem TP (a0 ax a1 a2 a3 a4 a5:y7)(xs ys:List Int)(h:Q6 xs=ys)(hb:L3 xs.length 1000000=true:=by rfl):Pm A 42 [.D4 7 1 0 xs.length] [a0,ax,a1,a2,a3,a4,a5,.cells (xs.map iv)] l57 (.tuple []) [a0,ax,a1,a2,a3,a4,a5,.cells (ys.map iv)]:=by
 have _x:=(default:XO);subst h;exact Pm.gS rfl (xZ rfl rfl rfl hb)
theorem TN (a0 ax a1 a2 a3 a4 a5:y7)(xs ys:List Int)(h:Q4 xs=ys)(hb:L3 xs.length 1000000=true:=by rfl):Pm A 43 [.D4 7 1 0 xs.length] [a0,ax,a1,a2,a3,a4,a5,.cells (xs.map iv)] l57 (.D4 7 1 0 ys.length) [a0,ax,a1,a2,a3,a4,a5,.cells ((ys++c9 (xs.length - ys.length) 0).map iv)]:=by
 have _x:=(default:XO);subst h;exact Pm.gS rfl (mS rfl rfl rfl hb)
set_option maxHeartbeats 4000000 in
theorem Qm (c:m8)(ds:List D8)(ss:List Y4)(n:Int)(hn:c.j3.length<=n)(hn2:n<(m8.ns c))(hvl:c.views.length<=1000):Pm A 45 [.ptr 5 0,.d (num n)] (HH c ds ss) lR (.d (ints (ov (nth c.views (n - c.j3.length).toNat) (ss.map (·.1))))) (HH c ds ss):=by
 have cz:m8.ns c=c.j3.length+c.views.length:=rfl;obtain ⟨v,hv⟩:∃ v,nth c.views (n - c.j3.length).toNat=v:=⟨_,rfl⟩;rw [hv]
 suffices h:Pq A 45 [.ptr 5 0,.d (num n)] (HH c ds ss) lR fun w H1=>w= .d (ints (ov v (ss.map (·.1))))/\H1=HH c ds ss by
  obtain ⟨w,H1,⟨rfl,rfl⟩,h⟩:=h;exact h
 have pL:=lN c ds ss v.left;have pR:=lN c ds ss v.right;unfold HH at *
 refine Pq.run (b:=6) [.ptr 5 0,.d (num n),.any,.any,.any] rfl rfl rfl rfl rfl ?_
 repeat' (first|refine mn (h2:= ?_)|refine gx ?_|fail)
 refine tb (C9 n c.j3.length) (fun g1=> ?_) (fun g1=> ?_)
 ·have:=y9 g1
  omega
 refine gr ?_;refine Ex.region (Rn.z 3 6 [.cells (c.enc.map .d),xo,.cells (c.enc.map .d),.map (dmap ds),.map (T3 (ss.map (·.1)) 0),.cells (c.enc.map .d++[.map 3,.map 4,B3 2 F9 ss]),.dead] rfl rfl (by decide) rfl rfl ?_);refine zm ?_;refine zp (rs:=[]) (.ptr 5 0) rfl ?_;refine zp (rs:=[]) (.ptr 5 0) rfl ?_;refine zp (rs:=[]) (.ptr 5 1) rfl ?_;refine zp (rs:=[5]) (.d (z6 Vw.enc c.views)) rfl ?_;refine zm ?_;refine zm ?_;refine zp (rs:=[]) (.ptr 5 0) rfl ?_;refine zp (rs:=[]) (.ptr 5 0) rfl ?_;refine zp (rs:=[]) (.ptr 5 0) rfl ?_;refine zp (rs:=[5]) (.d (z6 eZ.enc c.j3)) rfl ?_;refine zp (rs:=[]) (.d (num c.j3.length)) rfl ?_;refine zsb (c:=n) (d:=c.j3.length) (by omega) ?_;refine zix (xs:=c.views) (enc:=Vw.enc) (e:=n - c.j3.length) (by omega) ?_;refine zle ?_;rw [hv];refine za (h2:= ?_);refine zs (h2:= ?_);refine zn ?_
 repeat' (first|refine c1 pL rfl ?_|refine Wy [iv (C0 v.left (ss.map (·.1)) 0)] rfl ⟨by decide,rfl⟩ (h2:= ?_)|refine gx ?_|fail)
 obtain ⟨i,hi⟩:∃ i,C0 v.left (ss.map (·.1)) 0=i:=⟨_,rfl⟩;obtain ⟨j,hj⟩:∃ j,C0 v.right (ss.map (·.1)) 0=j:=⟨_,rfl⟩;rw [hi] at pL ⊢;rw [hj] at pR;refine tb (!J2 v.right []) (fun g2=> ?_) (fun g2=> ?_)
 ·repeat' (first|refine c1 pR rfl ?_|refine Wy [iv j] rfl ⟨by decide,rfl⟩ (h2:= ?_)|refine apo (m:=1) (len:=1) (k2:=2) (old:=[iv i]) (cs:=[iv j]) (T2:=[.ptr 5 0,.d (num n),.d (.slice 0 []),.ptr 6 0,.any]) (rl2:=[.D4 8 1 0 1,.d (num j),.d (.str v.right),.ptr 6 3,.ptr 5 0,.any]) (H2:=[.cells (c.enc.map .d),xo,.cells (c.enc.map .d),.map (dmap ds),.map (T3 (ss.map (·.1)) 0),.cells (c.enc.map .d++[.map 3,.map 4,B3 2 F9 ss]),.cells (v.enc.map .d),.cells [iv i,iv j],.cells [iv j]]) rfl rfl rfl rfl rfl (h2:= ?_)|refine gx ?_|fail)
  have e1:ov v (ss.map (·.1))=Q4 (Q6 [i,j]):=by unfold ov;rw [hi,hj];simp only [j5] at g2;rw [g2];rfl
  rcases VW i j with ⟨h1,h2⟩|⟨h1,h2⟩|⟨h1,h2⟩
  ·repeat' (first|refine c0 (TP _ _ _ _ _ _ _ [i,j] [i,i] h1) rfl (h2:= ?_)|refine c0 (TN _ _ _ _ _ _ _ [i,i] [i] h2) rfl (h2:= ?_)|refine gx ?_|fail)
   exact ⟨_,_,rfl,by rw [e1,h1,h2];rfl,rfl⟩
  ·repeat' (first|refine c0 (TP _ _ _ _ _ _ _ [i,j] [i,j] h1) rfl (h2:= ?_)|refine c0 (TN _ _ _ _ _ _ _ [i,j] [i,j] h2) rfl (h2:= ?_)|refine gx ?_|fail)
   exact ⟨_,_,rfl,by rw [e1,h1,h2];rfl,rfl⟩
  ·repeat' (first|refine c0 (TP _ _ _ _ _ _ _ [i,j] [j,i] h1) rfl (h2:= ?_)|refine c0 (TN _ _ _ _ _ _ _ [j,i] [j,i] h2) rfl (h2:= ?_)|refine gx ?_|fail)
   exact ⟨_,_,rfl,by rw [e1,h1,h2];rfl,rfl⟩
 ·have e1:ov v (ss.map (·.1))=[i]:=by unfold ov;rw [hi,hj];simp only [A9] at g2;rw [g2];rfl
  repeat' (first|refine c0 (TP _ _ _ _ _ _ _ [i] [i] rfl) rfl (h2:= ?_)|refine c0 (TN _ _ _ _ _ _ _ [i] [i] rfl) rfl (h2:= ?_)|refine gx ?_|fail)
  exact ⟨_,_,rfl,by rw [e1];rfl,rfl⟩
end Go.Proofs.YtkmclibmmlgogaaGreat.dU
namespace Go.Proofs.YtkmclibmmlgogaaGreat.dU
open Go.y3 Go.y3.S
attribute [local irreducible] Rx Ry Rn Ex Pf
variable [Inhabited XO]
theorem XX (c:m8)(ds:List D8)(n:Int)(hn2:n<(m8.ns c))(hvl:c.views.length<=1000):Pm A 45 [.ptr 5 0,.d (num n)] (HH c ds (A0 c (m8.ns c))) lR (.d (ints (aG c n))) (HH c ds (A0 c (m8.ns c))):=by
 unfold aG;cases h:C9 n c.j3.length with
 |true=>exact Ql c ds _ n (y9 h)
 |false=>exact Qm c ds _ n (by have:=y8 h;omega) hn2 hvl
end Go.Proofs.YtkmclibmmlgogaaGreat.dU
namespace Go.Proofs.YtkmclibmmlgogaaGreat
open Go.y3 Go.y3.S
attribute [local irreducible] Rx Ry Rn Ex Pf
def MJ (c:m8)(s:D8):Int:=if J3 c then C0 s (YR c) 0 else -1
theorem TK (c:m8)(hs:B6 c)(s:D8):Pf A 25 [cat c,.d (.str s)] (.d (num (MJ c s))):=by
 letI:Inhabited dU.XO:=⟨⟨0⟩⟩
 obtain ⟨v,H1,hp,pQ⟩:=dU.mT c hs;have hle:=dU.gH hp;obtain ⟨⟨R,hR⟩,hp1,hp2⟩:=hp;refine Pf.run [cat c,.d (.str s),.any,.any,.any,.any] rfl rfl rfl rfl ?_;cases e:o9 (L1 c).2 0 with
 |false =>
  obtain rfl:=hp1 e;subst hR
  repeat' (first|refine dfl ?_|refine cp pQ hle ?_|refine gx ?_|fail)
  refine tB (true) ?_ (fun h1=> ?_) (fun h1=> ?_)
  ·repeat' (first|refine cl (e) ?_|refine gx ?_|refine fk (h1:=fun hw=> ?_) (h2:=fun hw=> ?_)|refine L7 (h1:=fun hw=> ?_) (h2:=fun hw=> ?_)|refine ⟨rfl,rfl,_,rfl,?_⟩|refine ⟨rfl,rfl⟩|fail)
   all_goals exact cc
  ·refine gr ?_
   exact ⟨_,rfl,by unfold MJ J3;rw [e];rfl⟩
  ·cases h1
 |true =>
  obtain ⟨rfl,hH⟩:=hp2 e;have TJ:=dU.lN c c.names (A0 c (m8.ns c)) s;subst hH
  repeat' (first|refine dfl ?_|refine cp pQ hle ?_|refine gx ?_|fail)
  refine tB (false) ?_ (fun h1=> ?_) (fun h1=> ?_)
  ·repeat' (first|refine cl (e) ?_|refine gx ?_|refine fk (h1:=fun hw=> ?_) (h2:=fun hw=> ?_)|refine L7 (h1:=fun hw=> ?_) (h2:=fun hw=> ?_)|refine ⟨rfl,rfl,_,rfl,?_⟩|refine ⟨rfl,rfl⟩|fail)
   all_goals exact cc
  ·cases h1
  repeat' (first|refine dU.ck TJ ?_|refine gx ?_|fail)
  exact ⟨_,rfl,by unfold MJ J3;rw [e];rfl⟩
end Go.Proofs.YtkmclibmmlgogaaGreat


import Derived.Test.YtibjocmpkoepoaaGreatW0
set_option linter.all false
open Bool renaming and_eq_true → c9, false_eq_true → j5, not_eq_false' → O1, not_eq_true' → o8, not_false → M0, or_eq_false_iff → E6
open List renaming drop_of_length_le → n5, map_cons → E0, mem_cons → y7, replicate → j4, take_of_length_le → A8
open Nat renaming ble → D9, le_refl → o5, lt_or_ge → s5
namespace Go.Proofs.YtibjocmpkoepoaaGreat
open Go.Abs Go.Abs.S
attribute [local irreducible] Rx Ry Rn Ex Pf
theorem sG (c:y4):∀ k i,(bY c k i).2=0->bY c k i=(0,0)/\∀ m,i<=m->m<i+k->P9 c m=0
 |0,i,_=>⟨rfl,fun m h1 h2=>absurd h1 (by omega)⟩
 |k+1,i,h=>by
  rw [bY] at h ⊢;cases e:u0 (P9 c i) 0 with
  |false =>
   simp only [e,M0,if_true] at h;exact absurd h (GP e)
  |true =>
   simp only [e,Bool.not_true,j5,if_false] at h ⊢;obtain ⟨h1,h2⟩:=sG c k (i+1) h;refine ⟨h1,fun m g1 g2=> ?_⟩
   rcases s5 i m with g3|g3
   .exact h2 m g3 (by omega)
   .obtain rfl:m=i:=by omega
    exact bz e
def Cu {c:y4}(h:(O5 c).2=0):(O5 c).1=0/\tooMany c=false/\kL c c.names.length:=by
 unfold O5 at h ⊢;cases e:tooMany c with
 |true=>rw [e] at h;simp at h
 |false =>
  rw [e] at h;simp only [j5,if_false] at h ⊢;obtain ⟨h1,h2⟩:=sG c _ _ h;exact ⟨by rw [h1],trivial,fun m hm=>h2 m (by omega) (by omega)⟩
def Sr {c:y4}{fds:List L0}{Lm:List eU}{v:j3}{H1:q8}(h:jm c fds Lm v H1):v= .tuple [.d .br,.d (num (O5 c).1),.d (num (O5 c).2)]\/v= .tuple [.ptr 4 0,.d (num (O5 c).1),.d (num (O5 c).2)]:=by
 obtain ⟨_,h1,h2⟩:=h;cases e:u0 (O5 c).2 0 with
 |false=>exact .inl (h1 e)
 |true =>
  refine .inr ((h2 e).1.trans ?_);rw [bz e,(Cu (bz e)).1]
def N9 (c:y4):Bool:=u0 (O5 c).2 0
def aC0 (c:y4)(hs:Q2 c):Pf A 46 [cat c] (.d (.bool (N9 c))):=by
 obtain ⟨v,H1,hp,QH⟩:=NO c hs;have hle:=Ew hp;refine Pf.run [cat c,.any,.any,.any] rfl rfl rfl rfl ?_
 rcases Sr hp with rfl|rfl
 .repeat' (first|refine cp QH hle ?_|refine gx ?_|fail)
  exact ⟨_,rfl,rfl⟩
 .repeat' (first|refine cp QH hle ?_|refine gx ?_|fail)
  exact ⟨_,rfl,rfl⟩
def ck {b:Nat}{dr:Bool}{l6 ops:List p9}{T:List j3}{n:Nat}{rl:List j3}{p6:List Abs.Touch}{Q:List j3->q8->List j3->Prop}{c:y4}{ds:List L0}{ss:List eU}{R:q8}{f:FuncId}{xs:List u9}{u:List Nat}{v:j3}{args:List j3}(hc:Pm A f args (HH c ds ss) lR v (HH c ds ss))(h2:Ry A Y8 b dr l6 ops T (HH c ds ss++R) (n+1) (v::rl) p6 Q)
  (ha:xs.map (rq T n rl)=args:=by rfl) (hb:B8 args=5:=by rfl) (gI:A.prom f=false:=by rfl) (hm:A.mode f=1:=by rfl):Ry A Y8 b dr l6 (⟨.call f xs,none,none,u⟩::ops) T (HH c ds ss++R) n rl p6 Q:=by
 have QB:=yA c ds ss;have XH:=si c ds ss;refine c1 hc rfl h2 (m:=5) ?_ ?_ rfl rfl ?_ ha gI hm
 .show R7 (HH c ds ss)<=5
  exact QB
 .rw [hb]
  exact iq (by show R7 (HH c ds ss)<=5;exact QB)
 .show F2.mk 0 5 5 (D8 _ 0 5)=lR
  rw [tL (by show T5 (HH c ds ss) 0=true;exact XH)];rfl
def bJ (c:y4)(n:Int):Bool:=N9 c&&(aF 0 n&&F3 n (y4.ns c))
def ap4 (c:y4){n:Int}(h:0<=n/\n<(y4.ns c)):nth (Q7 c (y4.ns c)) n.toNat=ox c n.toNat:=cr c (by omega)
def EX {c:y4}{n:Int}(h:bJ c n=true):u0 (O5 c).2 0=true/\(aF 0 n&&F3 n (y4.ns c))=true/\0<=n/\n<(y4.ns c):=by
 unfold bJ N9 at h;rw [c9] at h;exact ⟨h.1,h.2,by simpa [y3,z8] using h.2⟩
def aa2 (c:y4)(hs:Q2 c)(n:Int)(h:bJ c n=true):Pf A 115 [cat c,.d (num n)] (.d (ints (R3 c n.toNat))):=by
 obtain ⟨v,H1,hp,QH⟩:=NO c hs;have hle:=Ew hp;obtain ⟨_,hp1,hp2⟩:=hp;obtain ⟨e,h2,h3⟩:=EX h;obtain ⟨rfl,rfl⟩:=hp2 e;have h4:=ap4 c h3;have h6:=X3 c (y4.ns c);have p38:=aZ7 c c.names (Q7 c (y4.ns c)) n;rw [X3,h2] at p38;refine Pf.run [cat c,.d (num n),.any,.any,.any,.any] rfl rfl rfl rfl ?_
 repeat' (first|refine cp QH hle ?_|refine gx ?_|fail)
 refine tB (false) ?_ (fun h1=> ?_) (fun h1=> ?_)
 .repeat' (first|refine ck p38 ?_|refine gx ?_|refine fk (h1:=fun hw=> ?_) (h2:=fun hw=> ?_)|refine U0 (h1:=fun hw=> ?_) (h2:=fun hw=> ?_)|refine ⟨rfl,rfl,_,rfl,?_⟩|refine ⟨rfl,rfl⟩|fail)
  all_goals exact cc
 .cases h1
 refine gr ?_;exact ⟨_,rfl,by rw [h4];rfl⟩
def iv (n:Int):j3:= .d (num n)
theorem rM:∀ xs:List Int,jv (xs.map iv)=some xs
 |[]=>rfl
 |x::xs=>by
  have:=rM xs;simp only [E0,iv,num,jv];rw [this]
theorem pU:∀ xs:List Int,(cu xs).length=xs.length
 |[]=>rfl
 |x::xs=>by
  have h:∀ l:List Int,(xE x l).length=l.length+1:=fun l=>by
   induction l with
   |nil=>rfl
   |cons y l ih=>simp only [xE];split<;>simp [ih]
  simp [cu,h,pU xs]
theorem sK:∀ xs:List Int,(aU xs).length<=xs.length
 |[]=>o5 _
 |[x]=>o5 _
 |x::y::l=>by
  have:=sK (y::l);simp only [aU];split<;>simp at this ⊢<;>omega
def VK {H:q8}{id:Nat}{old vs:List j3}(ho:H[id]? =some (.cells old))(hl:vs.length=old.length):wr H id 0 vs=some (H.set id (.cells vs)):=by
 simp [wr,ho,hl,splice,n5]
def UL {H:q8}{id len:Nat}{old:List j3}(ho:H[id]? =some (.cells old))(hl:old.length=len):rd H id 0 len=some old:=by
 simp [rd,ho,hl,A8]
def Up {H:q8}{id len:Nat}{l:F2}{xs:List Int}(hm:l.may id=true)(ho:H[id]? =some (.cells (xs.map iv)))(hl:xs.length=len)(hb:D9 len 1000000=true:=by rfl):Dg [.B6 id 1 0 len] H l=some (.tuple [],H.set id (.cells ((cu xs).map iv))):=by
 have h1:=UL (len:=len) ho (by simp [hl]);have h2:=VK (vs:=(cu xs).map iv) ho (by simp [pU]);simp only [Dg,hm,hb,Bool.and_self,if_true,h1,rM];rw [show ((cu xs).map fun n=>j3.d (.int .i64 n))=(cu xs).map iv from rfl,h2]
def Ie {H:q8}{id len:Nat}{l:F2}{xs:List Int}(hm:l.may id=true)(ho:H[id]? =some (.cells (xs.map iv)))(hl:xs.length=len)(hb:D9 len 1000000=true:=by rfl) :
  kO [.B6 id 1 0 len] H l=some (.B6 id 1 0 (aU xs).length,H.set id (.cells ((aU xs++j4 (xs.length - (aU xs).length) 0).map iv))):=by
 have h1:=UL (len:=len) ho (by simp [hl]);have h3:=sK xs;have h2:=VK (vs:=(aU xs++j4 (xs.length - (aU xs).length) 0).map iv) ho (by simp;omega);simp only [kO,hm,hb,Bool.and_self,if_true,h1,rM];have h4:wr H id 0 ((aU xs++j4 (xs.length - (aU xs).length) 0).map fun n=>j3.d (.int .i64 n))=_:=h2;rw [h4]
def sns (c:y4):List L0:=(Q7 c (y4.ns c)).map (·.1)
end Go.Proofs.YtibjocmpkoepoaaGreat
namespace Go.Proofs.YtibjocmpkoepoaaGreat.nc
open Go.Abs Go.Abs.S
attribute [local irreducible] Rx Ry Rn Ex Pf
variable [Inhabited XO]
def ck {b:Nat}{dr:Bool}{l6 ops:List p9}{T:List j3}{n:Nat}{rl:List j3}{p6:List Abs.Touch}{Q:List j3->q8->List j3->Prop}{c:y4}{ds:List L0}{ss:List eU}{R:q8}{f:FuncId}{xs:List u9}{u:List Nat}{v:j3}{args:List j3}(hc:Pm A f args (HH c ds ss) lR v (HH c ds ss))(h2:Ry A Y8 b dr l6 ops T (HH c ds ss++R) (n+1) (v::rl) p6 Q)
  (ha:xs.map (rq T n rl)=args:=by rfl) (hb:B8 args=6:=by rfl) (gI:A.prom f=false:=by rfl) (hm:A.mode f=1:=by rfl):Ry A Y8 b dr l6 (⟨.call f xs,none,none,u⟩::ops) T (HH c ds ss++R) n rl p6 Q:=by
 have QB:=yA c ds ss;have XH:=si c ds ss;refine c1 hc rfl h2 (m:=6) ?_ ?_ rfl rfl ?_ ha gI hm
 .show R7 (HH c ds ss)<=6
  exact QB
 .rw [hb]
  exact iq (by show R7 (HH c ds ss)<=6;exact QB)
 .show F2.mk 0 6 6 (D8 _ 0 6)=lR
  rw [tL (by show T5 (HH c ds ss) 0=true;exact XH)];rfl
end Go.Proofs.YtibjocmpkoepoaaGreat.nc
namespace Go.Proofs.YtibjocmpkoepoaaGreat.nc
open Go.Abs Go.Abs.S
attribute [local irreducible] Rx Ry Rn Ex Pf
variable [Inhabited XO]
end Go.Proofs.YtibjocmpkoepoaaGreat.nc
namespace Go.Proofs.YtibjocmpkoepoaaGreat.nc
open Go.Abs Go.Abs.S
attribute [local irreducible] Rx Ry Rn Ex Pf
variable [Inhabited XO]
end Go.Proofs.YtibjocmpkoepoaaGreat.nc
namespace Go.Proofs.YtibjocmpkoepoaaGreat
open Go.Abs Go.Abs.S
attribute [local irreducible] Rx Ry Rn Ex Pf
def dY (c:y4)(s:L0):Int:=if N9 c then J2 s (sns c) 0 else -1
def aY1 (c:y4)(hs:Q2 c)(s:L0):Pf A 71 [cat c,.d (.str s)] (.d (num (dY c s))):=by
 letI:Inhabited nc.XO:=⟨⟨0⟩⟩
 obtain ⟨v,H1,hp,QH⟩:=nc.NO c hs;have hle:=nc.Ew hp;obtain ⟨⟨R,hR⟩,hp1,hp2⟩:=hp;refine Pf.run [cat c,.d (.str s),.any,.any,.any,.any] rfl rfl rfl rfl ?_;cases e:u0 (O5 c).2 0 with
 |false =>
  obtain rfl:=hp1 e;subst hR
  repeat' (first|refine dfl ?_|refine cp QH hle ?_|refine gx ?_|fail)
  refine tB (true) ?_ (fun h1=> ?_) (fun h1=> ?_)
  .repeat' (first|refine cl (e) ?_|refine gx ?_|refine fk (h1:=fun hw=> ?_) (h2:=fun hw=> ?_)|refine U0 (h1:=fun hw=> ?_) (h2:=fun hw=> ?_)|refine ⟨rfl,rfl,_,rfl,?_⟩|refine ⟨rfl,rfl⟩|fail)
   all_goals exact cc
  .refine gr ?_
   exact ⟨_,rfl,by unfold dY N9;rw [e];rfl⟩
  .cases h1
 |true =>
  obtain ⟨rfl,hH⟩:=hp2 e;have p61:=nc.Ir c c.names (Q7 c (y4.ns c)) s;subst hH
  repeat' (first|refine dfl ?_|refine cp QH hle ?_|refine gx ?_|fail)
  refine tB (false) ?_ (fun h1=> ?_) (fun h1=> ?_)
  .repeat' (first|refine cl (e) ?_|refine gx ?_|refine fk (h1:=fun hw=> ?_) (h2:=fun hw=> ?_)|refine U0 (h1:=fun hw=> ?_) (h2:=fun hw=> ?_)|refine ⟨rfl,rfl,_,rfl,?_⟩|refine ⟨rfl,rfl⟩|fail)
   all_goals exact cc
  .cases h1
  repeat' (first|refine nc.ck p61 ?_|refine gx ?_|fail)
  exact ⟨_,rfl,by unfold dY N9;rw [e];rfl⟩
def al0 (c:y4)(hs:Q2 c):Pf A 40 [cat c] (.d (.bool (N9 c))):=by
 have p:=aY2 c hs;unfold pair at p;refine Pf.run [cat c,.any,.any,.any] rfl rfl rfl rfl ?_
 repeat' (first|refine cl (p) ?_|refine gx ?_|fail)
 exact ⟨_,rfl,rfl⟩
def TJ (c:y4)(n:Int):bJ c n=(A4 n 0 ((c.o7.length:Int)+c.views.length - 1)&&N9 c):=by
 unfold bJ A4 y4.ns;rw [Bool.eq_iff_iff];simp only [c9,y3,z8,decide_eq_true_eq];constructor
 .rintro ⟨h1,h2,h3⟩;exact ⟨⟨h2,by omega⟩,h1⟩
 .rintro ⟨⟨h2,h3⟩,h1⟩;exact ⟨h1,h2,by omega⟩
def aZ0 (c:y4)(hs:Q2 c)(n:Int):Pf A 53 [cat c,.d (num n)] (.d (.bool (bJ c n))):=by
 obtain ⟨f0,f1,f2,f3,f4,f5,f6,f7⟩:=id hs.sm.qA;have p36:=al0 c hs;have p95:=Il n 0 ((c.o7.length:Int)+c.views.length - 1);rw [TJ];refine Pf.run [cat c,.d (num n),.any,.any] rfl rfl rfl rfl ?_
 repeat' (first|refine cl (p95) ?_|refine cl (p36) ?_|refine gx ?_|refine fk (h1:=fun hw=> ?_) (h2:=fun hw=> ?_)|refine U0 (h1:=fun hw=> ?_) (h2:=fun hw=> ?_)|refine Ex.O6 ?_|refine Ex.O8 ?_|refine Ex.cond rfl (fun ht=> ?_) (fun ht=> ?_)|refine Ex.test (Rn.text ?_)|refine Ex.test (Rn.draw ?_)|refine ⟨_,rfl,fun ht=> ?_,fun ht=> ?_⟩|refine ⟨_,rfl,?_⟩|fail)
 all_goals simp [*,j9]
def CP (c:y4)(n:Int):Bool:=bJ c n&&F3 n c.o7.length
def Bj {c:y4}(h:N9 c=true):kL c c.names.length/\tooMany c=false/\Dx c (y4.ns c):=by
 have h1:=Cu (bz h);have hnl:=bk c;exact ⟨h1.2.2,h1.2.1,tg (fun m hm=>h1.2.2 m (by omega)) (o5 _)⟩
def XR {c:y4}{n:Int}(h:bJ c n=true):N9 c=true:=by
 unfold bJ at h;rw [c9] at h;exact h.1
def zx (c:y4)(s:L0):Int:=if N9 c then H9 c s (y4.ns c) else -1
def aY4 (c:y4)(hs:Q2 c)(s:L0):Pf A 86 [cat c,.d (.str s)] (.d (num (zx c s))):=by
 obtain ⟨f0,f1,f2,f3,f4,f5,f6,f7⟩:=id hs.sm.qA;have ek:y4.ns c=c.o7.length+c.views.length:=rfl;have p36:=al0 c hs;have p84:=LU c s (y4.ns c) hs.sm.qA (by omega);rw [show ((y4.ns c:Nat):Int)=(c.o7.length:Int)+c.views.length by omega] at p84;refine Pf.run [cat c,.d (.str s),.any,.any] rfl rfl rfl rfl ?_;refine gr ?_;refine tB (!N9 c) ?_ (fun h1=> ?_) (fun h1=> ?_)
 .repeat' (first|refine cl (p36) ?_|refine gx ?_|refine fk (h1:=fun hw=> ?_) (h2:=fun hw=> ?_)|refine U0 (h1:=fun hw=> ?_) (h2:=fun hw=> ?_)|refine ⟨rfl,rfl,_,rfl,?_⟩|refine ⟨rfl,rfl⟩|fail)
  all_goals exact cc
 .refine gr ?_
  exact ⟨_,rfl,by unfold zx;rw [o8] at h1;rw [h1];rfl⟩
 .repeat' (first|refine cl (p84) ?_|refine gx ?_|fail)
  exact ⟨_,rfl,by unfold zx;rw [O1] at h1;rw [h1];rfl⟩
def af2 (c:y4)(s:L0):zx c s=if N9 c then J2 s (sns c) 0 else -1:=by
 unfold zx H9 sns;rw [oy c (o5 _)]
def aE2 (c:y4)(hs:Q2 c)(n:Int)(h:bJ c n=true):Pf A 20 [cat c,.d (num n)] (.d (ints (R3 c n.toNat))):=by
 have p85:=aZ0 c hs n;rw [h] at p85;have h2:=Bj (XR h);have h3:=(EX h).2.2;have p:=(kP c hs (y4.ns c) n.toNat (by omega) (o5 _) h2.2.2).1;rw [Int.toNat_of_nonneg h3.1] at p;refine Pf.run [cat c,.d (num n),.any,.any] rfl rfl rfl rfl ?_;refine gr ?_;refine tB (false) ?_ (fun h1=> ?_) (fun h1=> ?_)
 .repeat' (first|refine cl (p85) ?_|refine gx ?_|refine fk (h1:=fun hw=> ?_) (h2:=fun hw=> ?_)|refine U0 (h1:=fun hw=> ?_) (h2:=fun hw=> ?_)|refine ⟨rfl,rfl,_,rfl,?_⟩|refine ⟨rfl,rfl⟩|fail)
  all_goals exact cc
 .cases h1
 repeat' (first|refine cl (p) ?_|refine gx ?_|fail)
 exact ⟨_,rfl,rfl⟩
def IsL (w:j3)(xs:List Int):Prop:=w= .d (ints xs)\/w=C9 1 (fun n=>[num n]) xs
def IsL.as {w:j3}{xs:List Int}(h:IsL w xs):w.I7= .d (ints xs):=by
 rcases h with rfl|rfl<;>rfl
theorem CO (s:L0):∀ (l:List L0) (k i:Nat),0<=J2 s (l.take k) i->J2 s l i=J2 s (l.take k) i
 |[],k,i,h=>by simp
 |d::l,0,i,h=>by simp [J2] at h
 |d::l,k+1,i,h=>by
  simp only [List.take_succ_cons,J2] at h ⊢;split
  .rfl
  .rename_i h1
   rw [if_neg h1] at h;exact CO s l k (i+1) h
end Go.Proofs.YtibjocmpkoepoaaGreat
namespace Go.Proofs.YtibjocmpkoepoaaGreat
open Go.Abs Go.Abs.S
theorem HP (x s:Int):∀ l:List Int,s ∈ xE x l↔s=x\/s ∈ l
 |[]=>by simp [xE]
 |y::l=>by
  simp only [xE];split
  .simp
  .simp only [y7,HP x s l]
   exact or_left_comm
theorem Dc (s:Int):∀ l:List Int,s ∈ cu l↔s ∈ l
 |[]=>by simp [cu]
 |x::l=>by simp only [cu,HP,Dc s l,y7]
theorem HO (s:Int):∀ l:List Int,s ∈ aU l↔s ∈ l
 |[]=>by simp [aU]
 |[x]=>by simp [aU]
 |x::y::l=>by
  have ih:=HO s (y::l);simp only [aU];split
  .rename_i h
   subst h;rw [ih];simp
  .simp only [y7] at ih ⊢
   rw [ih]
attribute [local irreducible] Rx Ry Rn Ex Pf
def l8:F2:=⟨0,8,8,8⟩
def HD (c:y4)(st:Int)(x:j3):q8:=[.cells (c.enc.map .d),.cells [.d (num st)],.cells (c.enc.map .d),.map (dmap c.names),.map (W5 ((Q7 c (y4.ns c)).map (·.1)) 0),.cells (c.enc.map .d++[.map 3,.map 4,C9 2 L3 (Q7 c (y4.ns c))]),.cells (nc.U8 c),.cells [x]]
section
variable {b:Nat} {dr:Bool} {l6 ops:List p9} {T:List j3} {n:Nat} {rl:List j3} {p6:List Abs.Touch} {Q:List j3->q8->List j3->Prop}
end
def CQ (c:y4)(n:Int):CP c n=(!(F3 n 0||aF c.o7.length n|| !N9 c)):=by
 unfold CP bJ y4.ns;rw [Bool.eq_iff_iff];simp only [c9,o8,E6,y3,z8,decide_eq_true_eq,decide_eq_false_iff_not,O1];constructor
 .rintro ⟨⟨h1,h2,h3⟩,h4⟩;exact ⟨⟨by omega,by omega⟩,h1⟩
 .rintro ⟨⟨h2,h3⟩,h1⟩;exact ⟨⟨h1,by omega,by omega⟩,by omega⟩
def XS {c:y4}{n:Int}(h:CP c n=true):bJ c n=true/\0<=n/\n<c.o7.length:=by
 unfold CP at h;rw [c9] at h;have h1:=(EX h.1).2.2;exact ⟨h.1,h1.1,C6 h.2⟩
def xK (p8:List aJ):Nat->List Int
 |0=>[]
 |k+1=>xK p8 k++(if F3 0 (nth p8 k).F7.length then [(k:Int)] else [])
def ak8 {p8:List aJ}{k:Nat}(h:F3 0 (nth p8 k).F7.length=false):xK p8 (k+1)=xK p8 k:=by
 simp only [xK];rw [h];simp
def ak9 {p8:List aJ}{k:Nat}(h:F3 0 (nth p8 k).F7.length=true):xK p8 (k+1)=xK p8 k++[(k:Int)]:=by
 simp only [xK];rw [h];simp
theorem tq (p8:List aJ):∀ k,(xK p8 k).length<=k
 |0=>o5 _
 |k+1=>by
  have:=tq p8 k;simp only [xK];split<;>simp<;>omega
def tj (c:y4)(n:Int):List Int:=xK (nth c.o7 n.toNat).p8 (nth c.o7 n.toNat).p8.length
set_option maxHeartbeats 8000000 in
def aD2 (c:y4)(hs:Q2 c)(n:Nat)(h:CP c n=true):Pf A 103 [cat c,.d (num n)] (.d (ints (tj c n))):=by
 have p10:=aC0 c hs;have e:(F3 n 0||aF c.o7.length n|| !N9 c)=false:=by
  have e:=congrArg (!·) (CQ c n);rw [h] at e;simp only [Bool.not_not,Bool.not_true] at e;exact e.symm
 have h3:=XS h;have hcl:=hs.sm.p8 n (by omega);obtain ⟨t,ht⟩:∃ t,nth c.o7 n=t:=⟨_,rfl⟩;have e9:tj c n=xK t.p8 t.p8.length:=by unfold tj;rw [Int.toNat_natCast,ht]
 rw [ht] at hcl;rw [e9];refine Pf.run [cat c,.d (num n),.any,.any,.any,.any,.any,.any,.any,.any] rfl rfl rfl rfl ?_;refine gr ?_;refine tB (F3 n 0||aF c.o7.length n|| !N9 c) ?_ (fun h1=> ?_) (fun h1=> ?_)
 .repeat' (first|refine cl (p10) ?_|refine gx ?_|refine fk (h1:=fun hw=> ?_) (h2:=fun hw=> ?_)|refine U0 (h1:=fun hw=> ?_) (h2:=fun hw=> ?_)|refine ⟨rfl,rfl,_,rfl,?_⟩|refine ⟨rfl,rfl⟩|fail)
  all_goals exact cc
 .rw [e] at h1;cases h1
 refine gr ?_;rw [ht];refine gr ?_;refine Ex.X8 (fun q T H=>∃ (k:Nat),T=[.any,.any,.any,.any,C9 1 (fun n=>[num n]) (xK t.p8 k),.any,.any,.d (A5 aJ.enc t.p8),.d (num t.p8.length),.d (num k)]/\H=[.cells (c.enc.map .d)]/\k+q=t.p8.length) ?_ (k:=t.p8.length) ⟨0,rfl,rfl,by simp⟩;rintro q _ _ ⟨k,rfl,rfl,hq⟩;have Ls:=tq t.p8 k;refine Ex.seq ?_;refine tb (F3 k t.p8.length) (fun g1=> ?_) (fun g1=> ?_)
 .have g2:=C6 g1
  refine gr ?_;refine tb (F3 0 (nth t.p8 k).F7.length) (fun g3=> ?_) (fun g3=> ?_)
  .refine gr ?_
   exact ⟨q - 1,by omega,_,_,rfl,k+1,by rw [ak9 g3];rfl,rfl,by omega⟩
  .refine gr ?_
   exact ⟨q - 1,by omega,_,_,rfl,k+1,by rw [ak8 g3];rfl,rfl,by omega⟩
 .have g2:=C5 g1
  obtain rfl:k=t.p8.length:=by omega
  refine gr ?_;exact ⟨_,rfl,rfl⟩
theorem KR:∀ xs:List Int,B8 (xs.map iv)=0
 |[]=>rfl
 |x::xs=>by simp [B8,iv,j3.L7,KR xs]
theorem Ll:∀ xs:List Int,(xs.flatMap fun n=>[num n])=xs.map num
 |[]=>rfl
 |x::xs=>by simp [Ll xs]
theorem Th (H:q8)(n:Nat):∀ (xs:List Int) (f:Nat),xs.length<f->bH H n f (xs.map iv)=some (xs.map iv)
 |[],f+1,_=>rfl
 |x::xs,f+1,h=>by
  have ih:=Th H n xs f (by simp at h;omega);simp only [E0,bH,ih,iv]
theorem SF:∀ xs:List Int,M5 (xs.map iv)=some (xs.map num)
 |[]=>rfl
 |x::xs=>by simp only [E0,M5,iv,j3.data?];rw [SF xs]
section
variable {b:Nat} {l6 ops:List p9} {T:List j3} {n:Nat} {rl:List j3} {p6:List Abs.Touch} {Q:List j3->q8->List j3->Prop}
end
end Go.Proofs.YtibjocmpkoepoaaGreat


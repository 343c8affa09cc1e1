import Derived.Test.YtibjocmpkoepoaaGreatUW0
set_option linter.all false
open Bool renaming and_eq_true → c7, false_eq_true → j3, not_eq_false' → C7, not_eq_true' → n5, or_eq_false_iff → F3
open List renaming drop_of_length_le → l5, map_cons → F4, mem_cons → B4, replicate → c9, take_of_length_le → B5
open Nat renaming ble → E3, le_refl → o5, lt_or_ge → y4
namespace Go.Proofs.YtibjocmpkoepoaaGreat
open Go.x9 Go.x9.S
attribute [local irreducible] Rx Ry Rn Ex Pf
theorem sE (c:y5):∀ k i,(bQ c k i).2=0->bQ c k i=(0,0)/\∀ m,i<=m->m<i+k->Q2 c m=0
 |0,i,_=>⟨rfl,fun m h1 h2=>absurd h1 (by omega)⟩
 |k+1,i,h=>by
  rw [bQ] at h ⊢;cases e:s8 (Q2 c i) 0 with
  |false =>
   simp only [e,Bool.not_false,if_true] at h;exact absurd h (CQ e)
  |true =>
   simp only [e,Bool.not_true,j3,if_false] at h ⊢;obtain ⟨h1,h2⟩:=sE c k (i+1) h;refine ⟨h1,fun m g1 g2=> ?_⟩
   rcases y4 i m with g3|g3
   .exact h2 m g3 (by omega)
   .obtain rfl:m=i:=by omega
    exact aQ e
def CI {c:y5}(h:(O5 c).2=0):(O5 c).1=0/\tooMany c=false/\kO c c.names.length:=by
 unfold O5 at h ⊢;cases e:tooMany c with
 |true=>rw [e] at h;simp at h
 |false =>
  rw [e] at h;simp only [j3,if_false] at h ⊢;obtain ⟨h1,h2⟩:=sE c _ _ h;exact ⟨by rw [h1],trivial,fun m hm=>h2 m (by omega) (by omega)⟩
def SE {c:y5}{fds:List L3}{LU:List eP}{v:c8}{H1:o9}(h:jt c fds LU v H1):v= .tuple [.d .br,.d (num (O5 c).1),.d (num (O5 c).2)]\/v= .tuple [.ptr 4 0,.d (num (O5 c).1),.d (num (O5 c).2)]:=by
 obtain ⟨_,h1,h2⟩:=h;cases e:s8 (O5 c).2 0 with
 |false=>exact .inl (h1 e)
 |true =>
  refine .inr ((h2 e).1.trans ?_);rw [aQ e,(CI (aQ e)).1]
def K1 (c:y5):Bool:=s8 (O5 c).2 0
def UH (c:y5)(hs:O4 c):Pf A 46 [cat c] (.d (.bool (K1 c))):=by
 obtain ⟨v,H1,hp,QS⟩:=Oe c hs;have hle:=EV hp;refine Pf.run [cat c,.any,.any,.any] rfl rfl rfl rfl ?_
 rcases SE hp with rfl|rfl
 .repeat' (first|refine cp QS hle ?_|refine gx ?_|fail)
  exact ⟨_,rfl,rfl⟩
 .repeat' (first|refine cp QS hle ?_|refine gx ?_|fail)
  exact ⟨_,rfl,rfl⟩
def ck {b:Nat}{dr:Bool}{j9 ops:List p6}{T:List c8}{n:Nat}{rl:List c8}{o7:List x9.Touch}{Q:List c8->o9->List c8->Prop}{c:y5}{ds:List L3}{ss:List eP}{R:o9}{f:FuncId}{xs:List y6}{u:List Nat}{v:c8}{args:List c8}(hc:Pm A f args (HH c ds ss) lR v (HH c ds ss))(h2:Ry A S8 b dr j9 ops T (HH c ds ss++R) (n+1) (v::rl) o7 Q)
  (ha:xs.map (rq T n rl)=args:=by rfl) (hb:A4 args=5:=by rfl) (gj:A.prom f=false:=by rfl) (hm:A.mode f=1:=by rfl):Ry A S8 b dr j9 (⟨.call f xs,none,none,u⟩::ops) T (HH c ds ss++R) n rl o7 Q:=by
 have Fq:=yR c ds ss;have Yk:=sg c ds ss;refine c1 hc rfl h2 (m:=5) ?_ ?_ rfl rfl ?_ ha gj hm
 .show L8 (HH c ds ss)<=5
  exact Fq
 .rw [hb]
  exact bS (by show L8 (HH c ds ss)<=5;exact Fq)
 .show F2.mk 0 5 5 (C9 _ 0 5)=lR
  rw [tP (by show T6 (HH c ds ss) 0=true;exact Yk)];rfl
def aS (c:y5)(n:Int):Bool:=K1 c&&(ah 0 n&&F0 n (y5.ns c))
def at4 (c:y5){n:Int}(h:0<=n/\n<(y5.ns c)):nth (Q9 c (y5.ns c)) n.toNat=oI c n.toNat:=bW c (by omega)
def Fw {c:y5}{n:Int}(h:aS c n=true):s8 (O5 c).2 0=true/\(ah 0 n&&F0 n (y5.ns c))=true/\0<=n/\n<(y5.ns c):=by
 unfold aS K1 at h;rw [c7] at h;exact ⟨h.1,h.2,by simpa [s9,y3] using h.2⟩
def ae3 (c:y5)(hs:O4 c)(n:Int)(h:aS c n=true):Pf A 115 [cat c,.d (num n)] (.d (ints (P4 c n.toNat))):=by
 obtain ⟨v,H1,hp,QS⟩:=Oe c hs;have hle:=EV hp;obtain ⟨_,hp1,hp2⟩:=hp;obtain ⟨e,h2,h3⟩:=Fw h;obtain ⟨rfl,rfl⟩:=hp2 e;have h4:=at4 c h3;have h6:=X4 c (y5.ns c);have p38:=bn2 c c.names (Q9 c (y5.ns c)) n;rw [X4,h2] at p38;refine Pf.run [cat c,.d (num n),.any,.any,.any,.any] rfl rfl rfl rfl ?_
 repeat' (first|refine cp QS hle ?_|refine gx ?_|fail)
 refine tB (false) ?_ (fun h1=> ?_) (fun h1=> ?_)
 .repeat' (first|refine ck p38 ?_|refine gx ?_|refine fk (h1:=fun hw=> ?_) (h2:=fun hw=> ?_)|refine R8 (h1:=fun hw=> ?_) (h2:=fun hw=> ?_)|refine ⟨rfl,rfl,_,rfl,?_⟩|refine ⟨rfl,rfl⟩|fail)
  all_goals exact cc
 .cases h1
 refine gr ?_;exact ⟨_,rfl,by rw [h4];rfl⟩
def iv (n:Int):c8:= .d (num n)
theorem rJ:∀ xs:List Int,jA (xs.map iv)=some xs
 |[]=>rfl
 |x::xs=>by
  have:=rJ xs;simp only [F4,iv,num,jA];rw [this]
theorem qc:∀ xs:List Int,(bZ xs).length=xs.length
 |[]=>rfl
 |x::xs=>by
  have h:∀ l:List Int,(xU x l).length=l.length+1:=fun l=>by
   induction l with
   |nil=>rfl
   |cons y l ih=>simp only [xU];split<;>simp [ih]
  simp [bZ,h,qc xs]
theorem sK:∀ xs:List Int,(aP xs).length<=xs.length
 |[]=>o5 _
 |[x]=>o5 _
 |x::y::l=>by
  have:=sK (y::l);simp only [aP];split<;>simp at this ⊢<;>omega
def We {H:o9}{id:Nat}{old vs:List c8}(ho:H[id]? =some (.cells old))(hl:vs.length=old.length):wr H id 0 vs=some (H.set id (.cells vs)):=by
 simp [wr,ho,hl,splice,l5]
def Vd {H:o9}{id len:Nat}{old:List c8}(ho:H[id]? =some (.cells old))(hl:old.length=len):rd H id 0 len=some old:=by
 simp [rd,ho,hl,B5]
def UF {H:o9}{id len:Nat}{l:F2}{xs:List Int}(hm:l.may id=true)(ho:H[id]? =some (.cells (xs.map iv)))(hl:xs.length=len)(hb:E3 len 1000000=true:=by rfl):Du [.A8 id 1 0 len] H l=some (.tuple [],H.set id (.cells ((bZ xs).map iv))):=by
 have h1:=Vd (len:=len) ho (by simp [hl]);have h2:=We (vs:=(bZ xs).map iv) ho (by simp [qc]);simp only [Du,hm,hb,Bool.and_self,if_true,h1,rJ];rw [show ((bZ xs).map fun n=>c8.d (.int .i64 n))=(bZ xs).map iv from rfl,h2]
def IP {H:o9}{id len:Nat}{l:F2}{xs:List Int}(hm:l.may id=true)(ho:H[id]? =some (.cells (xs.map iv)))(hl:xs.length=len)(hb:E3 len 1000000=true:=by rfl) :
  kR [.A8 id 1 0 len] H l=some (.A8 id 1 0 (aP xs).length,H.set id (.cells ((aP xs++c9 (xs.length - (aP xs).length) 0).map iv))):=by
 have h1:=Vd (len:=len) ho (by simp [hl]);have h3:=sK xs;have h2:=We (vs:=(aP xs++c9 (xs.length - (aP xs).length) 0).map iv) ho (by simp;omega);simp only [kR,hm,hb,Bool.and_self,if_true,h1,rJ];have h4:wr H id 0 ((aP xs++c9 (xs.length - (aP xs).length) 0).map fun n=>c8.d (.int .i64 n))=_:=h2;rw [h4]
def sns (c:y5):List L3:=(Q9 c (y5.ns c)).map (·.1)
end Go.Proofs.YtibjocmpkoepoaaGreat
namespace Go.Proofs.YtibjocmpkoepoaaGreat.nB
open Go.x9 Go.x9.S
attribute [local irreducible] Rx Ry Rn Ex Pf
variable [Inhabited XO]
def ck {b:Nat}{dr:Bool}{j9 ops:List p6}{T:List c8}{n:Nat}{rl:List c8}{o7:List x9.Touch}{Q:List c8->o9->List c8->Prop}{c:y5}{ds:List L3}{ss:List eP}{R:o9}{f:FuncId}{xs:List y6}{u:List Nat}{v:c8}{args:List c8}(hc:Pm A f args (HH c ds ss) lR v (HH c ds ss))(h2:Ry A S8 b dr j9 ops T (HH c ds ss++R) (n+1) (v::rl) o7 Q)
  (ha:xs.map (rq T n rl)=args:=by rfl) (hb:A4 args=6:=by rfl) (gj:A.prom f=false:=by rfl) (hm:A.mode f=1:=by rfl):Ry A S8 b dr j9 (⟨.call f xs,none,none,u⟩::ops) T (HH c ds ss++R) n rl o7 Q:=by
 have Fq:=yR c ds ss;have Yk:=sg c ds ss;refine c1 hc rfl h2 (m:=6) ?_ ?_ rfl rfl ?_ ha gj hm
 .show L8 (HH c ds ss)<=6
  exact Fq
 .rw [hb]
  exact bS (by show L8 (HH c ds ss)<=6;exact Fq)
 .show F2.mk 0 6 6 (C9 _ 0 6)=lR
  rw [tP (by show T6 (HH c ds ss) 0=true;exact Yk)];rfl
end Go.Proofs.YtibjocmpkoepoaaGreat.nB
namespace Go.Proofs.YtibjocmpkoepoaaGreat.nB
open Go.x9 Go.x9.S
attribute [local irreducible] Rx Ry Rn Ex Pf
variable [Inhabited XO]
end Go.Proofs.YtibjocmpkoepoaaGreat.nB
namespace Go.Proofs.YtibjocmpkoepoaaGreat.nB
open Go.x9 Go.x9.S
attribute [local irreducible] Rx Ry Rn Ex Pf
variable [Inhabited XO]
end Go.Proofs.YtibjocmpkoepoaaGreat.nB
namespace Go.Proofs.YtibjocmpkoepoaaGreat
open Go.x9 Go.x9.S
attribute [local irreducible] Rx Ry Rn Ex Pf
def aR (c:y5)(s:L3):Int:=if K1 c then J6 s (sns c) 0 else -1
def bl8 (c:y5)(hs:O4 c)(s:L3):Pf A 71 [cat c,.d (.str s)] (.d (num (aR c s))):=by
 letI:Inhabited nB.XO:=⟨⟨0⟩⟩
 obtain ⟨v,H1,hp,QS⟩:=nB.Oe c hs;have hle:=nB.EV hp;obtain ⟨⟨R,hR⟩,hp1,hp2⟩:=hp;refine Pf.run [cat c,.d (.str s),.any,.any,.any,.any] rfl rfl rfl rfl ?_;cases e:s8 (O5 c).2 0 with
 |false =>
  obtain rfl:=hp1 e;subst hR
  repeat' (first|refine dfl ?_|refine cp QS hle ?_|refine gx ?_|fail)
  refine tB (true) ?_ (fun h1=> ?_) (fun h1=> ?_)
  .repeat' (first|refine cl (e) ?_|refine gx ?_|refine fk (h1:=fun hw=> ?_) (h2:=fun hw=> ?_)|refine R8 (h1:=fun hw=> ?_) (h2:=fun hw=> ?_)|refine ⟨rfl,rfl,_,rfl,?_⟩|refine ⟨rfl,rfl⟩|fail)
   all_goals exact cc
  .refine gr ?_
   exact ⟨_,rfl,by unfold aR K1;rw [e];rfl⟩
  .cases h1
 |true =>
  obtain ⟨rfl,hH⟩:=hp2 e;have Rj:=nB.Jb c c.names (Q9 c (y5.ns c)) s;subst hH
  repeat' (first|refine dfl ?_|refine cp QS hle ?_|refine gx ?_|fail)
  refine tB (false) ?_ (fun h1=> ?_) (fun h1=> ?_)
  .repeat' (first|refine cl (e) ?_|refine gx ?_|refine fk (h1:=fun hw=> ?_) (h2:=fun hw=> ?_)|refine R8 (h1:=fun hw=> ?_) (h2:=fun hw=> ?_)|refine ⟨rfl,rfl,_,rfl,?_⟩|refine ⟨rfl,rfl⟩|fail)
   all_goals exact cc
  .cases h1
  repeat' (first|refine nB.ck Rj ?_|refine gx ?_|fail)
  exact ⟨_,rfl,by unfold aR K1;rw [e];rfl⟩
def ao9 (c:y5)(hs:O4 c):Pf A 40 [cat c] (.d (.bool (K1 c))):=by
 have p:=bl9 c hs;unfold pair at p;refine Pf.run [cat c,.any,.any,.any] rfl rfl rfl rfl ?_
 repeat' (first|refine cl (p) ?_|refine gx ?_|fail)
 exact ⟨_,rfl,rfl⟩
def TU (c:y5)(n:Int):aS c n=(y7 n 0 ((c.k9.length:Int)+c.views.length - 1)&&K1 c):=by
 unfold aS y7 y5.ns;rw [Bool.eq_iff_iff];simp only [c7,s9,y3,decide_eq_true_eq];constructor
 .rintro ⟨h1,h2,h3⟩;exact ⟨⟨h2,by omega⟩,h1⟩
 .rintro ⟨⟨h2,h3⟩,h1⟩;exact ⟨h1,h2,by omega⟩
def bm5 (c:y5)(hs:O4 c)(n:Int):Pf A 53 [cat c,.d (num n)] (.d (.bool (aS c n))):=by
 obtain ⟨f0,f1,f2,f3,f4,f5,f6,f7⟩:=id hs.sm.qy;have p36:=ao9 c hs;have p95:=IW n 0 ((c.k9.length:Int)+c.views.length - 1);rw [TU];refine Pf.run [cat c,.d (num n),.any,.any] rfl rfl rfl rfl ?_
 repeat' (first|refine cl (p95) ?_|refine cl (p36) ?_|refine gx ?_|refine fk (h1:=fun hw=> ?_) (h2:=fun hw=> ?_)|refine R8 (h1:=fun hw=> ?_) (h2:=fun hw=> ?_)|refine Ex.O6 ?_|refine Ex.P0 ?_|refine Ex.cond rfl (fun ht=> ?_) (fun ht=> ?_)|refine Ex.test (Rn.text ?_)|refine Ex.test (Rn.draw ?_)|refine ⟨_,rfl,fun ht=> ?_,fun ht=> ?_⟩|refine ⟨_,rfl,?_⟩|fail)
 all_goals simp [*,j7]
def De (c:y5)(n:Int):Bool:=aS c n&&F0 n c.k9.length
def BB {c:y5}(h:K1 c=true):kO c c.names.length/\tooMany c=false/\DK c (y5.ns c):=by
 have h1:=CI (aQ h);have hnl:=bg c;exact ⟨h1.2.2,h1.2.1,tq (fun m hm=>h1.2.2 m (by omega)) (o5 _)⟩
def Yt {c:y5}{n:Int}(h:aS c n=true):K1 c=true:=by
 unfold aS at h;rw [c7] at h;exact h.1
def zS (c:y5)(s:L3):Int:=if K1 c then J1 c s (y5.ns c) else -1
def bm1 (c:y5)(hs:O4 c)(s:L3):Pf A 86 [cat c,.d (.str s)] (.d (num (zS c s))):=by
 obtain ⟨f0,f1,f2,f3,f4,f5,f6,f7⟩:=id hs.sm.qy;have eV:y5.ns c=c.k9.length+c.views.length:=rfl;have p36:=ao9 c hs;have p84:=Mu c s (y5.ns c) hs.sm.qy (by omega);rw [show ((y5.ns c:Nat):Int)=(c.k9.length:Int)+c.views.length by omega] at p84;refine Pf.run [cat c,.d (.str s),.any,.any] rfl rfl rfl rfl ?_;refine gr ?_;refine tB (!K1 c) ?_ (fun h1=> ?_) (fun h1=> ?_)
 .repeat' (first|refine cl (p36) ?_|refine gx ?_|refine fk (h1:=fun hw=> ?_) (h2:=fun hw=> ?_)|refine R8 (h1:=fun hw=> ?_) (h2:=fun hw=> ?_)|refine ⟨rfl,rfl,_,rfl,?_⟩|refine ⟨rfl,rfl⟩|fail)
  all_goals exact cc
 .refine gr ?_
  exact ⟨_,rfl,by unfold zS;rw [n5] at h1;rw [h1];rfl⟩
 .repeat' (first|refine cl (p84) ?_|refine gx ?_|fail)
  exact ⟨_,rfl,by unfold zS;rw [C7] at h1;rw [h1];rfl⟩
def ai9 (c:y5)(s:L3):zS c s=if K1 c then J6 s (sns c) 0 else -1:=by
 unfold zS J1 sns;rw [oJ c (o5 _)]
def UN (c:y5)(hs:O4 c)(n:Int)(h:aS c n=true):Pf A 20 [cat c,.d (num n)] (.d (ints (P4 c n.toNat))):=by
 have p85:=bm5 c hs n;rw [h] at p85;have h2:=BB (Yt h);have h3:=(Fw h).2.2;have p:=(kS c hs (y5.ns c) n.toNat (by omega) (o5 _) h2.2.2).1;rw [Int.toNat_of_nonneg h3.1] at p;refine Pf.run [cat c,.d (num n),.any,.any] rfl rfl rfl rfl ?_;refine gr ?_;refine tB (false) ?_ (fun h1=> ?_) (fun h1=> ?_)
 .repeat' (first|refine cl (p85) ?_|refine gx ?_|refine fk (h1:=fun hw=> ?_) (h2:=fun hw=> ?_)|refine R8 (h1:=fun hw=> ?_) (h2:=fun hw=> ?_)|refine ⟨rfl,rfl,_,rfl,?_⟩|refine ⟨rfl,rfl⟩|fail)
  all_goals exact cc
 .cases h1
 repeat' (first|refine cl (p) ?_|refine gx ?_|fail)
 exact ⟨_,rfl,rfl⟩
def IsL (w:c8)(xs:List Int):Prop:=w= .d (ints xs)\/w=C4 1 (fun n=>[num n]) xs
def IsL.as {w:c8}{xs:List Int}(h:IsL w xs):w.J2= .d (ints xs):=by
 rcases h with rfl|rfl<;>rfl
theorem Dd (s:L3):∀ (l:List L3) (k i:Nat),0<=J6 s (l.take k) i->J6 s l i=J6 s (l.take k) i
 |[],k,i,h=>by simp
 |d::l,0,i,h=>by simp [J6] at h
 |d::l,k+1,i,h=>by
  simp only [List.take_succ_cons,J6] at h ⊢;split
  .rfl
  .rename_i h1
   rw [if_neg h1] at h;exact Dd s l k (i+1) h
end Go.Proofs.YtibjocmpkoepoaaGreat
namespace Go.Proofs.YtibjocmpkoepoaaGreat
open Go.x9 Go.x9.S
theorem Iq (x s:Int):∀ l:List Int,s ∈ xU x l↔s=x\/s ∈ l
 |[]=>by simp [xU]
 |y::l=>by
  simp only [xU];split
  .simp
  .simp only [B4,Iq x s l]
   exact or_left_comm
theorem Dq (s:Int):∀ l:List Int,s ∈ bZ l↔s ∈ l
 |[]=>by simp [bZ]
 |x::l=>by simp only [bZ,Iq,Dq s l,B4]
theorem Ip (s:Int):∀ l:List Int,s ∈ aP l↔s ∈ l
 |[]=>by simp [aP]
 |[x]=>by simp [aP]
 |x::y::l=>by
  have ih:=Ip s (y::l);simp only [aP];split
  .rename_i h
   subst h;rw [ih];simp
  .simp only [B4] at ih ⊢
   rw [ih]
attribute [local irreducible] Rx Ry Rn Ex Pf
def l8:F2:=⟨0,8,8,8⟩
def HD (c:y5)(st:Int)(x:c8):o9:=[.cells (c.enc.map .d),.cells [.d (num st)],.cells (c.enc.map .d),.map (dmap c.names),.map (X3 ((Q9 c (y5.ns c)).map (·.1)) 0),.cells (c.enc.map .d++[.map 3,.map 4,C4 2 L6 (Q9 c (y5.ns c))]),.cells (nB.U8 c),.cells [x]]
section
variable {b:Nat} {dr:Bool} {j9 ops:List p6} {T:List c8} {n:Nat} {rl:List c8} {o7:List x9.Touch} {Q:List c8->o9->List c8->Prop}
end
def Df (c:y5)(n:Int):De c n=(!(F0 n 0||ah c.k9.length n|| !K1 c)):=by
 unfold De aS y5.ns;rw [Bool.eq_iff_iff];simp only [c7,n5,F3,s9,y3,decide_eq_true_eq,decide_eq_false_iff_not,C7];constructor
 .rintro ⟨⟨h1,h2,h3⟩,h4⟩;exact ⟨⟨by omega,by omega⟩,h1⟩
 .rintro ⟨⟨h2,h3⟩,h1⟩;exact ⟨⟨h1,by omega,by omega⟩,by omega⟩
def Yu {c:y5}{n:Int}(h:De c n=true):aS c n=true/\0<=n/\n<c.k9.length:=by
 unfold De at h;rw [c7] at h;have h1:=(Fw h.1).2.2;exact ⟨h.1,h1.1,A9 h.2⟩
def xY (p8:List aG):Nat->List Int
 |0=>[]
 |k+1=>xY p8 k++(if F0 0 (nth p8 k).F8.length then [(k:Int)] else [])
def ao7 {p8:List aG}{k:Nat}(h:F0 0 (nth p8 k).F8.length=false):xY p8 (k+1)=xY p8 k:=by
 simp only [xY];rw [h];simp
def ao8 {p8:List aG}{k:Nat}(h:F0 0 (nth p8 k).F8.length=true):xY p8 (k+1)=xY p8 k++[(k:Int)]:=by
 simp only [xY];rw [h];simp
theorem tv (p8:List aG):∀ k,(xY p8 k).length<=k
 |0=>o5 _
 |k+1=>by
  have:=tv p8 k;simp only [xY];split<;>simp<;>omega
def tu (c:y5)(n:Int):List Int:=xY (nth c.k9 n.toNat).p8 (nth c.k9 n.toNat).p8.length
set_option maxHeartbeats 8000000 in
def aH6 (c:y5)(hs:O4 c)(n:Nat)(h:De c n=true):Pf A 103 [cat c,.d (num n)] (.d (ints (tu c n))):=by
 have p10:=UH c hs;have e:(F0 n 0||ah c.k9.length n|| !K1 c)=false:=by
  have e:=congrArg (!·) (Df c n);rw [h] at e;simp only [Bool.not_not,Bool.not_true] at e;exact e.symm
 have h3:=Yu h;have hcl:=hs.sm.p8 n (by omega);obtain ⟨t,ht⟩:∃ t,nth c.k9 n=t:=⟨_,rfl⟩;have e9:tu c n=xY t.p8 t.p8.length:=by unfold tu;rw [Int.toNat_natCast,ht]
 rw [ht] at hcl;rw [e9];refine Pf.run [cat c,.d (num n),.any,.any,.any,.any,.any,.any,.any,.any] rfl rfl rfl rfl ?_;refine gr ?_;refine tB (F0 n 0||ah c.k9.length n|| !K1 c) ?_ (fun h1=> ?_) (fun h1=> ?_)
 .repeat' (first|refine cl (p10) ?_|refine gx ?_|refine fk (h1:=fun hw=> ?_) (h2:=fun hw=> ?_)|refine R8 (h1:=fun hw=> ?_) (h2:=fun hw=> ?_)|refine ⟨rfl,rfl,_,rfl,?_⟩|refine ⟨rfl,rfl⟩|fail)
  all_goals exact cc
 .rw [e] at h1;cases h1
 refine gr ?_;rw [ht];refine gr ?_;refine Ex.T7 (fun q T H=>∃ (k:Nat),T=[.any,.any,.any,.any,C4 1 (fun n=>[num n]) (xY t.p8 k),.any,.any,.d (z8 aG.enc t.p8),.d (num t.p8.length),.d (num k)]/\H=[.cells (c.enc.map .d)]/\k+q=t.p8.length) ?_ (k:=t.p8.length) ⟨0,rfl,rfl,by simp⟩;rintro q _ _ ⟨k,rfl,rfl,hq⟩;have HY:=tv t.p8 k;refine Ex.seq ?_;refine tb (F0 k t.p8.length) (fun g1=> ?_) (fun g1=> ?_)
 .have g2:=A9 g1
  refine gr ?_;refine tb (F0 0 (nth t.p8 k).F8.length) (fun g3=> ?_) (fun g3=> ?_)
  .refine gr ?_
   exact ⟨q - 1,by omega,_,_,rfl,k+1,by rw [ao8 g3];rfl,rfl,by omega⟩
  .refine gr ?_
   exact ⟨q - 1,by omega,_,_,rfl,k+1,by rw [ao7 g3];rfl,rfl,by omega⟩
 .have g2:=B8 g1
  obtain rfl:k=t.p8.length:=by omega
  refine gr ?_;exact ⟨_,rfl,rfl⟩
theorem Lw:∀ xs:List Int,A4 (xs.map iv)=0
 |[]=>rfl
 |x::xs=>by simp [A4,iv,c8.K5,Lw xs]
theorem LS:∀ xs:List Int,(xs.flatMap fun n=>[num n])=xs.map num
 |[]=>rfl
 |x::xs=>by simp [LS xs]
theorem Ts (H:o9)(n:Nat):∀ (xs:List Int) (f:Nat),xs.length<f->bF H n f (xs.map iv)=some (xs.map iv)
 |[],f+1,_=>rfl
 |x::xs,f+1,h=>by
  have ih:=Ts H n xs f (by simp at h;omega);simp only [F4,bF,ih,iv]
theorem SQ:∀ xs:List Int,M6 (xs.map iv)=some (xs.map num)
 |[]=>rfl
 |x::xs=>by simp only [F4,M6,iv,c8.data?];rw [SQ xs]
section
variable {b:Nat} {j9 ops:List p6} {T:List c8} {n:Nat} {rl:List c8} {o7:List x9.Touch} {Q:List c8->o9->List c8->Prop}
end
end Go.Proofs.YtibjocmpkoepoaaGreat


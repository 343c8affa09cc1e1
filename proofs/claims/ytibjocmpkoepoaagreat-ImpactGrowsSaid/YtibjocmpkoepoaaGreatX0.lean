import Derived.Test.YtibjocmpkoepoaaGreatE2
set_option linter.all false
open Bool renaming and_eq_true→c9,false_eq_true→j5,not_eq_false'→C5,not_eq_true'→o5,or_eq_false_iff→D5,true→W,false→F
open List renaming append_assoc→K2,drop_of_length_le→n5,length_append→l5,length_cons→o8,length_singleton→E4,length_take→P3,map_cons→G4,pairwise_cons→O5,replicate→c8,take_of_length_le→A4,length→O
open Nat renaming le_refl→k9,lt_or_ge→A7
open Option renaming some→J,none→K
namespace Go.Proofs.YtibjocmpkoepoaaGreat
open Go.A5 Go.A5.S
attribute [local irreducible] Rx Ry Rn Ex Pf
theorem ua (c:p9):∀k i,(ic c k i).2=0->ic c k i=(0,0)/\∀m,i<=m->m<i+k->Q6 c m=0
 |0,i,_=>⟨rfl,λm h1 h2=>absurd h1 V⟩
 |k+1,i,h=>by
  rw [ic] at h ⊢;cases e:x5 (Q6 c i) 0 with
  |false =>
   simp_all [Bool.not_false,if_true,absurd,ot]
  |true =>
   simp [e,if_false] at h ⊢;obtain ⟨h1,h2⟩:=ua c k (i+1) h
   grind [A7,br]
theorem Ef {c:p9}(h:(W5 c).2=0):(W5 c).1=0/\tooMany c=F/\lP c (O c.names):=by
 unfold W5 at h ⊢;cases e:tooMany c with
 |true=>simp_all
 |false =>
  rw [e] at h;simp only [j5,if_false] at h ⊢;obtain ⟨h1,h2⟩:=ua c _ _ h;exact ⟨by rw [h1],trivial,λm hm=>h2 m V V⟩
abbrev xV (c:p9):Inhabited XO:=⟨⟨.dead,.cells (c.enc.map .d),rfl,rfl⟩⟩
def TN [Inhabited XO] {c:p9}{fds:List K0}{fss:List gD}{v:c7}{H1:j9}(h:Ab c fds fss v H1):v= .tuple [.d .iT,.d (Z (W5 c).1),.d (Z (W5 c).2)]\/v= .tuple [.ptr 5 0,.d (Z (W5 c).1),.d (Z (W5 c).2)]:=by
 obtain ⟨_,h1,h2⟩:=h
 grind [x5,W5,trans,br,Ef]
def F1 (c:p9):Bool:=x5 (W5 c).2 0
def ar3 (c:p9)(hs:G8 c):Pf A 46 [cat c] (.d (.bool (F1 c))):=by
 letI:=xV c
 obtain ⟨v,H1,hp,XT⟩:=VF c hs;have hle:=ML hp;refine Pf.gr 3 ?_;refine Ex.fz OJ ?_
 rcases TN hp with rfl|rfl
 .repeat' (first|refine cp XT hle ?_|refine gx ?_|fail)
  exact ⟨_,rfl,rfl⟩
 .repeat' (first|refine cp XT hle ?_|refine gx ?_|fail)
  exact ⟨_,rfl,rfl⟩
def ck [Inhabited XO] {b:Nat}{dr:Bool}{j8 ops:List o3}{T:List c7}{n:Nat}{rl:List c7}{l6:List A5.Touch}{Q:List c7->j9->List c7->Prop}{c:p9}{ds:List K0}{ss:List gD}{R:j9}{f:FuncId}{xs:List y4}{u:List Nat}{v:c7}{args:List c7}(hc:Pm A f args (HH c ds ss) lR v (HH c ds ss))(h2:Ry A R5 b dr j8 ops T (HH c ds ss++R) (n+1) (v::rl) l6 Q)
  (ha:xs.map (rq T n rl)=args:=by rfl) (hb:A8 args=6:=by rfl) (iD:A.prom f=F:=by rfl) (hm:A.mode f=1:=by rfl):Ry A R5 b dr j8 (⟨.call f xs,K,K,u⟩::ops) T (HH c ds ss++R) n rl l6 Q:=by
 have hb5:=Tz c ds ss;have hd5:=Oc c ds ss;refine c1 hc rfl h2 (m:=6) ?_ ?_ rfl rfl ?_ ha iD hm
 .show F3 (HH c ds ss)<=6
  exact hb5
 .rw [hb]
  exact K6 (by show F3 (HH c ds ss)<=6;exact hb5)
 .show J2.mk 0 6 6 (B5 _ 0 6)=lR
  rw [Pu (by show ah (HH c ds ss) 0=W;exact hd5)];rfl
def bG (c:p9)(n:Int):Bool:=F1 c&&(aH 0 n&&F0 n (p9.ns c))
def at9 (c:p9){n:Int}(h:0<=n/\n<(p9.ns c)):Y (N4 c (p9.ns c)) n.toNat=qm c n.toNat:=bA c V
def Hq {c:p9}{n:Int}(h:bG c n=W):x5 (W5 c).2 0=W/\(aH 0 n&&F0 n (p9.ns c))=W/\0<=n/\n<(p9.ns c):=by
 unfold bG F1 at h;rw [c9] at h;exact ⟨h.1,h.2,by simpa [x8,A1] using h.2⟩
def Vy (c:p9)(hs:G8 c)(n:Int)(h:bG c n=W):Pf A 115 [cat c,.d (Z n)] (.d (ints (T6 c n.toNat))):=by
 letI:=xV c
 obtain ⟨v,H1,hp,XT⟩:=VF c hs;have hle:=ML hp;obtain ⟨_,hp1,hp2⟩:=hp;obtain ⟨e,h2,h3⟩:=Hq h;obtain ⟨rfl,rfl⟩:=hp2 e;have h4:=at9 c h3;have h6:=aN c (p9.ns c);have p38:=bt0 c c.names (N4 c (p9.ns c)) n;rw [aN,h2] at p38;refine Pf.gr 4 ?_;refine Ex.fz OJ ?_
 repeat' (first|refine cp XT hle ?_|refine gx ?_|fail)
 refine tB (F) ?_ (λh1=>?_) (λh1=>?_)
 .repeat' (first|refine ck p38 ?_|refine gx ?_|refine fq (λhw=>?_) λhw=>?_|refine ⟨rfl,rfl,_,rfl,?_⟩|refine ⟨rfl,rfl⟩|fail)
  all_goals exact cc
 .cases h1
 refine gr ?_;exact ⟨_,rfl,by rw [h4];rfl⟩
def iv (n:Int):c7:= .d (Z n)
theorem tr:∀xs:List Int,kK (xs.map iv)=J xs
 |[]=>rfl
 |x::xs=>by
  have:=tr xs;simp only [G4,iv,Z,kK];rw [this]
theorem qX:∀xs:List Int,O (bz xs)=O xs
 |[]=>rfl
 |x::xs=>by
  have h:∀l:List Int,O (th x l)=O l+1:=λl=>by
   induction l with
   |nil=>rfl
   |cons y l ih=>simp only [th];split<;>simp [ih]
  simp [bz,h,qX xs]
theorem uf:∀xs:List Int,O (aL xs)<=O xs
 |[]=>k9 _
 |[x]=>k9 _
 |x::y::l=>by
  have:=uf (y::l);simp only [aL];split<;>simp at this ⊢<;>omega
def Wv {H:j9}{id:Nat}{old vs:List c7}(ho:H[id]? =J (.cells old))(hl:O vs=O old):wr H id 0 vs=J (H.set id (.cells vs)):=by
 simp [wr,ho,hl,splice,n5]
def ki {H:j9}{id len:Nat}{old:List c7}(ho:H[id]? =J (.cells old))(hl:O old=len):rd H id 0 len=J old:=by
 simp [rd,ho,hl,A4]
def Vs {H:j9}{id len:Nat}{l:J2}{xs:List Int}(hm:l.may id=W)(ho:H[id]? =J (.cells (xs.map iv)))(hl:O xs=len)(hb:Nat.ble len 1000000=W:=by rfl):EW [.s6 id 1 0 len] H l=J (.tuple [],H.set id (.cells ((bz xs).map iv))):=by
 have h1:=ki (len:=len) ho (by simp [hl]);have h2:=Wv (vs:=(bz xs).map iv) ho (by simp [qX]);simp only [EW,hm,hb,Bool.and_self,if_true,h1,tr];rw [show ((bz xs).map λn=>c7.d (.int .i64 n))=(bz xs).map iv from rfl,h2]
def JW {H:j9}{id len:Nat}{l:J2}{xs:List Int}(hm:l.may id=W)(ho:H[id]? =J (.cells (xs.map iv)))(hl:O xs=len)(hb:Nat.ble len 1000000=W:=by rfl) :
  mP [.s6 id 1 0 len] H l=J (.s6 id 1 0 (O (aL xs)),H.set id (.cells ((aL xs++c8 (O xs - O (aL xs)) 0).map iv))):=by
 have h1:=ki (len:=len) ho (by simp [hl]);have h3:=uf xs;have h2:=Wv (vs:=(aL xs++c8 (O xs - O (aL xs)) 0).map iv) ho D;simp only [mP,hm,hb,Bool.and_self,if_true,h1,tr];have h4:wr H id 0 ((aL xs++c8 (O xs - O (aL xs)) 0).map λn=>c7.d (.int .i64 n))=_:=h2;rw [h4]
def sns (c:p9):List K0:=(N4 c (p9.ns c)).map (·.1)
def X6 (c:p9)(s:K0):Int:=if F1 c then J5 s (sns c) 0 else -1
def Zy (c:p9)(hs:G8 c)(s:K0):Pf A 71 [cat c,.d (.str s)] (.d (Z (X6 c s))):=by
 letI:Inhabited XO:=⟨⟨.cells (c.enc.map .d),.cells [.d (Z 0)],rfl,rfl⟩⟩
 obtain ⟨v,H1,hp,XT⟩:=VF c hs;have hle:=ML hp;obtain ⟨⟨R,hR⟩,hp1,hp2⟩:=hp;refine Pf.go 4 ?_;cases e:x5 (W5 c).2 0 with
 |false =>
  obtain rfl:=hp1 e;subst hR
  repeat' (first|refine dfl ?_|refine cp XT hle ?_|refine gx ?_|fail)
  refine tc (W) e (λh1=>?_) (λh1=>?_)
  .refine gr ?_
   exact ⟨_,rfl,by unfold X6 F1;rw [e];rfl⟩
  .cases h1
 |true =>
  obtain ⟨rfl,hH⟩:=hp2 e;have p61:=Nw c c.names (N4 c (p9.ns c)) s;subst hH
  repeat' (first|refine dfl ?_|refine cp XT hle ?_|refine gx ?_|fail)
  refine tc (F) e (λh1=>?_) (λh1=>?_)
  .cases h1
  repeat' (first|refine ck p61 ?_|refine gx ?_|fail)
  exact ⟨_,rfl,by unfold X6 F1;rw [e];rfl⟩
def Nv (c:p9)(hs:G8 c):Pf A 40 [cat c] (.d (.bool (F1 c))):=by
 have p:=br3 c hs;unfold pair at p;refine Pf.go 3 ?_;refine gc p ?_;exact ⟨_,rfl,rfl⟩
def UP (c:p9)(n:Int):bG c n=(s4 n 0 ((O c.j7:Int)+O c.views - 1)&&F1 c):=by
 unfold bG s4 p9.ns;rw [Bool.eq_iff_iff];simp only [c9,x8,A1,decide_eq_true_eq];constructor
 .rintro ⟨h1,h2,h3⟩;exact ⟨⟨h2,V⟩,h1⟩
 .rintro ⟨⟨h2,h3⟩,h1⟩;exact ⟨h1,h2,V⟩
def aL7 (c:p9)(hs:G8 c)(n:Int):Pf A 53 [cat c,.d (Z n)] (.d (.bool (bG c n))):=by
 obtain ⟨f0,f1,f2,f3,f4,f5,f6,f7⟩:=id hs.sm.iC;have p36:=Nv c hs;have p95:=tE n 0 ((O c.j7:Int)+O c.views - 1);rw [UP];refine Pf.go 2 ?_
 repeat' (first|refine cl (p95) ?_|refine cl (p36) ?_|refine gy ?_|refine fq (λhw=>?_) λhw=>?_|refine ⟨_,rfl,?_⟩|fail)
 all_goals simp [*,j4]
def pV (c:p9)(n:Int):Bool:=bG c n&&F0 n (O c.j7)
def bs3 (c:p9)(hs:G8 c)(n:Int):Pf A 106 [cat c,.d (Z n)] (.d (.bool (pV c n))):=by
 have p85:=aL7 c hs n;unfold pV;refine Pf.go 2 ?_
 repeat' (first|refine cl (p85) ?_|refine gy ?_|refine fq (λhw=>?_) λhw=>?_|refine ⟨_,rfl,?_⟩|fail)
 all_goals simp [*,j4]
def bW {c:p9}(h:F1 c=W):lP c (O c.names)/\tooMany c=F/\uX c (p9.ns c):=by
 have h1:=Ef (br h);have hnl:=V0 c;exact ⟨h1.2.2,h1.2.1,jY (λm hm=>h1.2.2 m V) (k9 _)⟩
def OT {c:p9}{n:Int}(h:bG c n=W):F1 c=W:=by
 unfold bG at h;rw [c9] at h;exact h.1
def jt (c:p9)(s:K0):Int:=if F1 c then F8 c s (p9.ns c) else -1
def ar4 (c:p9)(hs:G8 c)(s:K0):Pf A 86 [cat c,.d (.str s)] (.d (Z (jt c s))):=by
 obtain ⟨f0,f1,f2,f3,f4,f5,f6,f7⟩:=id hs.sm.iC;have eD:p9.ns c=O c.j7+O c.views:=rfl;have p36:=Nv c hs;have p84:=HA c s (p9.ns c) hs.sm.iC V;rw [show ((p9.ns c:Nat):Int)=(O c.j7:Int)+O c.views by omega] at p84;refine Pf.gr 2 ?_;refine tc (!F1 c) p36 (λh1=>?_) (λh1=>?_)
 .refine gr ?_
  exact ⟨_,rfl,by unfold jt;rw [o5] at h1;rw [h1];rfl⟩
 .refine gc p84 ?_
  exact ⟨_,rfl,by unfold jt;rw [C5] at h1;rw [h1];rfl⟩
def al2 (c:p9)(s:K0):jt c s=if F1 c then J5 s (sns c) 0 else -1:=by
 unfold jt F8 sns;rw [qn c (k9 _)]
def aL4 (c:p9)(hs:G8 c)(n:Int)(h:bG c n=W):Pf A 20 [cat c,.d (Z n)] (.d (ints (T6 c n.toNat))):=by
 have p85:=aL7 c hs n;rw [h] at p85;have h2:=bW (OT h);have h3:=(Hq h).2.2;have p:=(kg c hs (p9.ns c) n.toNat V (k9 _) h2.2.2).1;rw [Int.toNat_of_nonneg h3.1] at p;refine Pf.gr 2 ?_;refine tc (F) p85 (λh1=>?_) (λh1=>?_)
 .cases h1
 refine gc p ?_;exact ⟨_,rfl,rfl⟩
def fT:List Int->Int->List Int
 |[],n=>[n]
 |x::l,n=>if x<n then x::fT l n else if x=n then x::l else n::x::l
theorem Og:∀(l:List Int) (n:Int) (i:Nat),i<=O l->(∀j,j<i->Y l j<n)->(i<O l->¬ Y l i<n)->fT l n=if i<O l/\Y l i=n then l else l.take i++[n]++l.drop i
 |[],n,i,h,_,_=>by
  simp_all [fT]
 |x::l,n,0,h,_,h2=>by
  grind [Y,fT]
 |x::l,n,i+1,h,h1,h2=>by
  have h0:∀j,j<O l->Y (x::l) (j+1)=Y l j:=λj hj=>by simp_all [F9]
  have h3:x<n:=by have:=h1 0 V;simp_all [F9]
  have hl:i<=O l:=by simpa using h
  have ih:=Og l n i hl (λj hj=>by grind) (λhi=>M)
  grind [fT,Y]
def IsL (w:c7)(xs:List Int):Prop:=w= .d (ints xs)\/w=B9 1 (λn=>[Z n]) xs
def IsL.as {w:c7}{xs:List Int}(h:IsL w xs):w.K9= .d (ints xs):=by
 rcases h with rfl|rfl<;>rfl
set_option maxHeartbeats 2000000 in
def bs1 (l:List Int)(n:Int)(hl:O l<=200000):∃w,IsL w (fT l n)/\Pf A 135 [.d (ints l),.d (Z n)] w:=by
 obtain ⟨i,hi1,hi2,hi3⟩:∃i,i<=O l/\(∀j,j<i->Y l j<n)/\(i<O l->¬ Y l i<n):=by
  clear hl
  induction l with
  |nil=>exact ⟨0,U,U,U⟩
  |cons x l ih =>
   by_cases hx:x<n
   .obtain ⟨i,h1,h2,h3⟩:=ih
    have h0:∀j,j<O l->Y (x::l) (j+1)=Y l j:=λj hj=>by rw [F9 D,F9 hj];simp
    refine ⟨i+1,D,λj hj=>?_,λhi=>?_⟩
    .cases j with
     |zero=>rw [F9 U];exact hx
     |succ j=>rw [h0 j V];exact h2 j V
    .simp at hi
     rw [h0 i hi];exact h3 hi
   .exact ⟨0,U,U,λ_=>by rw [F9 U];exact hx⟩
 have ha:=Og l n i hi1 hi2 hi3;have key:∀w,w=(if i<O l/\Y l i=n then c7.d (ints l) else B9 1 (λn=>[Z n]) (l.take i++[n]++l.drop i))->IsL w (fT l n):=λw hw=>by
  rw [ha,hw];split
  .exact .inl rfl
  .exact .inr rfl
 refine ⟨_,key _ rfl,?_⟩;refine Pf.gr 2 ?_;refine Ex.fh (λk T H=>∃(j:Nat) (w2:c7),T=[.d (ints l),.d (Z n),w2,.d (Z j)]/\H=[]/\j+k=i) ?_ (k:=i) ⟨0,_,rfl,rfl,U⟩;rintro k _ _ ⟨j,w2,rfl,rfl,hk⟩;refine Ex.nT ?_;refine Ex.seq ?_;have hj:j<i\/j=i:=V
 refine tb (F0 j (O l)&&F0 (Y l j) n) (λh1=>?_) (λh1=>?_)
 .simp only [c9] at h1
  have h2:=C8 h1.1;have h3:=C8 h1.2;refine gr ?_;refine ⟨k - 1,?_,j+1,_,rfl,rfl,?_⟩
  .rcases hj with h|rfl
   .omega
   .exact absurd h3 (hi3 V)
  .rcases hj with h|rfl
   .omega
   .exact absurd h3 (hi3 V)
 obtain rfl:j=i:=by
  rcases hj with h|h
  .have:=hi2 j h
   simp only [Bool.and_eq_false_iff] at h1
   rcases h1 with h1|h1
   .have:=D4 h1;omega
   .have:=D4 h1;omega
  .exact h
 refine gr ?_;refine tb (F0 j (O l)&&x5 (Y l j) n) (λh4=>?_) (λh4=>?_)
 .simp only [c9] at h4
  have h2:=C8 h4.1;have h3:=br h4.2;refine gr ?_;exact ⟨_,rfl,by rw [if_pos ⟨V,h3⟩];rfl⟩
 .have e:¬ (j<O l/\Y l j=n):=by
   rintro ⟨g1,g2⟩;simp only [Bool.and_eq_false_iff] at h4
   rcases h4 with h4|h4
   .have:=D4 h4;omega
   .exact ot h4 g2
  rw [if_neg e];refine gr ?_;exact ⟨_,rfl,rfl⟩
theorem EC (s:K0):∀(l:List K0) (k i:Nat),0<=J5 s (l.take k) i->J5 s l i=J5 s (l.take k) i
 |[],k,i,h=>U
 |d::l,0,i,h=>by simp [J5] at h
 |d::l,k+1,i,h=>by
  simp [List.take_succ_cons,J5] at h ⊢;split
  .rfl
  next h1=>
   rw [if_neg h1] at h;exact EC s l k (i+1) h
end Go.Proofs.YtibjocmpkoepoaaGreat
namespace Go.Proofs.YtibjocmpkoepoaaGreat
open Go.A5 Go.A5.S
theorem Oj:∀{l m:List Int},l.Pairwise (·<·)->m.Pairwise (·<·)->(∀s,s∈l↔s∈m)->l=m
 |[],[],_,_,_=>rfl
 |[],y::m,_,_,h=>absurd ((h y).2 U) U
 |x::l,[],_,_,h=>absurd ((h x).1 U) U
 |x::l,y::m,h1,h2,h=>by
  obtain ⟨a1,b1⟩:=O5.1 h1;obtain ⟨a2,b2⟩:=O5.1 h2;have hx:=(h x).1 U;have hy:=(h y).2 U;have e:x=y:=by
   grind
  congr 1
  refine Oj b1 b2 λs=>⟨λhs=>?_,λhs=>?_⟩
  all_goals grind
theorem By (x s:Int):∀l:List Int,s∈th x l↔s=x\/s∈l
 |[]=>by simp [th]
 |y::l=>by
  simp [th];split
  .simp
  .simp [List.mem_cons,By x s l]
   grind
theorem wJ (s:Int):∀l:List Int,s∈bz l↔s∈l
 |[]=>by simp [bz]
 |x::l=>by simp [bz,By,wJ s l,List.mem_cons]
theorem Ku (x:Int):∀l:List Int,l.Pairwise (·<=·)->(th x l).Pairwise (·<=·)
 |[],_=>by simp [th]
 |y::l,h=>by
  obtain ⟨a,b⟩:=O5.1 h;simp [th];split
  .grind [O5]
  .refine O5.2 ⟨λs hs=>?_,Ku x l b⟩
   grind [By]
theorem Fi:∀l:List Int,(bz l).Pairwise (·<=·)
 |[]=>by simp [bz]
 |x::l=>Ku x _ (Fi l)
theorem uD (s:Int):∀l:List Int,s∈aL l↔s∈l
 |[]=>by simp [aL]
 |[x]=>by simp [aL]
 |x::y::l=>by
  have ih:=uD s (y::l)
  grind [aL]
theorem Iu:∀l:List Int,l.Pairwise (·<=·)->(aL l).Pairwise (·<·)
 |[],_=>by simp [aL]
 |[x],_=>by simp [aL]
 |x::y::l,h=>by
  obtain ⟨a,b⟩:=O5.1 h;have ih:=Iu (y::l) b;simp [aL];split
  .exact ih
  .refine O5.2 ⟨λs hs=>?_,ih⟩
   rw [uD] at hs;simp_all<;>grind
theorem Bw (x s:Int):∀l:List Int,s∈fT l x↔s=x\/s∈l
 |[]=>by simp [fT]
 |y::l=>by
  have ih:=Bw x s l
  grind [fT]
theorem It (x:Int):∀l:List Int,l.Pairwise (·<·)->(fT l x).Pairwise (·<·)
 |[],_=>by simp [fT]
 |y::l,h=>by
  obtain ⟨a,b⟩:=O5.1 h;simp [fT];split
  .refine O5.2 ⟨λs hs=>?_,It x l b⟩
   grind [Bw]
  grind [O5]
theorem Oh:∀(xs l:List Int),l.Pairwise (·<·)->(xs.foldl fT l).Pairwise (·<·)/\∀s,s∈xs.foldl fT l↔s∈l\/s∈xs
 |[],l,h=>⟨h,λs=>U⟩
 |x::xs,l,h=>by
  obtain ⟨h1,h2⟩:=Oh xs (fT l x) (It x l h)
  grind [Bw]
theorem fix_eq (x:Int)(xs:List Int):xs.foldl fT [x]=aL (bz (x::xs)):=by
 grind [Oh,Oj,Iu,Fi,uD,wJ]
attribute [local irreducible] Rx Ry Rn Ex Pf
def l8:J2:=⟨0,8,8,8⟩
def EE (c:p9)(n:Int):pV c n=(!(F0 n 0||aH (O c.j7) n|| !F1 c)):=by
 unfold pV bG p9.ns;rw [Bool.eq_iff_iff];simp only [c9,o5,D5,x8,A1,decide_eq_true_eq,decide_eq_false_iff_not,C5];constructor
 .rintro ⟨⟨h1,h2,h3⟩,h4⟩;exact ⟨⟨V,V⟩,h1⟩
 .rintro ⟨⟨h2,h3⟩,h1⟩;exact ⟨⟨h1,V,V⟩,V⟩
def OU {c:p9}{n:Int}(h:pV c n=W):bG c n=W/\0<=n/\n<O c.j7:=by
 unfold pV at h;rw [c9] at h;have h1:=(Hq h.1).2.2;exact ⟨h.1,h1.1,C8 h.2⟩
def zN (o7:List U4):Nat->List Int
 |0=>[]
 |k+1=>zN o7 k++(if F0 0 (O (Y o7 k).D6) then [(k:Int)] else [])
def ar1 {o7:List U4}{k:Nat}(h:F0 0 (O (Y o7 k).D6)=F):zN o7 (k+1)=zN o7 k:=by
 simp only [zN];rw [h];simp
def ar2 {o7:List U4}{k:Nat}(h:F0 0 (O (Y o7 k).D6)=W):zN o7 (k+1)=zN o7 k++[(k:Int)]:=by
 simp only [zN];rw [h];simp
theorem uL (o7:List U4):∀k,O (zN o7 k)<=k
 |0=>k9 _
 |k+1=>by
  have:=uL o7 k;simp only [zN];split<;>simp<;>omega
def uK (c:p9)(n:Int):List Int:=zN (Y c.j7 n.toNat).o7 (O (Y c.j7 n.toNat).o7)
set_option maxHeartbeats 8000000 in
def aK4 (c:p9)(hs:G8 c)(n:Nat)(h:pV c n=W):Pf A 103 [cat c,.d (Z n)] (.d (ints (uK c n))):=by
 have p10:=ar3 c hs;have e:(F0 n 0||aH (O c.j7) n|| !F1 c)=F:=by
  have e:=congrArg (!·) (EE c n);rw [h] at e;simp only [Bool.not_not,Bool.not_true] at e;exact e.symm
 have h3:=OU h;have hcl:=hs.sm.o7 n V;obtain ⟨t,ht⟩:∃t,Y c.j7 n=t:=⟨_,rfl⟩;have e9:uK c n=zN t.o7 (O t.o7):=by unfold uK;rw [Int.toNat_natCast,ht]
 rw [ht] at hcl;rw [e9];refine Pf.gr 8 ?_;refine tc (F0 n 0||aH (O c.j7) n|| !F1 c) p10 (λh1=>?_) (λh1=>?_)
 .rw [e] at h1;cases h1
 refine gr ?_;rw [ht];refine gr ?_;refine Ex.S4 (λq T H=>∃(k:Nat),T=[.any,.any,.any,.any,B9 1 (λn=>[Z n]) (zN t.o7 k),.any,.any,.d (y6 U4.enc t.o7),.d (Z (O t.o7)),.d (Z k)]/\H=[.cells (c.enc.map .d)]/\k+q=O t.o7) ?_ (k:=O t.o7) ⟨0,rfl,rfl,U⟩;rintro q _ _ ⟨k,rfl,rfl,hq⟩;have uy:=uL t.o7 k;refine Ex.seq ?_;refine tl k (O t.o7) (λg2=>?_) (λg2=>?_)
 .refine gr ?_
  refine tb (F0 0 (O (Y t.o7 k).D6)) (λg3=>?_) (λg3=>?_)
  .refine gr ?_
   exact ⟨q - 1,V,_,_,rfl,k+1,by rw [ar2 g3];rfl,rfl,V⟩
  .refine gr ?_
   exact ⟨q - 1,V,_,_,rfl,k+1,by rw [ar1 g3];rfl,rfl,V⟩
 .obtain rfl:k=O t.o7:=V
  refine gr ?_;exact ⟨_,rfl,rfl⟩
theorem GK:∀xs:List Int,A8 (xs.map iv)=0
 |[]=>rfl
 |x::xs=>by simp [A8,iv,c7.J4,GK xs]
theorem MW:∀xs:List Int,(xs.flatMap λn=>[Z n])=xs.map Z
 |[]=>rfl
 |x::xs=>by simp [MW xs]
theorem Us (H:j9)(n:Nat):∀(xs:List Int) (f:Nat),O xs<f->cH H n f (xs.map iv)=J (xs.map iv)
 |[],f+1,_=>rfl
 |x::xs,f+1,h=>by
  have ih:=Us H n xs f (by simp at h;omega);simp only [G4,cH,ih,iv]
theorem Ub:∀xs:List Int,L1 (xs.map iv)=J (xs.map Z)
 |[]=>rfl
 |x::xs=>by simp only [G4,L1,iv,c7.data?];rw [Ub xs]
section
variable {b:Nat} {j8 ops:List o3} {T:List c7} {n:Nat} {rl:List c7} {l6:List A5.Touch} {Q:List c7->j9->List c7->Prop}
end
def tC (o7:List U4)(k:Nat):List Int:=(o7.take k).flatMap U4.D6
def EU {o7:List U4}{k:Nat}(h:k<O o7):tC o7 (k+1)=tC o7 k++(Y o7 k).D6:=by
 unfold tC;rw [H8 h];simp
theorem BL {o7:List U4}(h:∀i,i<O o7->O (Y o7 i).D6<=8):∀k,k<=O o7->O (tC o7 k)<=8 * k
 |0,_=>by simp [tC]
 |k+1,hk=>by
  have:=BL h k V;have:=h k V;rw [EU V];simp;omega
def al0 (t:fR):List Int:=0::tC t.o7 (O t.o7)
def fixC (c:p9)(n:Int):List Int:=aL (bz (al0 (Y c.j7 n.toNat)))
theorem BM (t:fR):∀(xs:List Int) (p:Int), -1<=p->W3 t p xs=W->(O xs:Int)<=max 0 (O t.o7 - 1 - p)
 |[],p,_,_=>D
 |o::r,p,hp,h=>by
  simp only [W3,c9] at h;obtain ⟨⟨⟨h1,h2⟩,_⟩,h4⟩:=h;have h1:=C8 h1;have h2:=C8 h2;have ih:=BM t r o V h4;simp;omega
theorem nE (c:p9)(n:Nat):∀k i,ek c n k i=0->∀m,i<=m->m<i+k->aK c n m=0
 |0,i,_,m,h1,h2=>absurd h1 V
 |k+1,i,h,m,h1,h2=>by
  rw [ek] at h;cases e:x5 (aK c n i) 0 with
  |false =>
   simp only [e,Bool.not_false,if_true] at h;exact absurd h (ot e)
  |true =>
   simp only [e,Bool.not_true,j5,if_false] at h
   rcases A7 i m with g|g
   .exact nE c n k (i+1) h m V V
   .obtain rfl:m=i:=V
    exact br e
def gV {c:p9}{n:Nat}(hv:F1 c=W)(hn:n<O c.j7):O (Y c.j7 n).o7<=8/\∀i,i<O (Y c.j7 n).o7->O (Y (Y c.j7 n).o7 i).D6<=8:=by
 have hok:=(bW hv).1;have hnl:=V0 c;have ht:=Y0 (hok n (by unfold p9.ns at hnl;omega)) hn;have h8:=(fA ht).2;refine ⟨h8,λi hi=>?_⟩;have hc:aK c n i=0:=by
  unfold eH at ht;split at ht
  .omega
  .exact nE c n _ 0 ht i V V
 have ho:W3 (Y c.j7 n) (-1) (Y (Y c.j7 n).o7 i).D6=W:=by
  unfold aK at hc;cases h:W3 (Y c.j7 n) (-1) (Y (Y c.j7 n).o7 i).D6 with
  |true=>rfl
  |false =>
   rw [h] at hc;simp only [Bool.not_false,Bool.or_true,Bool.true_or] at hc
   repeat' split at hc
   all_goals first|omega|exact absurd trivial (by assumption)
 have:=BM _ _ _ (Int.le_refl _) ho;omega
theorem Iq (x:Int):∀l:List Int,O (fT l x)<=O l+1
 |[]=>by simp [fT]
 |y::l=>by
  have:=Iq x l;simp only [fT];split
  .simp;omega
  .split<;>simp
theorem Bh:∀(xs l:List Int),O (xs.foldl fT l)<=O l+O xs
 |[],l=>U
 |x::xs,l=>by
  have h1:=Bh xs (fT l x);have h2:=Iq x l;simp only [List.foldl_cons,o8];omega
set_option maxHeartbeats 8000000 in
def aL5 (c:p9)(hs:G8 c)(n:Nat)(h:pV c n=W):Pf A 238 [cat c,.d (Z n)] (.d (ints (fixC c n))):=by
 have p90:=bs3 c hs n;rw [h] at p90;have h3:=OU h;have hcl:=gV (OT h3.1) (n:=n) V;have e9:fixC c n=(tC (Y c.j7 n).o7 (O (Y c.j7 n).o7)).foldl fT [0]:=by rw [fix_eq];unfold fixC al0;rw [Int.toNat_natCast]
 rw [e9];refine Pf.gr 6 ?_;refine tc (F) p90 (λh1=>?_) (λh1=>?_)
 .cases h1
 refine gr ?_;refine Ex.EM (λq T H=>∃(k:Nat) (w0 w3 w4 w6 w7:c7),T=[w0,.d (Z n),.ptr 0 0,w3,w4,.d (Z k),w6,w7]/\H=[.cells (c.enc.map .d)]/\IsL w4 ((tC (Y c.j7 n).o7 k).foldl fT [0])/\k+q=O (Y c.j7 n).o7) (by rintro _ _ _ ⟨_,_,_,_,_,_,_,rfl,_⟩;rfl) ?_ (k:=O (Y c.j7 n).o7) ⟨0,_,_,_,_,_,rfl,rfl,.inr rfl,U⟩;rintro q _ _ ⟨k,w0,w3,w4,w6,w7,rfl,rfl,hw,hq⟩;refine Ex.nT ?_;refine Ex.seq ?_;refine tb (F0 k (O (Y c.j7 n).o7)) (λg1=>?_) (λg1=>?_)
 .have g2:=C8 g1
  have hol:=BL hcl.2 k V;have hok:=hcl.2 k V;obtain ⟨os,hos⟩:∃os,(Y (Y c.j7 n).o7 k).D6=os:=⟨_,rfl⟩;rw [hos] at hok;refine gr ?_;rw [hos];refine gr ?_;refine Ex.EM (λq2 T H=>∃(j:Nat) (w0 w3 w4:c7),T=[w0,.d (Z n),.ptr 0 0,w3,w4,.d (Z k),.d (ints os),.d (Z j)]/\H=[.cells (c.enc.map .d)]/\IsL w4 ((tC (Y c.j7 n).o7 k++os.take j).foldl fT [0])/\j+q2=O os) (by rintro _ _ _ ⟨_,_,_,_,_,rfl,_⟩;rfl) ?_ (k:=O os) ⟨0,_,_,_,rfl,rfl,by simpa using hw,U⟩;clear hw;rintro q2 _ _ ⟨j,w0,w3,w4,rfl,rfl,hw,lJ⟩;refine Ex.nT ?_;refine Ex.seq ?_;refine tl j (O os) (λg4=>?_) (λg4=>?_)
  .have hfl:=Bh (tC (Y c.j7 n).o7 k++os.take j) [0]
   simp only [l5,P3,E4] at hfl;obtain ⟨w5,hw5,p88⟩:=bs1 ((tC (Y c.j7 n).o7 k++os.take j).foldl fT [0]) (Y os j) V;have hwa:=hw.as;have e1:(tC (Y c.j7 n).o7 k++os.take (j+1)).foldl fT [0]=fT ((tC (Y c.j7 n).o7 k++os.take j).foldl fT [0]) (Y os j):=by
    rw [H8 V,<- K2,List.foldl_append];rfl
   rw [<- e1] at hw5
   rcases hw5 with rfl|rfl
   .repeat' (first|refine mvA hwa ?_|refine cl (p88) ?_|refine gx ?_|fail)
    exact ⟨q2 - 1,V,j+1,_,_,_,rfl,rfl,.inl rfl,V⟩
   .repeat' (first|refine mvA hwa ?_|refine cl (p88) ?_|refine gx ?_|fail)
    exact ⟨q2 - 1,V,j+1,_,_,_,rfl,rfl,.inr rfl,V⟩
  .rw [A4 V,<- hos,<- EU V] at hw
   refine gr ?_;exact ⟨q - 1,V,k+1,_,_,_,_,_,rfl,rfl,hw,V⟩
 .have g2:=D4 g1
  obtain rfl:k=O (Y c.j7 n).o7:=V
  have hwa:=hw.as
  repeat' (first|refine mvA hwa ?_|refine gx ?_|fail)
  exact ⟨_,rfl,rfl⟩
end Go.Proofs.YtibjocmpkoepoaaGreat


import Derived.Test.YtibjocmpkoepoaaGreatUE2
set_option linter.all false
open Bool renaming and_eq_true→c9,false_eq_true→j6,not_eq_false'→B5,not_eq_true'→o3,or_eq_false_iff→C7,true→W,false→F
open List renaming append_assoc→G8,drop_of_length_le→n5,length_append→k8,length_cons→o8,length_singleton→D9,length_take→K0,map_cons→E8,pairwise_cons→L2,replicate→c8,take_of_length_le→s4,length→O
open Nat renaming le_refl→j9,lt_or_ge→y7
open Option renaming some→J,none→K
namespace Go.Proofs.YtibjocmpkoepoaaGreat
open Go.y9 Go.y9.S
attribute [local irreducible] Rx Ry Rn Ex Pf
theorem oq (c:o9):∀k i,(dR c k i).2=0->dR c k i=(0,0)/\∀m,i<=m->m<i+k->M5 c m=0
 |0,i,_=>⟨rfl,λm h1 h2=>absurd h1 V⟩
 |k+1,i,h=>by
  rw [dR] at h ⊢;cases e:x4 (M5 c i) 0 with
  |false =>
   simp_all [Bool.not_false,if_true,absurd,jF]
  |true =>
   simp [e,if_false] at h ⊢;obtain ⟨h1,h2⟩:=oq c k (i+1) h
   grind [y7,W6]
theorem yd {c:o9}(h:(R3 c).2=0):(R3 c).1=0/\tooMany c=F/\gR c (O c.names):=by
 unfold R3 at h ⊢;cases e:tooMany c with
 |true=>simp_all
 |false =>
  rw [e] at h;simp only [j6,if_false] at h ⊢;obtain ⟨h1,h2⟩:=oq c _ _ h;exact ⟨by rw [h1],trivial,λm hm=>h2 m V V⟩
abbrev xV (c:o9):Inhabited XO:=⟨⟨.dead,.cells (c.enc.map .d),rfl,rfl⟩⟩
def Kb [Inhabited XO] {c:o9}{fds:List G4}{Qc:List cU}{v:c7}{H1:k9}(h:tR c fds Qc v H1):v= .tuple [.d .dK,.d (Z (R3 c).1),.d (Z (R3 c).2)]\/v= .tuple [.ptr 5 0,.d (Z (R3 c).1),.d (Z (R3 c).2)]:=by
 obtain ⟨_,h1,h2⟩:=h
 grind [x4,R3,trans,W6,yd]
def D0 (c:o9):Bool:=x4 (R3 c).2 0
def OU (c:o9)(hs:E7 c):Pf A 46 [cat c] (.d (.bool (D0 c))):=by
 letI:=xV c
 obtain ⟨v,H1,hp,Nk⟩:=Mg c hs;have hle:=EF hp;refine Pf.gr 3 ?_;refine Ex.fz GC ?_
 rcases Kb hp with rfl|rfl
 .repeat' (first|refine cp Nk hle ?_|refine gx ?_|fail)
  exact ⟨_,rfl,rfl⟩
 .repeat' (first|refine cp Nk hle ?_|refine gx ?_|fail)
  exact ⟨_,rfl,rfl⟩
def ck [Inhabited XO] {b:Nat}{dr:Bool}{j8 ops:List x9}{T:List c7}{n:Nat}{rl:List c7}{l6:List y9.Touch}{Q:List c7->k9->List c7->Prop}{c:o9}{ds:List G4}{ss:List cU}{R:k9}{f:FuncId}{xs:List A3}{u:List Nat}{v:c7}{args:List c7}(hc:Pm A f args (HH c ds ss) lR v (HH c ds ss))(h2:Ry A N6 b dr j8 ops T (HH c ds ss++R) (n+1) (v::rl) l6 Q)
  (ha:xs.map (rq T n rl)=args:=by rfl) (hb:A2 args=6:=by rfl) (ee:A.prom f=F:=by rfl) (hm:A.mode f=1:=by rfl):Ry A N6 b dr j8 (⟨.call f xs,K,K,u⟩::ops) T (HH c ds ss++R) n rl l6 Q:=by
 have Ub:=JM c ds ss;have XY:=FU c ds ss;refine c1 hc rfl h2 (m:=6) ?_ ?_ rfl rfl ?_ ha ee hm
 .show D3 (HH c ds ss)<=6
  exact Ub
 .rw [hb]
  exact G9 (by show D3 (HH c ds ss)<=6;exact Ub)
 .show F9.mk 0 6 6 (A6 _ 0 6)=lR
  rw [Hs (by show T7 (HH c ds ss) 0=W;exact XY)];rfl
def X9 (c:o9)(n:Int):Bool:=D0 c&&(T5 0 n&&D5 n (o9.ns c))
def TE (c:o9){n:Int}(h:0<=n/\n<(o9.ns c)):Y (J9 c (o9.ns c)) n.toNat=kW c n.toNat:=X1 c V
def Av {c:o9}{n:Int}(h:X9 c n=W):x4 (R3 c).2 0=W/\(T5 0 n&&D5 n (o9.ns c))=W/\0<=n/\n<(o9.ns c):=by
 unfold X9 D0 at h;rw [c9] at h;exact ⟨h.1,h.2,by simpa [x6,y4] using h.2⟩
def LX (c:o9)(hs:E7 c)(n:Int)(h:X9 c n=W):Pf A 115 [cat c,.d (Z n)] (.d (ints (O7 c n.toNat))):=by
 letI:=xV c
 obtain ⟨v,H1,hp,Nk⟩:=Mg c hs;have hle:=EF hp;obtain ⟨_,hp1,hp2⟩:=hp;obtain ⟨e,h2,h3⟩:=Av h;obtain ⟨rfl,rfl⟩:=hp2 e;have h4:=TE c h3;have h6:=U9 c (o9.ns c);have p38:=ar5 c c.names (J9 c (o9.ns c)) n;rw [U9,h2] at p38;refine Pf.gr 4 ?_;refine Ex.fz GC ?_
 repeat' (first|refine cp Nk hle ?_|refine gx ?_|fail)
 refine tB (F) ?_ (λh1=>?_) (λh1=>?_)
 .repeat' (first|refine ck p38 ?_|refine gx ?_|refine fq (λhw=>?_) λhw=>?_|refine ⟨rfl,rfl,_,rfl,?_⟩|refine ⟨rfl,rfl⟩|fail)
  all_goals exact cc
 .cases h1
 refine gr ?_;exact ⟨_,rfl,by rw [h4];rfl⟩
def iv (n:Int):c7:= .d (Z n)
theorem nD:∀xs:List Int,gu (xs.map iv)=J xs
 |[]=>rfl
 |x::xs=>by
  have:=nD xs;simp only [E8,iv,Z,gu];rw [this]
theorem lV:∀xs:List Int,O (W9 xs)=O xs
 |[]=>rfl
 |x::xs=>by
  have h:∀l:List Int,O (nB x l)=O l+1:=λl=>by
   induction l with
   |nil=>rfl
   |cons y l ih=>simp only [nB];split<;>simp [ih]
  simp [W9,h,lV xs]
theorem oy:∀xs:List Int,O (U7 xs)<=O xs
 |[]=>j9 _
 |[x]=>j9 _
 |x::y::l=>by
  have:=oy (y::l);simp only [U7];split<;>simp at this ⊢<;>omega
def MX {H:k9}{id:Nat}{old vs:List c7}(ho:H[id]? =J (.cells old))(hl:O vs=O old):wr H id 0 vs=J (H.set id (.cells vs)):=by
 simp [wr,ho,hl,splice,n5]
def Mq {H:k9}{id len:Nat}{old:List c7}(ho:H[id]? =J (.cells old))(hl:O old=len):rd H id 0 len=J old:=by
 simp [rd,ho,hl,s4]
def LR {H:k9}{id len:Nat}{l:F9}{xs:List Int}(hm:l.may id=W)(ho:H[id]? =J (.cells (xs.map iv)))(hl:O xs=len)(hb:Nat.ble len 1000000=W:=by rfl):zg [.r7 id 1 0 len] H l=J (.tuple [],H.set id (.cells ((W9 xs).map iv))):=by
 have h1:=Mq (len:=len) ho (by simp [hl]);have h2:=MX (vs:=(W9 xs).map iv) ho (by simp [lV]);simp only [zg,hm,hb,Bool.and_self,if_true,h1,nD];rw [show ((W9 xs).map λn=>c7.d (.int .i64 n))=(W9 xs).map iv from rfl,h2]
def Di {H:k9}{id len:Nat}{l:F9}{xs:List Int}(hm:l.may id=W)(ho:H[id]? =J (.cells (xs.map iv)))(hl:O xs=len)(hb:Nat.ble len 1000000=W:=by rfl) :
  iK [.r7 id 1 0 len] H l=J (.r7 id 1 0 (O (U7 xs)),H.set id (.cells ((U7 xs++c8 (O xs - O (U7 xs)) 0).map iv))):=by
 have h1:=Mq (len:=len) ho (by simp [hl]);have h3:=oy xs;have h2:=MX (vs:=(U7 xs++c8 (O xs - O (U7 xs)) 0).map iv) ho D;simp only [iK,hm,hb,Bool.and_self,if_true,h1,nD];have h4:wr H id 0 ((U7 xs++c8 (O xs - O (U7 xs)) 0).map λn=>c7.d (.int .i64 n))=_:=h2;rw [h4]
def XE (c:o9):List G4:=(J9 c (o9.ns c)).map (·.1)
def O9 (c:o9)(s:G4):Int:=if D0 c then F7 s (XE c) 0 else -1
def OV (c:o9)(hs:E7 c)(s:G4):Pf A 71 [cat c,.d (.str s)] (.d (Z (O9 c s))):=by
 letI:Inhabited XO:=⟨⟨.cells (c.enc.map .d),.cells [.d (Z 0)],rfl,rfl⟩⟩
 obtain ⟨v,H1,hp,Nk⟩:=Mg c hs;have hle:=EF hp;obtain ⟨⟨R,hR⟩,hp1,hp2⟩:=hp;refine Pf.go 4 ?_;cases e:x4 (R3 c).2 0 with
 |false =>
  obtain rfl:=hp1 e;subst hR
  repeat' (first|refine dfl ?_|refine cp Nk hle ?_|refine gx ?_|fail)
  refine tc (W) e (λh1=>?_) (λh1=>?_)
  .refine gr ?_
   exact ⟨_,rfl,by unfold O9 D0;rw [e];rfl⟩
  .cases h1
 |true =>
  obtain ⟨rfl,hH⟩:=hp2 e;have SX:=Fw c c.names (J9 c (o9.ns c)) s;subst hH
  repeat' (first|refine dfl ?_|refine cp Nk hle ?_|refine gx ?_|fail)
  refine tc (F) e (λh1=>?_) (λh1=>?_)
  .cases h1
  repeat' (first|refine ck SX ?_|refine gx ?_|fail)
  exact ⟨_,rfl,by unfold O9 D0;rw [e];rfl⟩
def Fu (c:o9)(hs:E7 c):Pf A 40 [cat c] (.d (.bool (D0 c))):=by
 have p:=ap8 c hs;unfold pair at p;refine Pf.go 3 ?_;refine gc p ?_;exact ⟨_,rfl,rfl⟩
def Lj (c:o9)(n:Int):X9 c n=(p9 n 0 ((O c.j7:Int)+O c.views - 1)&&D0 c):=by
 unfold X9 p9 o9.ns;rw [Bool.eq_iff_iff];simp only [c9,x6,y4,decide_eq_true_eq];constructor
 .rintro ⟨h1,h2,h3⟩;exact ⟨⟨h2,V⟩,h1⟩
 .rintro ⟨⟨h2,h3⟩,h1⟩;exact ⟨h1,h2,V⟩
def WZ (c:o9)(hs:E7 c)(n:Int):Pf A 53 [cat c,.d (Z n)] (.d (.bool (X9 c n))):=by
 obtain ⟨f0,f1,f2,f3,f4,f5,f6,f7⟩:=id hs.sm.eD;have p36:=Fu c hs;have p95:=nK n 0 ((O c.j7:Int)+O c.views - 1);rw [Lj];refine Pf.go 2 ?_
 repeat' (first|refine cl (p95) ?_|refine cl (p36) ?_|refine gy ?_|refine fq (λhw=>?_) λhw=>?_|refine ⟨_,rfl,?_⟩|fail)
 all_goals simp [*,j5]
def kH (c:o9)(n:Int):Bool:=X9 c n&&D5 n (O c.j7)
def aq8 (c:o9)(hs:E7 c)(n:Int):Pf A 106 [cat c,.d (Z n)] (.d (.bool (kH c n))):=by
 have Yt:=WZ c hs n;unfold kH;refine Pf.go 2 ?_
 repeat' (first|refine cl (Yt) ?_|refine gy ?_|refine fq (λhw=>?_) λhw=>?_|refine ⟨_,rfl,?_⟩|fail)
 all_goals simp [*,j5]
def Z1 {c:o9}(h:D0 c=W):gR c (O c.names)/\tooMany c=F/\pX c (o9.ns c):=by
 have h1:=yd (W6 h);have hnl:=Q1 c;exact ⟨h1.2.2,h1.2.1,fS (λm hm=>h1.2.2 m V) (j9 _)⟩
def GQ {c:o9}{n:Int}(h:X9 c n=W):D0 c=W:=by
 unfold X9 at h;rw [c9] at h;exact h.1
def eV (c:o9)(s:G4):Int:=if D0 c then E5 c s (o9.ns c) else -1
def Td (c:o9)(hs:E7 c)(s:G4):Pf A 86 [cat c,.d (.str s)] (.d (Z (eV c s))):=by
 obtain ⟨f0,f1,f2,f3,f4,f5,f6,f7⟩:=id hs.sm.eD;have aa:o9.ns c=O c.j7+O c.views:=rfl;have p36:=Fu c hs;have p84:=AJ c s (o9.ns c) hs.sm.eD V;rw [show ((o9.ns c:Nat):Int)=(O c.j7:Int)+O c.views by omega] at p84;refine Pf.gr 2 ?_;refine tc (!D0 c) p36 (λh1=>?_) (λh1=>?_)
 .refine gr ?_
  exact ⟨_,rfl,by unfold eV;rw [o3] at h1;rw [h1];rfl⟩
 .refine gc p84 ?_
  exact ⟨_,rfl,by unfold eV;rw [B5] at h1;rw [h1];rfl⟩
def RL (c:o9)(s:G4):eV c s=if D0 c then F7 s (XE c) 0 else -1:=by
 unfold eV E5 XE;rw [gH c (j9 _)]
theorem WW (c:o9)(hs:E7 c)(n:Int)(h:X9 c n=W):Pf A 20 [cat c,.d (Z n)] (.d (ints (O7 c n.toNat))):=by
 have Yt:=WZ c hs n;rw [h] at Yt;have h2:=Z1 (GQ h);have h3:=(Av h).2.2;have p:=(fU c hs (o9.ns c) n.toNat V (j9 _) h2.2.2).1;rw [Int.toNat_of_nonneg h3.1] at p;refine Pf.gr 2 ?_;refine tc (F) Yt (λh1=>?_) (λh1=>?_)
 .cases h1
 refine gc p ?_;exact ⟨_,rfl,rfl⟩
def cz:List Int->Int->List Int
 |[],n=>[n]
 |x::l,n=>if x<n then x::cz l n else if x=n then x::l else n::x::l
theorem FZ:∀(l:List Int) (n:Int) (i:Nat),i<=O l->(∀j,j<i->Y l j<n)->(i<O l->¬ Y l i<n)->cz l n=if i<O l/\Y l i=n then l else l.take i++[n]++l.drop i
 |[],n,i,h,_,_=>by
  simp_all [cz]
 |x::l,n,0,h,_,h2=>by
  grind [Y,cz]
 |x::l,n,i+1,h,h1,h2=>by
  have h0:∀j,j<O l->Y (x::l) (j+1)=Y l j:=λj hj=>by simp_all [D6]
  have h3:x<n:=by have:=h1 0 V;simp_all [D6]
  have hl:i<=O l:=by simpa using h
  have ih:=FZ l n i hl (λj hj=>by grind) (λhi=>M)
  grind [cz,Y]
def TS (w:c7)(xs:List Int):Prop:=w= .d (ints xs)\/w=A8 1 (λn=>[Z n]) xs
def TS.as {w:c7}{xs:List Int}(h:TS w xs):w.I7= .d (ints xs):=by
 rcases h with rfl|rfl<;>rfl
set_option maxHeartbeats 2000000 in
def aq6 (l:List Int)(n:Int)(hl:O l<=200000):∃w,TS w (cz l n)/\Pf A 135 [.d (ints l),.d (Z n)] w:=by
 obtain ⟨i,hi1,hi2,Ql⟩:∃i,i<=O l/\(∀j,j<i->Y l j<n)/\(i<O l->¬ Y l i<n):=by
  clear hl
  induction l with
  |nil=>exact ⟨0,U,U,U⟩
  |cons x l ih =>
   by_cases hx:x<n
   .obtain ⟨i,h1,h2,h3⟩:=ih
    have h0:∀j,j<O l->Y (x::l) (j+1)=Y l j:=λj hj=>by rw [D6 D,D6 hj];simp
    refine ⟨i+1,D,λj hj=>?_,λhi=>?_⟩
    .cases j with
     |zero=>rw [D6 U];exact hx
     |succ j=>rw [h0 j V];exact h2 j V
    .simp at hi
     rw [h0 i hi];exact h3 hi
   .exact ⟨0,U,U,λ_=>by rw [D6 U];exact hx⟩
 have ha:=FZ l n i hi1 hi2 Ql;have key:∀w,w=(if i<O l/\Y l i=n then c7.d (ints l) else A8 1 (λn=>[Z n]) (l.take i++[n]++l.drop i))->TS w (cz l n):=λw hw=>by
  rw [ha,hw];split
  .exact .inl rfl
  .exact .inr rfl
 refine ⟨_,key _ rfl,?_⟩;refine Pf.gr 2 ?_;refine Ex.bW (λk T H=>∃(j:Nat) (w2:c7),T=[.d (ints l),.d (Z n),w2,.d (Z j)]/\H=[]/\j+k=i) ?_ (k:=i) ⟨0,_,rfl,rfl,U⟩;rintro k _ _ ⟨j,w2,rfl,rfl,hk⟩;refine Ex.nT ?_;refine Ex.seq ?_;have hj:j<i\/j=i:=V
 refine tb (D5 j (O l)&&D5 (Y l j) n) (λh1=>?_) (λh1=>?_)
 .simp only [c9] at h1
  have h2:=A7 h1.1;have h3:=A7 h1.2;refine gr ?_;refine ⟨k - 1,?_,j+1,_,rfl,rfl,?_⟩
  .rcases hj with h|rfl
   .omega
   .exact absurd h3 (Ql V)
  .rcases hj with h|rfl
   .omega
   .exact absurd h3 (Ql V)
 obtain rfl:j=i:=by
  rcases hj with h|h
  .have:=hi2 j h
   simp only [Bool.and_eq_false_iff] at h1
   rcases h1 with h1|h1
   .have:=B8 h1;omega
   .have:=B8 h1;omega
  .exact h
 refine gr ?_;refine tb (D5 j (O l)&&x4 (Y l j) n) (λh4=>?_) (λh4=>?_)
 .simp only [c9] at h4
  have h2:=A7 h4.1;have h3:=W6 h4.2;refine gr ?_;exact ⟨_,rfl,by rw [if_pos ⟨V,h3⟩];rfl⟩
 .have e:¬ (j<O l/\Y l j=n):=by
   rintro ⟨g1,g2⟩;simp only [Bool.and_eq_false_iff] at h4
   rcases h4 with h4|h4
   .have:=B8 h4;omega
   .exact jF h4 g2
  rw [if_neg e];refine gr ?_;exact ⟨_,rfl,rfl⟩
theorem yK (s:G4):∀(l:List G4) (k i:Nat),0<=F7 s (l.take k) i->F7 s l i=F7 s (l.take k) i
 |[],k,i,h=>U
 |d::l,0,i,h=>by simp [F7] at h
 |d::l,k+1,i,h=>by
  simp [List.take_succ_cons,F7] at h ⊢;split
  .rfl
  next h1=>
   rw [if_neg h1] at h;exact yK s l k (i+1) h
end Go.Proofs.YtibjocmpkoepoaaGreat
namespace Go.Proofs.YtibjocmpkoepoaaGreat
open Go.y9 Go.y9.S
theorem Gd:∀{l m:List Int},l.Pairwise (·<·)->m.Pairwise (·<·)->(∀s,s∈l↔s∈m)->l=m
 |[],[],_,_,_=>rfl
 |[],y::m,_,_,h=>absurd ((h y).2 U) U
 |x::l,[],_,_,h=>absurd ((h x).1 U) U
 |x::l,y::m,h1,h2,h=>by
  obtain ⟨a1,b1⟩:=L2.1 h1;obtain ⟨a2,b2⟩:=L2.1 h2;have hx:=(h x).1 U;have hy:=(h y).2 U;have e:x=y:=by
   grind
  congr 1
  refine Gd b1 b2 λs=>⟨λhs=>?_,λhs=>?_⟩
  all_goals grind
theorem vH (x s:Int):∀l:List Int,s∈nB x l↔s=x\/s∈l
 |[]=>by simp [nB]
 |y::l=>by
  simp [nB];split
  .simp
  .simp [List.mem_cons,vH x s l]
   grind
theorem qM (s:Int):∀l:List Int,s∈W9 l↔s∈l
 |[]=>by simp [W9]
 |x::l=>by simp [W9,vH,qM s l,List.mem_cons]
theorem DD (x:Int):∀l:List Int,l.Pairwise (·<=·)->(nB x l).Pairwise (·<=·)
 |[],_=>by simp [nB]
 |y::l,h=>by
  obtain ⟨a,b⟩:=L2.1 h;simp [nB];split
  .grind [L2]
  .refine L2.2 ⟨λs hs=>?_,DD x l b⟩
   grind [vH]
theorem zx:∀l:List Int,(W9 l).Pairwise (·<=·)
 |[]=>by simp [W9]
 |x::l=>DD x _ (zx l)
theorem oO (s:Int):∀l:List Int,s∈U7 l↔s∈l
 |[]=>by simp [U7]
 |[x]=>by simp [U7]
 |x::y::l=>by
  have ih:=oO s (y::l)
  grind [U7]
theorem Bz:∀l:List Int,l.Pairwise (·<=·)->(U7 l).Pairwise (·<·)
 |[],_=>by simp [U7]
 |[x],_=>by simp [U7]
 |x::y::l,h=>by
  obtain ⟨a,b⟩:=L2.1 h;have ih:=Bz (y::l) b;simp [U7];split
  .exact ih
  .refine L2.2 ⟨λs hs=>?_,ih⟩
   rw [oO] at hs;simp_all<;>grind
theorem vE (x s:Int):∀l:List Int,s∈cz l x↔s=x\/s∈l
 |[]=>by simp [cz]
 |y::l=>by
  have ih:=vE x s l
  grind [cz]
theorem By (x:Int):∀l:List Int,l.Pairwise (·<·)->(cz l x).Pairwise (·<·)
 |[],_=>by simp [cz]
 |y::l,h=>by
  obtain ⟨a,b⟩:=L2.1 h;simp [cz];split
  .refine L2.2 ⟨λs hs=>?_,By x l b⟩
   grind [vE]
  grind [L2]
theorem Ga:∀(xs l:List Int),l.Pairwise (·<·)->(xs.foldl cz l).Pairwise (·<·)/\∀s,s∈xs.foldl cz l↔s∈l\/s∈xs
 |[],l,h=>⟨h,λs=>U⟩
 |x::xs,l,h=>by
  obtain ⟨h1,h2⟩:=Ga xs (cz l x) (By x l h)
  grind [vE]
theorem fix_eq (x:Int)(xs:List Int):xs.foldl cz [x]=U7 (W9 (x::xs)):=by
 grind [Ga,Gd,Bz,zx,oO,qM]
attribute [local irreducible] Rx Ry Rn Ex Pf
def l8:F9:=⟨0,8,8,8⟩
def yM (c:o9)(n:Int):kH c n=(!(D5 n 0||T5 (O c.j7) n|| !D0 c)):=by
 unfold kH X9 o9.ns;rw [Bool.eq_iff_iff];simp only [c9,o3,C7,x6,y4,decide_eq_true_eq,decide_eq_false_iff_not,B5];constructor
 .rintro ⟨⟨h1,h2,h3⟩,h4⟩;exact ⟨⟨V,V⟩,h1⟩
 .rintro ⟨⟨h2,h3⟩,h1⟩;exact ⟨⟨h1,V,V⟩,V⟩
def GR {c:o9}{n:Int}(h:kH c n=W):X9 c n=W/\0<=n/\n<O c.j7:=by
 unfold kH at h;rw [c9] at h;have h1:=(Av h.1).2.2;exact ⟨h.1,h1.1,A7 h.2⟩
def tJ (o7:List P4):Nat->List Int
 |0=>[]
 |k+1=>tJ o7 k++(if D5 0 (O (Y o7 k).C6) then [(k:Int)] else [])
def SZ {o7:List P4}{k:Nat}(h:D5 0 (O (Y o7 k).C6)=F):tJ o7 (k+1)=tJ o7 k:=by
 simp only [tJ];rw [h];simp
def Tc {o7:List P4}{k:Nat}(h:D5 0 (O (Y o7 k).C6)=W):tJ o7 (k+1)=tJ o7 k++[(k:Int)]:=by
 simp only [tJ];rw [h];simp
theorem pe (o7:List P4):∀k,O (tJ o7 k)<=k
 |0=>j9 _
 |k+1=>by
  have:=pe o7 k;simp only [tJ];split<;>simp<;>omega
def oZ (c:o9)(n:Int):List Int:=tJ (Y c.j7 n.toNat).o7 (O (Y c.j7 n.toNat).o7)
set_option maxHeartbeats 8000000 in
def WL (c:o9)(hs:E7 c)(n:Nat)(h:kH c n=W):Pf A 103 [cat c,.d (Z n)] (.d (ints (oZ c n))):=by
 have p10:=OU c hs;have e:(D5 n 0||T5 (O c.j7) n|| !D0 c)=F:=by
  have e:=congrArg (!·) (yM c n);rw [h] at e;simp only [Bool.not_not,Bool.not_true] at e;exact e.symm
 have h3:=GR h;have hcl:=hs.sm.o7 n V;obtain ⟨t,ht⟩:∃t,Y c.j7 n=t:=⟨_,rfl⟩;have e9:oZ c n=tJ t.o7 (O t.o7):=by unfold oZ;rw [Int.toNat_natCast,ht]
 rw [ht] at hcl;rw [e9];refine Pf.gr 8 ?_;refine tc (D5 n 0||T5 (O c.j7) n|| !D0 c) p10 (λh1=>?_) (λh1=>?_)
 .rw [e] at h1;cases h1
 refine gr ?_;rw [ht];refine gr ?_;refine Ex.L9 (λq T H=>∃(k:Nat),T=[.any,.any,.any,.any,A8 1 (λn=>[Z n]) (tJ t.o7 k),.any,.any,.d (s7 P4.enc t.o7),.d (Z (O t.o7)),.d (Z k)]/\H=[.cells (c.enc.map .d)]/\k+q=O t.o7) ?_ (k:=O t.o7) ⟨0,rfl,rfl,U⟩;rintro q _ _ ⟨k,rfl,rfl,hq⟩;have oJ:=pe t.o7 k;refine Ex.seq ?_;refine tl k (O t.o7) (λg2=>?_) (λg2=>?_)
 .refine gr ?_
  refine tb (D5 0 (O (Y t.o7 k).C6)) (λg3=>?_) (λg3=>?_)
  .refine gr ?_
   exact ⟨q - 1,V,_,_,rfl,k+1,by rw [Tc g3];rfl,rfl,V⟩
  .refine gr ?_
   exact ⟨q - 1,V,_,_,rfl,k+1,by rw [SZ g3];rfl,rfl,V⟩
 .obtain rfl:k=O t.o7:=V
  refine gr ?_;exact ⟨_,rfl,rfl⟩
theorem zS:∀xs:List Int,A2 (xs.map iv)=0
 |[]=>rfl
 |x::xs=>by simp [A2,iv,c7.F4,zS xs]
theorem EU:∀xs:List Int,(xs.flatMap λn=>[Z n])=xs.map Z
 |[]=>rfl
 |x::xs=>by simp [EU xs]
theorem KL (H:k9)(n:Nat):∀(xs:List Int) (f:Nat),O xs<f->X6 H n f (xs.map iv)=J (xs.map iv)
 |[],f+1,_=>rfl
 |x::xs,f+1,h=>by
  have ih:=KL H n xs f (by simp at h;omega);simp only [E8,X6,ih,iv]
theorem Ko:∀xs:List Int,H7 (xs.map iv)=J (xs.map Z)
 |[]=>rfl
 |x::xs=>by simp only [E8,H7,iv,c7.data?];rw [Ko xs]
section
variable {b:Nat} {j8 ops:List x9} {T:List c7} {n:Nat} {rl:List c7} {l6:List y9.Touch} {Q:List c7->k9->List c7->Prop}
end
def nI (o7:List P4)(k:Nat):List Int:=(o7.take k).flatMap P4.C6
def ze {o7:List P4}{k:Nat}(h:k<O o7):nI o7 (k+1)=nI o7 k++(Y o7 k).C6:=by
 unfold nI;rw [E4 h];simp
theorem vU {o7:List P4}(h:∀i,i<O o7->O (Y o7 i).C6<=8):∀k,k<=O o7->O (nI o7 k)<=8 * k
 |0,_=>by simp [nI]
 |k+1,hk=>by
  have:=vU h k V;have:=h k V;rw [ze V];simp;omega
def RK (t:cw):List Int:=0::nI t.o7 (O t.o7)
def fixC (c:o9)(n:Int):List Int:=U7 (W9 (RK (Y c.j7 n.toNat)))
theorem vV (t:cw):∀(xs:List Int) (p:Int), -1<=p->R1 t p xs=W->(O xs:Int)<=max 0 (O t.o7 - 1 - p)
 |[],p,_,_=>D
 |o::r,p,hp,h=>by
  simp only [R1,c9] at h;obtain ⟨⟨⟨h1,h2⟩,_⟩,h4⟩:=h;have h1:=A7 h1;have h2:=A7 h2;have ih:=vV t r o V h4;simp;omega
theorem iY (c:o9)(n:Nat):∀k i,br c n k i=0->∀m,i<=m->m<i+k->U6 c n m=0
 |0,i,_,m,h1,h2=>absurd h1 V
 |k+1,i,h,m,h1,h2=>by
  rw [br] at h;cases e:x4 (U6 c n i) 0 with
  |false =>
   simp only [e,Bool.not_false,if_true] at h;exact absurd h (jF e)
  |true =>
   simp only [e,Bool.not_true,j6,if_false] at h
   rcases y7 i m with g|g
   .exact iY c n k (i+1) h m V V
   .obtain rfl:m=i:=V
    exact W6 e
def au {c:o9}{n:Nat}(hv:D0 c=W)(hn:n<O c.j7):O (Y c.j7 n).o7<=8/\∀i,i<O (Y c.j7 n).o7->O (Y (Y c.j7 n).o7 i).C6<=8:=by
 have hok:=(Z1 hv).1;have hnl:=Q1 c;have ht:=S1 (hok n (by unfold o9.ns at hnl;omega)) hn;have h8:=(cg ht).2;refine ⟨h8,λi hi=>?_⟩;have hc:U6 c n i=0:=by
  unfold bF at ht;split at ht
  .omega
  .exact iY c n _ 0 ht i V V
 have ho:R1 (Y c.j7 n) (-1) (Y (Y c.j7 n).o7 i).C6=W:=by
  unfold U6 at hc;cases h:R1 (Y c.j7 n) (-1) (Y (Y c.j7 n).o7 i).C6 with
  |true=>rfl
  |false =>
   rw [h] at hc;simp only [Bool.not_false,Bool.or_true,Bool.true_or] at hc
   repeat' split at hc
   all_goals first|omega|exact absurd trivial (by assumption)
 have:=vV _ _ _ (Int.le_refl _) ho;omega
theorem Bu (x:Int):∀l:List Int,O (cz l x)<=O l+1
 |[]=>by simp [cz]
 |y::l=>by
  have:=Bu x l;simp only [cz];split
  .simp;omega
  .split<;>simp
theorem vg:∀(xs l:List Int),O (xs.foldl cz l)<=O l+O xs
 |[],l=>U
 |x::xs,l=>by
  have h1:=vg xs (cz l x);have h2:=Bu x l;simp only [List.foldl_cons,o8];omega
set_option maxHeartbeats 8000000 in
def WX (c:o9)(hs:E7 c)(n:Nat)(h:kH c n=W):Pf A 238 [cat c,.d (Z n)] (.d (ints (fixC c n))):=by
 have p90:=aq8 c hs n;rw [h] at p90;have h3:=GR h;have hcl:=au (GQ h3.1) (n:=n) V;have e9:fixC c n=(nI (Y c.j7 n).o7 (O (Y c.j7 n).o7)).foldl cz [0]:=by rw [fix_eq];unfold fixC RK;rw [Int.toNat_natCast]
 rw [e9];refine Pf.gr 6 ?_;refine tc (F) p90 (λh1=>?_) (λh1=>?_)
 .cases h1
 refine gr ?_;refine Ex.yU (λq T H=>∃(k:Nat) (w0 w3 w4 w6 w7:c7),T=[w0,.d (Z n),.ptr 0 0,w3,w4,.d (Z k),w6,w7]/\H=[.cells (c.enc.map .d)]/\TS w4 ((nI (Y c.j7 n).o7 k).foldl cz [0])/\k+q=O (Y c.j7 n).o7) (by rintro _ _ _ ⟨_,_,_,_,_,_,_,rfl,_⟩;rfl) ?_ (k:=O (Y c.j7 n).o7) ⟨0,_,_,_,_,_,rfl,rfl,.inr rfl,U⟩;rintro q _ _ ⟨k,w0,w3,w4,w6,w7,rfl,rfl,hw,hq⟩;refine Ex.nT ?_;refine Ex.seq ?_;refine tb (D5 k (O (Y c.j7 n).o7)) (λg1=>?_) (λg1=>?_)
 .have g2:=A7 g1
  have Uc:=vU hcl.2 k V;have hok:=hcl.2 k V;obtain ⟨os,hos⟩:∃os,(Y (Y c.j7 n).o7 k).C6=os:=⟨_,rfl⟩;rw [hos] at hok;refine gr ?_;rw [hos];refine gr ?_;refine Ex.yU (λq2 T H=>∃(j:Nat) (w0 w3 w4:c7),T=[w0,.d (Z n),.ptr 0 0,w3,w4,.d (Z k),.d (ints os),.d (Z j)]/\H=[.cells (c.enc.map .d)]/\TS w4 ((nI (Y c.j7 n).o7 k++os.take j).foldl cz [0])/\j+q2=O os) (by rintro _ _ _ ⟨_,_,_,_,_,rfl,_⟩;rfl) ?_ (k:=O os) ⟨0,_,_,_,rfl,rfl,by simpa using hw,U⟩;clear hw;rintro q2 _ _ ⟨j,w0,w3,w4,rfl,rfl,hw,gM⟩;refine Ex.nT ?_;refine Ex.seq ?_;refine tl j (O os) (λg4=>?_) (λg4=>?_)
  .have hfl:=vg (nI (Y c.j7 n).o7 k++os.take j) [0]
   simp only [k8,K0,D9] at hfl;obtain ⟨w5,hw5,p88⟩:=aq6 ((nI (Y c.j7 n).o7 k++os.take j).foldl cz [0]) (Y os j) V;have Ym:=hw.as;have e1:(nI (Y c.j7 n).o7 k++os.take (j+1)).foldl cz [0]=cz ((nI (Y c.j7 n).o7 k++os.take j).foldl cz [0]) (Y os j):=by
    rw [E4 V,<- G8,List.foldl_append];rfl
   rw [<- e1] at hw5
   rcases hw5 with rfl|rfl
   .repeat' (first|refine mvA Ym ?_|refine cl (p88) ?_|refine gx ?_|fail)
    exact ⟨q2 - 1,V,j+1,_,_,_,rfl,rfl,.inl rfl,V⟩
   .repeat' (first|refine mvA Ym ?_|refine cl (p88) ?_|refine gx ?_|fail)
    exact ⟨q2 - 1,V,j+1,_,_,_,rfl,rfl,.inr rfl,V⟩
  .rw [s4 V,<- hos,<- ze V] at hw
   refine gr ?_;exact ⟨q - 1,V,k+1,_,_,_,_,_,rfl,rfl,hw,V⟩
 .have g2:=B8 g1
  obtain rfl:k=O (Y c.j7 n).o7:=V
  have Ym:=hw.as
  repeat' (first|refine mvA Ym ?_|refine gx ?_|fail)
  exact ⟨_,rfl,rfl⟩
end Go.Proofs.YtibjocmpkoepoaaGreat


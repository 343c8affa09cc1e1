import Derived.Test.YtibjocmpkoepoaaGreatE2
set_option linter.all false
open Bool renaming and_eq_true→c8,false_eq_true→e8,not_eq_false'→D5,not_eq_true'→o8,true→W,false→F
open List renaming append_assoc→M3,length_append→s9,length_cons→q7,length_take→P7,mem_cons→C4,pairwise_cons→N6,take_of_length_le→y6,length→O
open Nat renaming le_refl→o6,lt_or_ge→x9
open Option renaming some→J,none→K
namespace Go.Proofs.YtibjocmpkoepoaaGreat
open Go.B3 Go.B3.S
attribute [local irreducible] Rx Ry Rn Ex Pf
theorem vh (c:s6):∀k i,(iW c k i).2=0->iW c k i=(0,0)/\∀m,i<=m->m<i+k->Q4 c m=0
 |0,i,_=>⟨rfl,λm h1 h2=>absurd h1 V⟩
 |k+1,i,h=>by
  rw [iW] at h ⊢;cases e:A1 (Q4 c i) 0 with
  |false =>
   simp_all [Bool.not_false,if_true,absurd,qz]
  |true =>
   simp [e,if_false] at h ⊢;obtain ⟨h1,h2⟩:=vh c k (i+1) h
   grind [x9,aT]
theorem Fy {c:s6}(h:(Y8 c).2=0):(Y8 c).1=0/\tooMany c=F/\mO c (O c.names):=by
 unfold Y8 at h ⊢;cases e:tooMany c with
 |true=>simp_all
 |false =>
  rw [e] at h;simp only [e8,if_false] at h ⊢;obtain ⟨h1,h2⟩:=vh c _ _ h;exact ⟨by rw [h1],trivial,λm hm=>h2 m V V⟩
abbrev xV (c:s6):Inhabited XO:=⟨⟨.dead,.cells (c.enc.map .d),rfl,rfl⟩⟩
def WU [Inhabited XO] {c:s6}{fds:List M6}{fss:List gU}{v:c7}{H1:n9}(h:AZ c fds fss v H1):v= .tuple [.d .cZ,.d (Z (Y8 c).1),.d (Z (Y8 c).2)]\/v= .tuple [.ptr 5 0,.d (Z (Y8 c).1),.d (Z (Y8 c).2)]:=by
 obtain ⟨_,h1,h2⟩:=h
 grind [A1,Y8,trans,aT,Fy]
def M1 (c:s6):Bool:=A1 (Y8 c).2 0
def bN6 (c:s6)(hs:J8 c):Pf A 46 [cat c] (.d (.bool (M1 c))):=by
 letI:=xV c
 obtain ⟨v,H1,hp,hpm⟩:=bj1 c hs;have hle:=aH2 hp;refine Pf.gr 3 ?_;refine Ex.fz al9 ?_
 rcases WU hp with rfl|rfl
 .repeat' (first|refine cp hpm hle ?_|refine gx ?_|fail)
  exact ⟨_,rfl,rfl⟩
 .repeat' (first|refine cp hpm hle ?_|refine gx ?_|fail)
  exact ⟨_,rfl,rfl⟩
def ck [Inhabited XO] {b:Nat}{dr:Bool}{j9 ops:List o4}{T:List c7}{n:Nat}{rl:List c7}{o5:List B3.Touch}{Q:List c7->n9->List c7->Prop}{c:s6}{ds:List M6}{ss:List gU}{R:n9}{f:FuncId}{xs:List z6}{u:List Nat}{v:c7}{args:List c7}(hc:Pm A f args (HH c ds ss) lR v (HH c ds ss))(h2:Ry A Q9 b dr j9 ops T (HH c ds ss++R) (n+1) (v::rl) o5 Q)
  (ha:xs.map (rq T n rl)=args:=by rfl) (hb:C0 args=6:=by rfl) (mL:A.prom f=F:=by rfl) (hm:A.mode f=1:=by rfl):Ry A Q9 b dr j9 (⟨.call f xs,K,K,u⟩::ops) T (HH c ds ss++R) n rl o5 Q:=by
 have hb5:=WB c ds ss;have hd5:=Qy c ds ss;refine c1 hc rfl h2 (m:=6) ?_ ?_ rfl rfl ?_ ha mL hm
 .show Q5 (HH c ds ss)<=6
  exact hb5
 .rw [hb]
  exact mZ (by show Q5 (HH c ds ss)<=6;exact hb5)
 .show H8.mk 0 6 6 (I7 _ 0 6)=lR
  rw [Sg (by show cU (HH c ds ss) 0=W;exact hd5)];rfl
def kQ (c:s6)(n:Int):Bool:=M1 c&&(bC 0 n&&J2 n (s6.ns c))
def Rv {c:s6}{n:Int}(h:kQ c n=W):A1 (Y8 c).2 0=W/\(bC 0 n&&J2 n (s6.ns c))=W/\0<=n/\n<(s6.ns c):=by
 unfold kQ M1 at h;rw [c8] at h;exact ⟨h.1,h.2,by simpa [A7,A5] using h.2⟩
def Vx (c:s6)(hs:J8 c):Pf A 40 [cat c] (.d (.bool (M1 c))):=by
 have p:=bN7 c hs;unfold pair at p;refine Pf.go 3 ?_;refine gc p ?_;exact ⟨_,rfl,rfl⟩
def Ya (c:s6)(n:Int):kQ c n=(s4 n 0 ((O c.k9:Int)+O c.views - 1)&&M1 c):=by
 unfold kQ s4 s6.ns;rw [Bool.eq_iff_iff];simp only [c8,A7,A5,decide_eq_true_eq];constructor
 .rintro ⟨h1,h2,h3⟩;exact ⟨⟨h2,V⟩,h1⟩
 .rintro ⟨⟨h2,h3⟩,h1⟩;exact ⟨h1,h2,V⟩
def bh8 (c:s6)(hs:J8 c)(n:Int):Pf A 53 [cat c,.d (Z n)] (.d (.bool (kQ c n))):=by
 obtain ⟨f0,f1,f2,f3,f4,f5,f6,f7⟩:=id hs.sm.lH;have p36:=Vx c hs;have p95:=uG n 0 ((O c.k9:Int)+O c.views - 1);rw [Ya];refine Pf.go 2 ?_
 repeat' (first|refine cl (p95) ?_|refine cl (p36) ?_|refine gy ?_|refine fq (λhw=>?_) λhw=>?_|refine ⟨_,rfl,?_⟩|fail)
 all_goals simp [*,j5]
def CB (c:s6)(n:Int):Bool:=kQ c n&&J2 n (O c.k9)
def bO6 (c:s6)(hs:J8 c)(n:Int):Pf A 106 [cat c,.d (Z n)] (.d (.bool (CB c n))):=by
 have p85:=bh8 c hs n;unfold CB;refine Pf.go 2 ?_
 repeat' (first|refine cl (p85) ?_|refine gy ?_|refine fq (λhw=>?_) λhw=>?_|refine ⟨_,rfl,?_⟩|fail)
 all_goals simp [*,j5]
def eG {c:s6}(h:M1 c=W):mO c (O c.names)/\tooMany c=F/\vZ c (s6.ns c):=by
 have h1:=Fy (aT h);have hnl:=Y3 c;exact ⟨h1.2.2,h1.2.1,kV (λm hm=>h1.2.2 m V) (o6 _)⟩
def Rw {c:s6}{n:Int}(h:kQ c n=W):M1 c=W:=by
 unfold kQ at h;rw [c8] at h;exact h.1
def oE (c:s6)(s:M6):Int:=if M1 c then K7 c s (s6.ns c) else -1
def aN5 (c:s6)(hs:J8 c)(s:M6):Pf A 86 [cat c,.d (.str s)] (.d (Z (oE c s))):=by
 obtain ⟨f0,f1,f2,f3,f4,f5,f6,f7⟩:=id hs.sm.lH;have gv:s6.ns c=O c.k9+O c.views:=rfl;have p36:=Vx c hs;have p84:=Jg c s (s6.ns c) hs.sm.lH V;rw [show ((s6.ns c:Nat):Int)=(O c.k9:Int)+O c.views by omega] at p84;refine Pf.gr 2 ?_;refine tc (!M1 c) p36 (λh1=>?_) (λh1=>?_)
 .refine gr ?_
  exact ⟨_,rfl,by unfold oE;rw [o8] at h1;rw [h1];rfl⟩
 .refine gc p84 ?_
  exact ⟨_,rfl,by unfold oE;rw [D5] at h1;rw [h1];rfl⟩
def bh5 (c:s6)(hs:J8 c)(n:Int)(h:kQ c n=W):Pf A 20 [cat c,.d (Z n)] (.d (ints (aS c n.toNat))):=by
 have p85:=bh8 c hs n;rw [h] at p85;have h2:=eG (Rw h);have h3:=(Rv h).2.2;have p:=(kX c hs (s6.ns c) n.toNat V (o6 _) h2.2.2).1;rw [Int.toNat_of_nonneg h3.1] at p;refine Pf.gr 2 ?_;refine tc (F) p85 (λh1=>?_) (λh1=>?_)
 .cases h1
 refine gc p ?_;exact ⟨_,rfl,rfl⟩
def gm:List Int->Int->List Int
 |[],n=>[n]
 |x::l,n=>if x<n then x::gm l n else if x=n then x::l else n::x::l
theorem QC:∀(l:List Int) (n:Int) (i:Nat),i<=O l->(∀j,j<i->Y l j<n)->(i<O l->¬ Y l i<n)->gm l n=if i<O l/\Y l i=n then l else l.take i++[n]++l.drop i
 |[],n,i,h,_,_=>by
  simp_all [gm]
 |x::l,n,0,h,_,h2=>by
  grind [Y,gm]
 |x::l,n,i+1,h,h1,h2=>by
  have h0:∀j,j<O l->Y (x::l) (j+1)=Y l j:=λj hj=>by simp_all [H6]
  have h3:x<n:=by have:=h1 0 V;simp_all [H6]
  have hl:i<=O l:=by simpa using h
  have ih:=QC l n i hl (λj hj=>by grind) (λhi=>M)
  grind [gm,Y]
def IsL (w:c7)(xs:List Int):Prop:=w= .d (ints xs)\/w=L1 1 (λn=>[Z n]) xs
def IsL.as {w:c7}{xs:List Int}(h:IsL w xs):w.F4= .d (ints xs):=by
 rcases h with rfl|rfl<;>rfl
set_option maxHeartbeats 2000000 in
def bO4 (l:List Int)(n:Int)(hl:O l<=200000):∃w,IsL w (gm l n)/\Pf A 135 [.d (ints l),.d (Z n)] w:=by
 obtain ⟨i,hi1,hi2,hi3⟩:∃i,i<=O l/\(∀j,j<i->Y l j<n)/\(i<O l->¬ Y l i<n):=by
  clear hl
  induction l with
  |nil=>exact ⟨0,U,U,U⟩
  |cons x l ih =>
   by_cases hx:x<n
   .obtain ⟨i,h1,h2,h3⟩:=ih
    have h0:∀j,j<O l->Y (x::l) (j+1)=Y l j:=λj hj=>by rw [H6 D,H6 hj];simp
    refine ⟨i+1,D,λj hj=>?_,λhi=>?_⟩
    .cases j with
     |zero=>rw [H6 U];exact hx
     |succ j=>rw [h0 j V];exact h2 j V
    .simp at hi
     rw [h0 i hi];exact h3 hi
   .exact ⟨0,U,U,λ_=>by rw [H6 U];exact hx⟩
 have ha:=QC l n i hi1 hi2 hi3;have key:∀w,w=(if i<O l/\Y l i=n then c7.d (ints l) else L1 1 (λn=>[Z n]) (l.take i++[n]++l.drop i))->IsL w (gm l n):=λw hw=>by
  rw [ha,hw];split
  .exact .inl rfl
  .exact .inr rfl
 refine ⟨_,key _ rfl,?_⟩;refine Pf.gr 2 ?_;refine Ex.jH (λk T H=>∃(j:Nat) (w2:c7),T=[.d (ints l),.d (Z n),w2,.d (Z j)]/\H=[]/\j+k=i) ?_ (k:=i) ⟨0,_,rfl,rfl,U⟩;rintro k _ _ ⟨j,w2,rfl,rfl,hk⟩;refine Ex.nT ?_;refine Ex.seq ?_;have hj:j<i\/j=i:=V
 refine tb (J2 j (O l)&&J2 (Y l j) n) (λh1=>?_) (λh1=>?_)
 .simp only [c8] at h1
  have h2:=F5 h1.1;have h3:=F5 h1.2;refine gr ?_;refine ⟨k - 1,?_,j+1,_,rfl,rfl,?_⟩
  .rcases hj with h|rfl
   .omega
   .exact absurd h3 (hi3 V)
  .rcases hj with h|rfl
   .omega
   .exact absurd h3 (hi3 V)
 obtain rfl:j=i:=by
  rcases hj with h|h
  .have:=hi2 j h
   simp only [Bool.and_eq_false_iff] at h1
   rcases h1 with h1|h1
   .have:=G7 h1;omega
   .have:=G7 h1;omega
  .exact h
 refine gr ?_;refine tb (J2 j (O l)&&A1 (Y l j) n) (λh4=>?_) (λh4=>?_)
 .simp only [c8] at h4
  have h2:=F5 h4.1;have h3:=aT h4.2;refine gr ?_;exact ⟨_,rfl,by rw [if_pos ⟨V,h3⟩];rfl⟩
 .have e:¬ (j<O l/\Y l j=n):=by
   rintro ⟨g1,g2⟩;simp only [Bool.and_eq_false_iff] at h4
   rcases h4 with h4|h4
   .have:=G7 h4;omega
   .exact qz h4 g2
  rw [if_neg e];refine gr ?_;exact ⟨_,rfl,rfl⟩
end Go.Proofs.YtibjocmpkoepoaaGreat
namespace Go.Proofs.YtibjocmpkoepoaaGreat
open Go.B3 Go.B3.S
theorem QG:∀{l m:List Int},l.Pairwise (·<·)->m.Pairwise (·<·)->(∀s,s∈l↔s∈m)->l=m
 |[],[],_,_,_=>rfl
 |[],y::m,_,_,h=>absurd ((h y).2 U) U
 |x::l,[],_,_,h=>absurd ((h x).1 U) U
 |x::l,y::m,h1,h2,h=>by
  obtain ⟨a1,b1⟩:=N6.1 h1;obtain ⟨a2,b2⟩:=N6.1 h2;have hx:=(h x).1 U;have hy:=(h y).2 U;have e:x=y:=by
   grind
  congr 1
  refine QG b1 b2 λs=>⟨λhs=>?_,λhs=>?_⟩
  all_goals grind
theorem CO (x s:Int):∀l:List Int,s∈xH x l↔s=x\/s∈l
 |[]=>by simp [xH]
 |y::l=>by
  simp [xH];split
  .simp
  .simp [C4,CO x s l]
   grind
theorem Gd (s:Int):∀l:List Int,s∈kZ l↔s∈l
 |[]=>by simp [kZ]
 |x::l=>by simp [kZ,CO,Gd s l,C4]
theorem Mo (x:Int):∀l:List Int,l.Pairwise (·<=·)->(xH x l).Pairwise (·<=·)
 |[],_=>by simp [xH]
 |y::l,h=>by
  obtain ⟨a,b⟩:=N6.1 h;simp [xH];split
  .grind [N6]
  .refine N6.2 ⟨λs hs=>?_,Mo x l b⟩
   grind [CO]
theorem Gy:∀l:List Int,(kZ l).Pairwise (·<=·)
 |[]=>by simp [kZ]
 |x::l=>Mo x _ (Gy l)
theorem CN (s:Int):∀l:List Int,s∈eZ l↔s∈l
 |[]=>by simp [eZ]
 |[x]=>by simp [eZ]
 |x::y::l=>by
  have ih:=CN s (y::l)
  grind [eZ]
theorem Kn:∀l:List Int,l.Pairwise (·<=·)->(eZ l).Pairwise (·<·)
 |[],_=>by simp [eZ]
 |[x],_=>by simp [eZ]
 |x::y::l,h=>by
  obtain ⟨a,b⟩:=N6.1 h;have ih:=Kn (y::l) b;simp [eZ];split
  .exact ih
  .refine N6.2 ⟨λs hs=>?_,ih⟩
   rw [CN] at hs;simp_all<;>grind
theorem CM (x s:Int):∀l:List Int,s∈gm l x↔s=x\/s∈l
 |[]=>by simp [gm]
 |y::l=>by
  have ih:=CM x s l
  grind [gm]
theorem Km (x:Int):∀l:List Int,l.Pairwise (·<·)->(gm l x).Pairwise (·<·)
 |[],_=>by simp [gm]
 |y::l,h=>by
  obtain ⟨a,b⟩:=N6.1 h;simp [gm];split
  .refine N6.2 ⟨λs hs=>?_,Km x l b⟩
   grind [CM]
  grind [N6]
theorem QD:∀(xs l:List Int),l.Pairwise (·<·)->(xs.foldl gm l).Pairwise (·<·)/\∀s,s∈xs.foldl gm l↔s∈l\/s∈xs
 |[],l,h=>⟨h,λs=>U⟩
 |x::xs,l,h=>by
  obtain ⟨h1,h2⟩:=QD xs (gm l x) (Km x l h)
  grind [CM]
def fix_eq (x:Int)(xs:List Int):xs.foldl gm [x]=eZ (kZ (x::xs)):=by
 grind [QD,QG,Kn,Gy,CN,Gd]
attribute [local irreducible] Rx Ry Rn Ex Pf
def ao6 {c:s6}{n:Int}(h:CB c n=W):kQ c n=W/\0<=n/\n<O c.k9:=by
 unfold CB at h;rw [c8] at h;have h1:=(Rv h.1).2.2;exact ⟨h.1,h1.1,F5 h.2⟩
section
variable {b:Nat} {j9 ops:List o4} {T:List c7} {n:Nat} {rl:List c7} {o5:List B3.Touch} {Q:List c7->n9->List c7->Prop}
end
def uD (p9:List dY)(k:Nat):List Int:=(p9.take k).flatMap dY.L0
def Gj {p9:List dY}{k:Nat}(h:k<O p9):uD p9 (k+1)=uD p9 k++(Y p9 k).L0:=by
 unfold uD;rw [N7 h];simp
theorem Db {p9:List dY}(h:∀i,i<O p9->O (Y p9 i).L0<=8):∀k,k<=O p9->O (uD p9 k)<=8 * k
 |0,_=>by simp [uD]
 |k+1,hk=>by
  have:=Db h k V;have:=h k V;rw [Gj V];simp;omega
def aH9 (t:jt):List Int:=0::uD t.p9 (O t.p9)
def fixC (c:s6)(n:Int):List Int:=eZ (kZ (aH9 (Y c.k9 n.toNat)))
theorem Dc (t:jt):∀(xs:List Int) (p:Int), -1<=p->X1 t p xs=W->(O xs:Int)<=max 0 (O t.p9 - 1 - p)
 |[],p,_,_=>D
 |o::r,p,hp,h=>by
  simp only [X1,c8] at h;obtain ⟨⟨⟨h1,h2⟩,_⟩,h4⟩:=h;have h1:=F5 h1;have h2:=F5 h2;have ih:=Dc t r o V h4;simp;omega
theorem ov (c:s6)(n:Nat):∀k i,eU c n k i=0->∀m,i<=m->m<i+k->aO c n m=0
 |0,i,_,m,h1,h2=>absurd h1 V
 |k+1,i,h,m,h1,h2=>by
  rw [eU] at h;cases e:A1 (aO c n i) 0 with
  |false =>
   simp only [e,Bool.not_false,if_true] at h;exact absurd h (qz e)
  |true =>
   simp only [e,Bool.not_true,e8,if_false] at h
   rcases x9 i m with g|g
   .exact ov c n k (i+1) h m V V
   .obtain rfl:m=i:=V
    exact aT e
def aA {c:s6}{n:Nat}(hv:M1 c=W)(hn:n<O c.k9):O (Y c.k9 n).p9<=8/\∀i,i<O (Y c.k9 n).p9->O (Y (Y c.k9 n).p9 i).L0<=8:=by
 have hok:=(eG hv).1;have hnl:=Y3 c;have ht:=Z9 (hok n (by unfold s6.ns at hnl;omega)) hn;have h8:=(fN ht).2;refine ⟨h8,λi hi=>?_⟩;have hc:aO c n i=0:=by
  unfold fh at ht;split at ht
  .omega
  .exact ov c n _ 0 ht i V V
 have ho:X1 (Y c.k9 n) (-1) (Y (Y c.k9 n).p9 i).L0=W:=by
  unfold aO at hc;cases h:X1 (Y c.k9 n) (-1) (Y (Y c.k9 n).p9 i).L0 with
  |true=>rfl
  |false =>
   rw [h] at hc;simp only [Bool.not_false,Bool.or_true,Bool.true_or] at hc
   repeat' split at hc
   all_goals first|omega|exact absurd trivial (by assumption)
 have:=Dc _ _ _ (Int.le_refl _) ho;omega
theorem Kj (x:Int):∀l:List Int,O (gm l x)<=O l+1
 |[]=>by simp [gm]
 |y::l=>by
  have:=Kj x l;simp only [gm];split
  .simp;omega
  .split<;>simp
theorem Cs:∀(xs l:List Int),O (xs.foldl gm l)<=O l+O xs
 |[],l=>U
 |x::xs,l=>by
  have h1:=Cs xs (gm l x);have h2:=Kj x l;simp only [List.foldl_cons,q7];omega
set_option maxHeartbeats 8000000 in
def bh6 (c:s6)(hs:J8 c)(n:Nat)(h:CB c n=W):Pf A 238 [cat c,.d (Z n)] (.d (ints (fixC c n))):=by
 have p90:=bO6 c hs n;rw [h] at p90;have h3:=ao6 h;have hcl:=aA (Rw h3.1) (n:=n) V;have e9:fixC c n=(uD (Y c.k9 n).p9 (O (Y c.k9 n).p9)).foldl gm [0]:=by rw [fix_eq];unfold fixC aH9;rw [Int.toNat_natCast]
 rw [e9];refine Pf.gr 6 ?_;refine tc (F) p90 (λh1=>?_) (λh1=>?_)
 .cases h1
 refine gr ?_;refine Ex.Ga (λq T H=>∃(k:Nat) (w0 w3 w4 w6 w7:c7),T=[w0,.d (Z n),.ptr 0 0,w3,w4,.d (Z k),w6,w7]/\H=[.cells (c.enc.map .d)]/\IsL w4 ((uD (Y c.k9 n).p9 k).foldl gm [0])/\k+q=O (Y c.k9 n).p9) (by rintro _ _ _ ⟨_,_,_,_,_,_,_,rfl,_⟩;rfl) ?_ (k:=O (Y c.k9 n).p9) ⟨0,_,_,_,_,_,rfl,rfl,.inr rfl,U⟩;rintro q _ _ ⟨k,w0,w3,w4,w6,w7,rfl,rfl,hw,hq⟩;refine Ex.nT ?_;refine Ex.seq ?_;refine tb (J2 k (O (Y c.k9 n).p9)) (λg1=>?_) (λg1=>?_)
 .have g2:=F5 g1
  have hol:=Db hcl.2 k V;have hok:=hcl.2 k V;obtain ⟨os,hos⟩:∃os,(Y (Y c.k9 n).p9 k).L0=os:=⟨_,rfl⟩;rw [hos] at hok;refine gr ?_;rw [hos];refine gr ?_;refine Ex.Ga (λq2 T H=>∃(j:Nat) (w0 w3 w4:c7),T=[w0,.d (Z n),.ptr 0 0,w3,w4,.d (Z k),.d (ints os),.d (Z j)]/\H=[.cells (c.enc.map .d)]/\IsL w4 ((uD (Y c.k9 n).p9 k++os.take j).foldl gm [0])/\j+q2=O os) (by rintro _ _ _ ⟨_,_,_,_,_,rfl,_⟩;rfl) ?_ (k:=O os) ⟨0,_,_,_,rfl,rfl,by simpa using hw,U⟩;clear hw;rintro q2 _ _ ⟨j,w0,w3,w4,rfl,rfl,hw,IP⟩;refine Ex.nT ?_;refine Ex.seq ?_;refine tl j (O os) (λg4=>?_) (λg4=>?_)
  .have hfl:=Cs (uD (Y c.k9 n).p9 k++os.take j) [0]
   simp only [s9,P7,List.length_singleton] at hfl;obtain ⟨w5,hw5,p88⟩:=bO4 ((uD (Y c.k9 n).p9 k++os.take j).foldl gm [0]) (Y os j) V;have hwa:=hw.as;have e1:(uD (Y c.k9 n).p9 k++os.take (j+1)).foldl gm [0]=gm ((uD (Y c.k9 n).p9 k++os.take j).foldl gm [0]) (Y os j):=by
    rw [N7 V,<- M3,List.foldl_append];rfl
   rw [<- e1] at hw5
   rcases hw5 with rfl|rfl
   .repeat' (first|refine mvA hwa ?_|refine cl (p88) ?_|refine gx ?_|fail)
    exact ⟨q2 - 1,V,j+1,_,_,_,rfl,rfl,.inl rfl,V⟩
   .repeat' (first|refine mvA hwa ?_|refine cl (p88) ?_|refine gx ?_|fail)
    exact ⟨q2 - 1,V,j+1,_,_,_,rfl,rfl,.inr rfl,V⟩
  .rw [y6 V,<- hos,<- Gj V] at hw
   refine gr ?_;exact ⟨q - 1,V,k+1,_,_,_,_,_,rfl,rfl,hw,V⟩
 .have g2:=G7 g1
  obtain rfl:k=O (Y c.k9 n).p9:=V
  have hwa:=hw.as
  repeat' (first|refine mvA hwa ?_|refine gx ?_|fail)
  exact ⟨_,rfl,rfl⟩
section
variable (c:s6) (hs:J8 c) (m:Nat) (s:M6) (h:kQ c m=W)
include hs h
end
@[irreducible] def cz4 (n:Int):Int:=IntKind.i64.wrap n
section
variable {A:Prog} {l:H8} {b:Nat} {dr:Bool} {j9 ops:List o4} {T:List c7} {H:n9} {n:Nat} {rl:List c7} {o5:List B3.Touch} {Q:List c7->n9->List c7->Prop}
end
end Go.Proofs.YtibjocmpkoepoaaGreat


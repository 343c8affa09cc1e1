import Derived.Test.YtibjocmpkoepoaaGreatE2
set_option linter.all false
open Bool renaming and_eq_true→c7,false_eq_true→j4,not_eq_false'→E4,not_eq_true'→p6,or_eq_false_iff→J3,true→W,false→F
open Int renaming toNat_natCast→J9
open List renaming drop_of_length_le→n9,map_cons→K0,mem_cons→B6,pairwise_cons→M7,replicate→c9,take_of_length_le→z7,length→O
open Nat renaming ble→F3,le_refl→l6,lt_or_ge→A5
open Option renaming some→J,none→K
namespace Go.Proofs.YtibjocmpkoepoaaGreat
open Go.A1 Go.A1.S
attribute [local irreducible] Rx Ry Rn Ex Pf
theorem wo (c:s5):∀k i,(iW c k i).2=0->iW c k i=(0,0)/\∀m,i<=m->m<i+k->R9 c m=0
 |0,i,_=>⟨rfl,λm h1 h2=>absurd h1 V⟩
 |k+1,i,h=>by
  rw [iW] at h ⊢;cases e:u7 (R9 c i) 0 with
  |false =>
   simp_all [Bool.not_false,if_true,absurd,wB]
  |true =>
   simp [e,if_false] at h ⊢;obtain ⟨h1,h2⟩:=wo c k (i+1) h
   grind [A5,eE]
theorem GG {c:s5}(h:(X2 c).2=0):(X2 c).1=0/\tooMany c=F/\mT c (O c.names):=by
 unfold X2 at h ⊢;cases e:tooMany c with
 |true=>simp_all
 |false =>
  rw [e] at h;simp only [j4,if_false] at h ⊢;obtain ⟨h1,h2⟩:=wo c _ _ h;exact ⟨by rw [h1],trivial,λm hm=>h2 m V V⟩
abbrev xV (c:s5):Inhabited XO:=⟨⟨.dead,.cells (c.enc.map .d),rfl,rfl⟩⟩
def Yx [Inhabited XO] {c:s5}{fds:List M3}{fss:List gU}{v:c8}{H1:q6}(h:BL c fds fss v H1):v= .tuple [.d .dg,.d (Z (X2 c).1),.d (Z (X2 c).2)]\/v= .tuple [.ptr 5 0,.d (Z (X2 c).1),.d (Z (X2 c).2)]:=by
 obtain ⟨_,h1,h2⟩:=h
 grind [u7,X2,trans,eE,GG]
def F0 (c:s5):Bool:=u7 (X2 c).2 0
def Xb (c:s5)(hs:G4 c):Pf A 46 [cat c] (.d (.bool (F0 c))):=by
 letI:=xV c
 obtain ⟨v,H1,hp,SQ⟩:=ae3 c hs;have hle:=Qm hp;refine Pf.gr 3 ?_;refine Ex.fz SJ ?_
 rcases Yx hp with rfl|rfl
 .repeat' (first|refine cp SQ hle ?_|refine gx ?_|fail)
  exact ⟨_,rfl,rfl⟩
 .repeat' (first|refine cp SQ hle ?_|refine gx ?_|fail)
  exact ⟨_,rfl,rfl⟩
def ck [Inhabited XO] {b:Nat}{dr:Bool}{l5 ops:List p7}{T:List c8}{n:Nat}{rl:List c8}{o9:List A1.Touch}{Q:List c8->q6->List c8->Prop}{c:s5}{ds:List M3}{ss:List gU}{R:q6}{f:FuncId}{xs:List y7}{u:List Nat}{v:c8}{args:List c8}(hc:Pm A f args (HH c ds ss) lR v (HH c ds ss))(h2:Ry A W8 b dr l5 ops T (HH c ds ss++R) (n+1) (v::rl) o9 Q)
  (ha:xs.map (rq T n rl)=args:=by rfl) (hb:C5 args=6:=by rfl) (jG:A.prom f=F:=by rfl) (hm:A.mode f=1:=by rfl):Ry A W8 b dr l5 (⟨.call f xs,K,K,u⟩::ops) T (HH c ds ss++R) n rl o9 Q:=by
 have XY:=Yg c ds ss;have hd5:=RW c ds ss;refine c1 hc rfl h2 (m:=6) ?_ ?_ rfl rfl ?_ ha jG hm
 .show P0 (HH c ds ss)<=6
  exact XY
 .rw [hb]
  exact fG (by show P0 (HH c ds ss)<=6;exact XY)
 .show I7.mk 0 6 6 (E9 _ 0 6)=lR
  rw [TM (by show aQ (HH c ds ss) 0=W;exact hd5)];rfl
def Y2 (c:s5)(n:Int):Bool:=F0 c&&(cg 0 n&&F6 n (s5.ns c))
def be0 (c:s5){n:Int}(h:0<=n/\n<(s5.ns c)):Y (O7 c (s5.ns c)) n.toNat=rW c n.toNat:=bI c V
def wL {c:s5}{n:Int}(h:Y2 c n=W):u7 (X2 c).2 0=W/\(cg 0 n&&F6 n (s5.ns c))=W/\0<=n/\n<(s5.ns c):=by
 unfold Y2 F0 at h;rw [c7] at h;exact ⟨h.1,h.2,by simpa [s8,s9] using h.2⟩
def aM6 (c:s5)(hs:G4 c)(n:Int)(h:Y2 c n=W):Pf A 115 [cat c,.d (Z n)] (.d (ints (P4 c n.toNat))):=by
 letI:=xV c
 obtain ⟨v,H1,hp,SQ⟩:=ae3 c hs;have hle:=Qm hp;obtain ⟨_,hp1,hp2⟩:=hp;obtain ⟨e,h2,h3⟩:=wL h;obtain ⟨rfl,rfl⟩:=hp2 e;have h4:=be0 c h3;have h6:=aN c (s5.ns c);have p38:=ce9 c c.names (O7 c (s5.ns c)) n;rw [aN,h2] at p38;refine Pf.gr 4 ?_;refine Ex.fz SJ ?_
 repeat' (first|refine cp SQ hle ?_|refine gx ?_|fail)
 refine tB (F) ?_ (λh1=>?_) (λh1=>?_)
 .repeat' (first|refine ck p38 ?_|refine gx ?_|refine fq (λhw=>?_) λhw=>?_|refine ⟨rfl,rfl,_,rfl,?_⟩|refine ⟨rfl,rfl⟩|fail)
  all_goals exact cc
 .cases h1
 refine gr ?_;exact ⟨_,rfl,by rw [h4];rfl⟩
def iv (n:Int):c8:= .d (Z n)
theorem ve:∀xs:List Int,me (xs.map iv)=J xs
 |[]=>rfl
 |x::xs=>by
  have:=ve xs;simp only [K0,iv,Z,me];rw [this]
theorem tG:∀xs:List Int,O (dW xs)=O xs
 |[]=>rfl
 |x::xs=>by
  have h:∀l:List Int,O (BA x l)=O l+1:=λl=>by
   induction l with
   |nil=>rfl
   |cons y l ih=>simp only [BA];split<;>simp [ih]
  simp [dW,h,tG xs]
theorem qO:∀xs:List Int,O (aj xs)<=O xs
 |[]=>l6 _
 |[x]=>l6 _
 |x::y::l=>by
  have:=qO (y::l);simp only [aj];split<;>simp at this ⊢<;>omega
def am0 {H:q6}{id:Nat}{old vs:List c8}(ho:H[id]? =J (.cells old))(hl:O vs=O old):wr H id 0 vs=J (H.set id (.cells vs)):=by
 simp [wr,ho,hl,splice,n9]
def af5 {H:q6}{id len:Nat}{old:List c8}(ho:H[id]? =J (.cells old))(hl:O old=len):rd H id 0 len=J old:=by
 simp [rd,ho,hl,z7]
def ac6 {H:q6}{id len:Nat}{l:I7}{xs:List Int}(hm:l.may id=W)(ho:H[id]? =J (.cells (xs.map iv)))(hl:O xs=len)(hb:F3 len 1000000=W:=by rfl):Hv [.B8 id 1 0 len] H l=J (.tuple [],H.set id (.cells ((dW xs).map iv))):=by
 have h1:=af5 (len:=len) ho (by simp [hl]);have h2:=am0 (vs:=(dW xs).map iv) ho (by simp [tG]);simp only [Hv,hm,hb,Bool.and_self,if_true,h1,ve];rw [show ((dW xs).map λn=>c8.d (.int .i64 n))=(dW xs).map iv from rfl,h2]
def Au {H:q6}{id len:Nat}{l:I7}{xs:List Int}(hm:l.may id=W)(ho:H[id]? =J (.cells (xs.map iv)))(hl:O xs=len)(hb:F3 len 1000000=W:=by rfl) :
  oc [.B8 id 1 0 len] H l=J (.B8 id 1 0 (O (aj xs)),H.set id (.cells ((aj xs++c9 (O xs - O (aj xs)) 0).map iv))):=by
 have h1:=af5 (len:=len) ho (by simp [hl]);have h3:=qO xs;have h2:=am0 (vs:=(aj xs++c9 (O xs - O (aj xs)) 0).map iv) ho D;simp only [oc,hm,hb,Bool.and_self,if_true,h1,ve];have h4:wr H id 0 ((aj xs++c9 (O xs - O (aj xs)) 0).map λn=>c8.d (.int .i64 n))=_:=h2;rw [h4]
def sns (c:s5):List M3:=(O7 c (s5.ns c)).map (·.1)
def bY (c:s5)(s:M3):Int:=if F0 c then K9 s (sns c) 0 else -1
def cd4 (c:s5)(hs:G4 c)(s:M3):Pf A 71 [cat c,.d (.str s)] (.d (Z (bY c s))):=by
 letI:Inhabited XO:=⟨⟨.cells (c.enc.map .d),.cells [.d (Z 0)],rfl,rfl⟩⟩
 obtain ⟨v,H1,hp,SQ⟩:=ae3 c hs;have hle:=Qm hp;obtain ⟨⟨R,hR⟩,hp1,hp2⟩:=hp;refine Pf.go 4 ?_;cases e:u7 (X2 c).2 0 with
 |false =>
  obtain rfl:=hp1 e;subst hR
  repeat' (first|refine dfl ?_|refine cp SQ hle ?_|refine gx ?_|fail)
  refine tc (W) e (λh1=>?_) (λh1=>?_)
  .refine gr ?_
   exact ⟨_,rfl,by unfold bY F0;rw [e];rfl⟩
  .cases h1
 |true =>
  obtain ⟨rfl,hH⟩:=hp2 e;have Xa:=Re c c.names (O7 c (s5.ns c)) s;subst hH
  repeat' (first|refine dfl ?_|refine cp SQ hle ?_|refine gx ?_|fail)
  refine tc (F) e (λh1=>?_) (λh1=>?_)
  .cases h1
  repeat' (first|refine ck Xa ?_|refine gx ?_|fail)
  exact ⟨_,rfl,by unfold bY F0;rw [e];rfl⟩
def Ng (c:s5)(hs:G4 c):Pf A 40 [cat c] (.d (.bool (F0 c))):=by
 have p:=cd5 c hs;unfold pair at p;refine Pf.go 3 ?_;refine gc p ?_;exact ⟨_,rfl,rfl⟩
def ZF (c:s5)(n:Int):Y2 c n=(s7 n 0 ((O c.k9:Int)+O c.views - 1)&&F0 c):=by
 unfold Y2 s7 s5.ns;rw [Bool.eq_iff_iff];simp only [c7,s8,s9,decide_eq_true_eq];constructor
 .rintro ⟨h1,h2,h3⟩;exact ⟨⟨h2,V⟩,h1⟩
 .rintro ⟨⟨h2,h3⟩,h1⟩;exact ⟨h1,h2,V⟩
def ba5 (c:s5)(hs:G4 c)(n:Int):Pf A 53 [cat c,.d (Z n)] (.d (.bool (Y2 c n))):=by
 obtain ⟨f0,f1,f2,f3,f4,f5,f6,f7⟩:=id hs.sm.oW;have p36:=Ng c hs;have p95:=vz n 0 ((O c.k9:Int)+O c.views - 1);rw [ZF];refine Pf.go 2 ?_
 repeat' (first|refine cl (p95) ?_|refine cl (p36) ?_|refine gy ?_|refine fq (λhw=>?_) λhw=>?_|refine ⟨_,rfl,?_⟩|fail)
 all_goals simp [*,j3]
def tY (c:s5)(n:Int):Bool:=Y2 c n&&F6 n (O c.k9)
def ce3 (c:s5)(hs:G4 c)(n:Int):Pf A 106 [cat c,.d (Z n)] (.d (.bool (tY c n))):=by
 have p85:=ba5 c hs n;unfold tY;refine Pf.go 2 ?_
 repeat' (first|refine cl (p85) ?_|refine gy ?_|refine fq (λhw=>?_) λhw=>?_|refine ⟨_,rfl,?_⟩|fail)
 all_goals simp [*,j3]
def xC {c:s5}(h:F0 c=W):mT c (O c.names)/\tooMany c=F/\xx c (s5.ns c):=by
 have h1:=GG (eE h);have hnl:=iH c;exact ⟨h1.2.2,h1.2.1,kV (λm hm=>h1.2.2 m V) (l6 _)⟩
def az3 {c:s5}{n:Int}(h:Y2 c n=W):F0 c=W:=by
 unfold Y2 at h;rw [c7] at h;exact h.1
def Dp (c:s5)(s:M3):Int:=if F0 c then I4 c s (s5.ns c) else -1
def ba3 (c:s5)(hs:G4 c)(s:M3):Pf A 86 [cat c,.d (.str s)] (.d (Z (Dp c s))):=by
 obtain ⟨f0,f1,f2,f3,f4,f5,f6,f7⟩:=id hs.sm.oW;have gY:s5.ns c=O c.k9+O c.views:=rfl;have p36:=Ng c hs;have p84:=Kb c s (s5.ns c) hs.sm.oW V;rw [show ((s5.ns c:Nat):Int)=(O c.k9:Int)+O c.views by omega] at p84;refine Pf.gr 2 ?_;refine tc (!F0 c) p36 (λh1=>?_) (λh1=>?_)
 .refine gr ?_
  exact ⟨_,rfl,by unfold Dp;rw [p6] at h1;rw [h1];rfl⟩
 .refine gc p84 ?_
  exact ⟨_,rfl,by unfold Dp;rw [E4] at h1;rw [h1];rfl⟩
def Ze (c:s5)(s:M3):Dp c s=if F0 c then K9 s (sns c) 0 else -1:=by
 unfold Dp I4 sns;rw [rX c (l6 _)]
def bx1 (c:s5)(hs:G4 c)(n:Int)(h:Y2 c n=F):Pf A 20 [cat c,.d (Z n)] (.own 1 0 []):=by
 have p85:=ba5 c hs n;rw [h] at p85;refine Pf.gr 2 ?_;refine tc (W) p85 (λh1=>?_) (λh1=>?_)
 .refine gr ?_
  exact ⟨_,rfl,rfl⟩
 .cases h1
def ad9 (c:s5)(hs:G4 c)(n:Int)(h:Y2 c n=W):Pf A 20 [cat c,.d (Z n)] (.d (ints (P4 c n.toNat))):=by
 have p85:=ba5 c hs n;rw [h] at p85;have h2:=xC (az3 h);have h3:=(wL h).2.2;have p:=(kY c hs (s5.ns c) n.toNat V (l6 _) h2.2.2).1;rw [Int.toNat_of_nonneg h3.1] at p;refine Pf.gr 2 ?_;refine tc (F) p85 (λh1=>?_) (λh1=>?_)
 .cases h1
 refine gc p ?_;exact ⟨_,rfl,rfl⟩
def gv:List Int->Int->List Int
 |[],n=>[n]
 |x::l,n=>if x<n then x::gv l n else if x=n then x::l else n::x::l
theorem Sb:∀(l:List Int) (n:Int) (i:Nat),i<=O l->(∀j,j<i->Y l j<n)->(i<O l->¬ Y l i<n)->gv l n=if i<O l/\Y l i=n then l else l.take i++[n]++l.drop i
 |[],n,i,h,_,_=>by
  simp_all [gv]
 |x::l,n,0,h,_,h2=>by
  grind [Y,gv]
 |x::l,n,i+1,h,h1,h2=>by
  have h0:∀j,j<O l->Y (x::l) (j+1)=Y l j:=λj hj=>by simp_all [E6]
  have h3:x<n:=by have:=h1 0 V;simp_all [E6]
  have hl:i<=O l:=by simpa using h
  have ih:=Sb l n i hl (λj hj=>by grind) (λhi=>M)
  grind [gv,Y]
def IsL (w:c8)(xs:List Int):Prop:=w= .d (ints xs)\/w=D9 1 (λn=>[Z n]) xs
def IsL.as {w:c8}{xs:List Int}(h:IsL w xs):w.K7= .d (ints xs):=by
 rcases h with rfl|rfl<;>rfl
set_option maxHeartbeats 2000000 in
def bx5 (l:List Int)(n:Int)(hl:O l<=200000):∃w,IsL w (gv l n)/\Pf A 135 [.d (ints l),.d (Z n)] w:=by
 obtain ⟨i,hi1,hi2,hi3⟩:∃i,i<=O l/\(∀j,j<i->Y l j<n)/\(i<O l->¬ Y l i<n):=by
  clear hl
  induction l with
  |nil=>exact ⟨0,U,U,U⟩
  |cons x l ih =>
   by_cases hx:x<n
   .obtain ⟨i,h1,h2,h3⟩:=ih
    have h0:∀j,j<O l->Y (x::l) (j+1)=Y l j:=λj hj=>by rw [E6 D,E6 hj];simp
    refine ⟨i+1,D,λj hj=>?_,λhi=>?_⟩
    .cases j with
     |zero=>rw [E6 U];exact hx
     |succ j=>rw [h0 j V];exact h2 j V
    .simp at hi
     rw [h0 i hi];exact h3 hi
   .exact ⟨0,U,U,λ_=>by rw [E6 U];exact hx⟩
 have ha:=Sb l n i hi1 hi2 hi3;have key:∀w,w=(if i<O l/\Y l i=n then c8.d (ints l) else D9 1 (λn=>[Z n]) (l.take i++[n]++l.drop i))->IsL w (gv l n):=λw hw=>by
  rw [ha,hw];split
  .exact .inl rfl
  .exact .inr rfl
 refine ⟨_,key _ rfl,?_⟩;refine Pf.gr 2 ?_;refine Ex.aY (λk T H=>∃(j:Nat) (w2:c8),T=[.d (ints l),.d (Z n),w2,.d (Z j)]/\H=[]/\j+k=i) ?_ (k:=i) ⟨0,_,rfl,rfl,U⟩;rintro k _ _ ⟨j,w2,rfl,rfl,hk⟩;refine Ex.nT ?_;refine Ex.seq ?_;have hj:j<i\/j=i:=V
 refine tb (F6 j (O l)&&F6 (Y l j) n) (λh1=>?_) (λh1=>?_)
 .simp only [c7] at h1
  have h2:=C4 h1.1;have h3:=C4 h1.2;refine gr ?_;refine ⟨k - 1,?_,j+1,_,rfl,rfl,?_⟩
  .rcases hj with h|rfl
   .omega
   .exact absurd h3 (hi3 V)
  .rcases hj with h|rfl
   .omega
   .exact absurd h3 (hi3 V)
 obtain rfl:j=i:=by
  rcases hj with h|h
  .have:=hi2 j h
   simp only [Bool.and_eq_false_iff] at h1
   rcases h1 with h1|h1
   .have:=B5 h1;omega
   .have:=B5 h1;omega
  .exact h
 refine gr ?_;refine tb (F6 j (O l)&&u7 (Y l j) n) (λh4=>?_) (λh4=>?_)
 .simp only [c7] at h4
  have h2:=C4 h4.1;have h3:=eE h4.2;refine gr ?_;exact ⟨_,rfl,by rw [if_pos ⟨V,h3⟩];rfl⟩
 .have e:¬ (j<O l/\Y l j=n):=by
   rintro ⟨g1,g2⟩;simp only [Bool.and_eq_false_iff] at h4
   rcases h4 with h4|h4
   .have:=B5 h4;omega
   .exact wB h4 g2
  rw [if_neg e];refine gr ?_;exact ⟨_,rfl,rfl⟩
theorem He (s:M3):∀(l:List M3) (k i:Nat),0<=K9 s (l.take k) i->K9 s l i=K9 s (l.take k) i
 |[],k,i,h=>U
 |d::l,0,i,h=>by simp [K9] at h
 |d::l,k+1,i,h=>by
  simp [List.take_succ_cons,K9] at h ⊢;split
  .rfl
  next h1=>
   rw [if_neg h1] at h;exact He s l k (i+1) h
end Go.Proofs.YtibjocmpkoepoaaGreat
namespace Go.Proofs.YtibjocmpkoepoaaGreat
open Go.A1 Go.A1.S
theorem Sj:∀{l m:List Int},l.Pairwise (·<·)->m.Pairwise (·<·)->(∀s,s∈l↔s∈m)->l=m
 |[],[],_,_,_=>rfl
 |[],y::m,_,_,h=>absurd ((h y).2 U) U
 |x::l,[],_,_,h=>absurd ((h x).1 U) U
 |x::l,y::m,h1,h2,h=>by
  obtain ⟨a1,b1⟩:=M7.1 h1;obtain ⟨a2,b2⟩:=M7.1 h2;have hx:=(h x).1 U;have hy:=(h y).2 U;have e:x=y:=by
   grind
  congr 1
  refine Sj b1 b2 λs=>⟨λhs=>?_,λhs=>?_⟩
  all_goals grind
theorem MG (x s:Int):∀l:List Int,s∈BA x l↔s=x\/s∈l
 |[]=>by simp [BA]
 |y::l=>by
  simp [BA];split
  .simp
  .simp [B6,MG x s l]
   grind
theorem tu (s:Int):∀l:List Int,s∈dW l↔s∈l
 |[]=>by simp [dW]
 |x::l=>by simp [dW,MG,tu s l,B6]
theorem nV (s:Int):∀l:List Int,s∈aj l↔s∈l
 |[]=>by simp [aj]
 |[x]=>by simp [aj]
 |x::y::l=>by
  have ih:=nV s (y::l)
  grind [aj]
theorem Lo:∀l:List Int,l.Pairwise (·<=·)->(aj l).Pairwise (·<·)
 |[],_=>by simp [aj]
 |[x],_=>by simp [aj]
 |x::y::l,h=>by
  obtain ⟨a,b⟩:=M7.1 h;have ih:=Lo (y::l) b;simp [aj];split
  .exact ih
  .refine M7.2 ⟨λs hs=>?_,ih⟩
   rw [nV] at hs;simp_all<;>grind
theorem DH (x s:Int):∀l:List Int,s∈gv l x↔s=x\/s∈l
 |[]=>by simp [gv]
 |y::l=>by
  have ih:=DH x s l
  grind [gv]
theorem Ln (x:Int):∀l:List Int,l.Pairwise (·<·)->(gv l x).Pairwise (·<·)
 |[],_=>by simp [gv]
 |y::l,h=>by
  obtain ⟨a,b⟩:=M7.1 h;simp [gv];split
  .refine M7.2 ⟨λs hs=>?_,Ln x l b⟩
   grind [DH]
  grind [M7]
theorem Sc:∀(xs l:List Int),l.Pairwise (·<·)->(xs.foldl gv l).Pairwise (·<·)/\∀s,s∈xs.foldl gv l↔s∈l\/s∈xs
 |[],l,h=>⟨h,λs=>U⟩
 |x::xs,l,h=>by
  obtain ⟨h1,h2⟩:=Sc xs (gv l x) (Ln x l h)
  grind [DH]
attribute [local irreducible] Rx Ry Rn Ex Pf
def l8:I7:=⟨0,8,8,8⟩
def yT (c:s5)(n:Int):tY c n=(!(F6 n 0||cg (O c.k9) n|| !F0 c)):=by
 unfold tY Y2 s5.ns;rw [Bool.eq_iff_iff];simp only [c7,p6,J3,s8,s9,decide_eq_true_eq,decide_eq_false_iff_not,E4];constructor
 .rintro ⟨⟨h1,h2,h3⟩,h4⟩;exact ⟨⟨V,V⟩,h1⟩
 .rintro ⟨⟨h2,h3⟩,h1⟩;exact ⟨⟨h1,V,V⟩,V⟩
def Td {c:s5}{n:Int}(h:tY c n=W):Y2 c n=W/\0<=n/\n<O c.k9:=by
 unfold tY at h;rw [c7] at h;have h1:=(wL h.1).2.2;exact ⟨h.1,h1.1,C4 h.2⟩
def rI (s6:List gu):Nat->List Int
 |0=>[]
 |k+1=>rI s6 k++(if F6 0 (O (Y s6 k).L8) then [(k:Int)] else [])
def ac8 {s6:List gu}{k:Nat}(h:F6 0 (O (Y s6 k).L8)=F):rI s6 (k+1)=rI s6 k:=by
 simp only [rI];rw [h];simp
def ac9 {s6:List gu}{k:Nat}(h:F6 0 (O (Y s6 k).L8)=W):rI s6 (k+1)=rI s6 k++[(k:Int)]:=by
 simp only [rI];rw [h];simp
theorem od (s6:List gu):∀k,O (rI s6 k)<=k
 |0=>l6 _
 |k+1=>by
  have:=od s6 k;simp only [rI];split<;>simp<;>omega
def kX (c:s5)(n:Int):List Int:=rI (Y c.k9 n.toNat).s6 (O (Y c.k9 n.toNat).s6)
set_option maxHeartbeats 8000000 in
def bw2 (c:s5)(hs:G4 c)(n:Nat)(h:tY c n=W):Pf A 103 [cat c,.d (Z n)] (.d (ints (kX c n))):=by
 have p10:=Xb c hs;have e:(F6 n 0||cg (O c.k9) n|| !F0 c)=F:=by
  have e:=congrArg (!·) (yT c n);rw [h] at e;simp only [Bool.not_not,Bool.not_true] at e;exact e.symm
 have h3:=Td h;have hcl:=hs.sm.s6 n V;obtain ⟨t,ht⟩:∃t,Y c.k9 n=t:=⟨_,rfl⟩;have e9:kX c n=rI t.s6 (O t.s6):=by unfold kX;rw [J9,ht]
 rw [ht] at hcl;rw [e9];refine Pf.gr 8 ?_;refine tc (F6 n 0||cg (O c.k9) n|| !F0 c) p10 (λh1=>?_) (λh1=>?_)
 .rw [e] at h1;cases h1
 refine gr ?_;rw [ht];refine gr ?_;refine Ex.au (λq T H=>∃(k:Nat),T=[.any,.any,.any,.any,D9 1 (λn=>[Z n]) (rI t.s6 k),.any,.any,.d (C6 gu.enc t.s6),.d (Z (O t.s6)),.d (Z k)]/\H=[.cells (c.enc.map .d)]/\k+q=O t.s6) ?_ (k:=O t.s6) ⟨0,rfl,rfl,U⟩;rintro q _ _ ⟨k,rfl,rfl,hq⟩;have Du:=od t.s6 k;refine Ex.seq ?_;refine tl k (O t.s6) (λg2=>?_) (λg2=>?_)
 .refine gr ?_
  refine tb (F6 0 (O (Y t.s6 k).L8)) (λg3=>?_) (λg3=>?_)
  .refine gr ?_
   exact ⟨q - 1,V,_,_,rfl,k+1,by rw [ac9 g3];rfl,rfl,V⟩
  .refine gr ?_
   exact ⟨q - 1,V,_,_,rfl,k+1,by rw [ac8 g3];rfl,rfl,V⟩
 .obtain rfl:k=O t.s6:=V
  refine gr ?_;exact ⟨_,rfl,rfl⟩
set_option maxHeartbeats 8000000 in
def bx2 (c:s5)(hs:G4 c)(n:Nat)(h:tY c n=W):Pf A 49 [cat c,.d (Z n)] (.d (ints (kX c n))):=by
 have p90:=ce3 c hs n;rw [h] at p90;have h3:=Td h;have hcl:=hs.sm.s6 n V;have e9:kX c n=rI (Y c.k9 n).s6 (O (Y c.k9 n).s6):=by unfold kX;rw [J9]
 rw [e9];refine Pf.gr 4 ?_;refine Ex.ru (λq T H=>∃(k:Nat) (w0 w3:c8),T=[w0,.d (Z n),.ptr 0 0,w3,D9 1 (λn=>[Z n]) (rI (Y c.k9 n).s6 k),.d (Z k)]/\H=[.cells (c.enc.map .d)]/\k+q=O (Y c.k9 n).s6) (by rintro _ _ _ ⟨_,_,_,_,rfl,_⟩;rfl) ?_ (k:=O (Y c.k9 n).s6) ⟨0,_,_,rfl,rfl,U⟩;rintro q _ _ ⟨k,w0,w3,rfl,rfl,hq⟩;have Du:=od (Y c.k9 n).s6 k;refine Ex.nT ?_;refine Ex.seq ?_;refine tc (F6 k (O (Y c.k9 n).s6)) p90 (λg1=>?_) (λg1=>?_)
 .have g2:=C4 g1
  refine gr ?_;refine tb (F6 0 (O (Y (Y c.k9 n).s6 k).L8)) (λg3=>?_) (λg3=>?_)
  .refine gr ?_
   exact ⟨q - 1,V,k+1,_,_,by rw [ac9 g3];rfl,rfl,V⟩
  .refine gr ?_
   exact ⟨q - 1,V,k+1,_,_,by rw [ac8 g3];rfl,rfl,V⟩
 .have g2:=B5 g1
  obtain rfl:k=O (Y c.k9 n).s6:=V
  refine gr ?_;exact ⟨_,rfl,rfl⟩
theorem CC:∀xs:List Int,C5 (xs.map iv)=0
 |[]=>rfl
 |x::xs=>by simp [C5,iv,c8.L7,CC xs]
theorem Dn:∀xs:List Int,(xs.flatMap λn=>[Z n])=xs.map Z
 |[]=>rfl
 |x::xs=>by simp [Dn xs]
theorem QA (H:q6)(n:Nat):∀(xs:List Int) (f:Nat),O xs<f->cV H n f (xs.map iv)=J (xs.map iv)
 |[],f+1,_=>rfl
 |x::xs,f+1,h=>by
  have ih:=QA H n xs f (by simp at h;omega);simp only [K0,cV,ih,iv]
theorem Qq:∀xs:List Int,P7 (xs.map iv)=J (xs.map Z)
 |[]=>rfl
 |x::xs=>by simp only [K0,P7,iv,c8.data?];rw [Qq xs]
section
variable {b:Nat} {l5 ops:List p7} {T:List c8} {n:Nat} {rl:List c8} {o9:List A1.Touch} {Q:List c8->q6->List c8->Prop}
end
end Go.Proofs.YtibjocmpkoepoaaGreat


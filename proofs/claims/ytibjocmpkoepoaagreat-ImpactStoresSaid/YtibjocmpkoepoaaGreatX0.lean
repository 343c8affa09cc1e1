import Derived.Test.YtibjocmpkoepoaaGreatE2
set_option linter.all false
open Bool renaming and_eq_true→c9,false_eq_true→j6,not_eq_false'→B7,not_eq_true'→o9,or_eq_false_iff→B2,true→W,false→F
open Int renaming toNat_natCast→G6
open List renaming append_assoc→F5,drop_of_length_le→n5,length_append→j9,length_cons→n9,length_singleton→E5,length_take→L1,map_cons→G7,mem_cons→K2,pairwise_cons→F2,replicate→c8,take_of_length_le→s9,length→O
open Nat renaming le_refl→k9,lt_or_ge→y8
open Option renaming some→J,none→K
namespace Go.Proofs.YtibjocmpkoepoaaGreat
open Go.z6 Go.z6.S
attribute [local irreducible] Rx Ry Rn Ex Pf
theorem pJ (c:p7):∀k i,(ep c k i).2=0->ep c k i=(0,0)/\∀m,i<=m->m<i+k->M9 c m=0
 |0,i,_=>⟨rfl,λm h1 h2=>absurd h1 V⟩
 |k+1,i,h=>by
  rw [ep] at h ⊢;cases e:s7 (M9 c i) 0 with
  |false =>
   simp_all [Bool.not_false,if_true,absurd,iW]
  |true =>
   simp [e,if_false] at h ⊢;obtain ⟨h1,h2⟩:=pJ c k (i+1) h
   grind [y8,W9]
theorem zg {c:p7}(h:(S1 c).2=0):(S1 c).1=0/\tooMany c=F/\iD c (O c.names):=by
 unfold S1 at h ⊢;cases e:tooMany c with
 |true=>simp_all
 |false =>
  rw [e] at h;simp only [j6,if_false] at h ⊢;obtain ⟨h1,h2⟩:=pJ c _ _ h;exact ⟨by rw [h1],trivial,λm hm=>h2 m V V⟩
abbrev xV (c:p7):Inhabited XO:=⟨⟨.dead,.cells (c.enc.map .d),rfl,rfl⟩⟩
def Lk [Inhabited XO] {c:p7}{fds:List I4}{RF:List dB}{v:c7}{H1:k8}(h:uF c fds RF v H1):v= .tuple [.d .dW,.d (Z (S1 c).1),.d (Z (S1 c).2)]\/v= .tuple [.ptr 5 0,.d (Z (S1 c).1),.d (Z (S1 c).2)]:=by
 obtain ⟨_,h1,h2⟩:=h
 grind [s7,S1,trans,W9,zg]
def C4 (c:p7):Bool:=s7 (S1 c).2 0
def Ut (c:p7)(hs:D9 c):Pf A 46 [cat c] (.d (.bool (C4 c))):=by
 letI:=xV c
 obtain ⟨v,H1,hp,HT⟩:=Nx c hs;have hle:=FB hp;refine Pf.gr 3 ?_;refine Ex.fz HK ?_
 rcases Lk hp with rfl|rfl
 .repeat' (first|refine cp HT hle ?_|refine gx ?_|fail)
  exact ⟨_,rfl,rfl⟩
 .repeat' (first|refine cp HT hle ?_|refine gx ?_|fail)
  exact ⟨_,rfl,rfl⟩
def ck [Inhabited XO] {b:Nat}{dr:Bool}{j8 ops:List x9}{T:List c7}{n:Nat}{rl:List c7}{l6:List z6.Touch}{Q:List c7->k8->List c7->Prop}{c:p7}{ds:List I4}{ss:List dB}{R:k8}{f:FuncId}{xs:List A4}{u:List Nat}{v:c7}{args:List c7}(hc:Pm A f args (HH c ds ss) lR v (HH c ds ss))(h2:Ry A N9 b dr j8 ops T (HH c ds ss++R) (n+1) (v::rl) l6 Q)
  (ha:xs.map (rq T n rl)=args:=by rfl) (hb:A2 args=6:=by rfl) (eM:A.prom f=F:=by rfl) (hm:A.mode f=1:=by rfl):Ry A N9 b dr j8 (⟨.call f xs,K,K,u⟩::ops) T (HH c ds ss++R) n rl l6 Q:=by
 have Vq:=KT c ds ss;have ZF:=GQ c ds ss;refine c1 hc rfl h2 (m:=6) ?_ ?_ rfl rfl ?_ ha eM hm
 .show C9 (HH c ds ss)<=6
  exact Vq
 .rw [hb]
  exact I8 (by show C9 (HH c ds ss)<=6;exact Vq)
 .show G9.mk 0 6 6 (B1 _ 0 6)=lR
  rw [IA (by show U6 (HH c ds ss) 0=W;exact ZF)];rfl
def R5 (c:p7)(n:Int):Bool:=C4 c&&(U4 0 n&&D0 n (p7.ns c))
def UT (c:p7){n:Int}(h:0<=n/\n<(p7.ns c)):Y (K8 c (p7.ns c)) n.toNat=mq c n.toNat:=Y7 c V
def uJ {c:p7}{n:Int}(h:R5 c n=W):s7 (S1 c).2 0=W/\(U4 0 n&&D0 n (p7.ns c))=W/\0<=n/\n<(p7.ns c):=by
 unfold R5 C4 at h;rw [c9] at h;exact ⟨h.1,h.2,by simpa [r7,s4] using h.2⟩
def Nq (c:p7)(hs:D9 c)(n:Int)(h:R5 c n=W):Pf A 115 [cat c,.d (Z n)] (.d (ints (M3 c n.toNat))):=by
 letI:=xV c
 obtain ⟨v,H1,hp,HT⟩:=Nx c hs;have hle:=FB hp;obtain ⟨_,hp1,hp2⟩:=hp;obtain ⟨e,h2,h3⟩:=uJ h;obtain ⟨rfl,rfl⟩:=hp2 e;have h4:=UT c h3;have h6:=W1 c (p7.ns c);have p38:=az0 c c.names (K8 c (p7.ns c)) n;rw [W1,h2] at p38;refine Pf.gr 4 ?_;refine Ex.fz HK ?_
 repeat' (first|refine cp HT hle ?_|refine gx ?_|fail)
 refine tB (F) ?_ (λh1=>?_) (λh1=>?_)
 .repeat' (first|refine ck p38 ?_|refine gx ?_|refine fq (λhw=>?_) λhw=>?_|refine ⟨rfl,rfl,_,rfl,?_⟩|refine ⟨rfl,rfl⟩|fail)
  all_goals exact cc
 .cases h1
 refine gr ?_;exact ⟨_,rfl,by rw [h4];rfl⟩
def iv (n:Int):c7:= .d (Z n)
theorem oI:∀xs:List Int,gT (xs.map iv)=J xs
 |[]=>rfl
 |x::xs=>by
  have:=oI xs;simp only [G7,iv,Z,gT];rw [this]
theorem mZ:∀xs:List Int,O (Y5 xs)=O xs
 |[]=>rfl
 |x::xs=>by
  have h:∀l:List Int,O (oG x l)=O l+1:=λl=>by
   induction l with
   |nil=>rfl
   |cons y l ih=>simp only [oG];split<;>simp [ih]
  simp [Y5,h,mZ xs]
theorem pY:∀xs:List Int,O (V8 xs)<=O xs
 |[]=>k9 _
 |[x]=>k9 _
 |x::y::l=>by
  have:=pY (y::l);simp only [V8];split<;>simp at this ⊢<;>omega
def OC {H:k8}{id:Nat}{old vs:List c7}(ho:H[id]? =J (.cells old))(hl:O vs=O old):wr H id 0 vs=J (H.set id (.cells vs)):=by
 simp [wr,ho,hl,splice,n5]
def NK {H:k8}{id len:Nat}{old:List c7}(ho:H[id]? =J (.cells old))(hl:O old=len):rd H id 0 len=J old:=by
 simp [rd,ho,hl,s9]
def Ni {H:k8}{id len:Nat}{l:G9}{xs:List Int}(hm:l.may id=W)(ho:H[id]? =J (.cells (xs.map iv)))(hl:O xs=len)(hb:Nat.ble len 1000000=W:=by rfl):Ac [.s5 id 1 0 len] H l=J (.tuple [],H.set id (.cells ((Y5 xs).map iv))):=by
 have h1:=NK (len:=len) ho (by simp [hl]);have h2:=OC (vs:=(Y5 xs).map iv) ho (by simp [mZ]);simp only [Ac,hm,hb,Bool.and_self,if_true,h1,oI];rw [show ((Y5 xs).map λn=>c7.d (.int .i64 n))=(Y5 xs).map iv from rfl,h2]
def Ec {H:k8}{id len:Nat}{l:G9}{xs:List Int}(hm:l.may id=W)(ho:H[id]? =J (.cells (xs.map iv)))(hl:O xs=len)(hb:Nat.ble len 1000000=W:=by rfl) :
  jm [.s5 id 1 0 len] H l=J (.s5 id 1 0 (O (V8 xs)),H.set id (.cells ((V8 xs++c8 (O xs - O (V8 xs)) 0).map iv))):=by
 have h1:=NK (len:=len) ho (by simp [hl]);have h3:=pY xs;have h2:=OC (vs:=(V8 xs++c8 (O xs - O (V8 xs)) 0).map iv) ho D;simp only [jm,hm,hb,Bool.and_self,if_true,h1,oI];have h4:wr H id 0 ((V8 xs++c8 (O xs - O (V8 xs)) 0).map λn=>c7.d (.int .i64 n))=_:=h2;rw [h4]
def sns (c:p7):List I4:=(K8 c (p7.ns c)).map (·.1)
def M4 (c:p7)(s:I4):Int:=if C4 c then I5 s (sns c) 0 else -1
def QE (c:p7)(hs:D9 c)(s:I4):Pf A 71 [cat c,.d (.str s)] (.d (Z (M4 c s))):=by
 letI:Inhabited XO:=⟨⟨.cells (c.enc.map .d),.cells [.d (Z 0)],rfl,rfl⟩⟩
 obtain ⟨v,H1,hp,HT⟩:=Nx c hs;have hle:=FB hp;obtain ⟨⟨R,hR⟩,hp1,hp2⟩:=hp;refine Pf.go 4 ?_;cases e:s7 (S1 c).2 0 with
 |false =>
  obtain rfl:=hp1 e;subst hR
  repeat' (first|refine dfl ?_|refine cp HT hle ?_|refine gx ?_|fail)
  refine tc (W) e (λh1=>?_) (λh1=>?_)
  .refine gr ?_
   exact ⟨_,rfl,by unfold M4 C4;rw [e];rfl⟩
  .cases h1
 |true =>
  obtain ⟨rfl,hH⟩:=hp2 e;have Uq:=Gq c c.names (K8 c (p7.ns c)) s;subst hH
  repeat' (first|refine dfl ?_|refine cp HT hle ?_|refine gx ?_|fail)
  refine tc (F) e (λh1=>?_) (λh1=>?_)
  .cases h1
  repeat' (first|refine ck Uq ?_|refine gx ?_|fail)
  exact ⟨_,rfl,by unfold M4 C4;rw [e];rfl⟩
def yR (c:p7)(hs:D9 c):Pf A 40 [cat c] (.d (.bool (C4 c))):=by
 have p:=ax5 c hs;unfold pair at p;refine Pf.go 3 ?_;refine gc p ?_;exact ⟨_,rfl,rfl⟩
def MD (c:p7)(n:Int):R5 c n=(p9 n 0 ((O c.j7:Int)+O c.views - 1)&&C4 c):=by
 unfold R5 p9 p7.ns;rw [Bool.eq_iff_iff];simp only [c9,r7,s4,decide_eq_true_eq];constructor
 .rintro ⟨h1,h2,h3⟩;exact ⟨⟨h2,V⟩,h1⟩
 .rintro ⟨⟨h2,h3⟩,h1⟩;exact ⟨h1,h2,V⟩
def Uv (c:p7)(hs:D9 c)(n:Int):Pf A 53 [cat c,.d (Z n)] (.d (.bool (R5 c n))):=by
 obtain ⟨f0,f1,f2,f3,f4,f5,f6,f7⟩:=id hs.sm.dP;have p36:=yR c hs;have p95:=oP n 0 ((O c.j7:Int)+O c.views - 1);rw [MD];refine Pf.go 2 ?_
 repeat' (first|refine cl (p95) ?_|refine cl (p36) ?_|refine gy ?_|refine fq (λhw=>?_) λhw=>?_|refine ⟨_,rfl,?_⟩|fail)
 all_goals simp [*,j4]
def je (c:p7)(n:Int):Bool:=R5 c n&&D0 n (O c.j7)
def YH (c:p7)(hs:D9 c)(n:Int):Pf A 106 [cat c,.d (Z n)] (.d (.bool (je c n))):=by
 have OP:=Uv c hs n;unfold je;refine Pf.go 2 ?_
 repeat' (first|refine cl (OP) ?_|refine gy ?_|refine fq (λhw=>?_) λhw=>?_|refine ⟨_,rfl,?_⟩|fail)
 all_goals simp [*,j4]
def W6 {c:p7}(h:C4 c=W):iD c (O c.names)/\tooMany c=F/\qP c (p7.ns c):=by
 have h1:=zg (W9 h);have hnl:=P6 c;exact ⟨h1.2.2,h1.2.1,gE (λm hm=>h1.2.2 m V) (k9 _)⟩
def Ic {c:p7}{n:Int}(h:R5 c n=W):C4 c=W:=by
 unfold R5 at h;rw [c9] at h;exact h.1
def eH (c:p7)(s:I4):Int:=if C4 c then F0 c s (p7.ns c) else -1
def JS (c:p7)(hs:D9 c)(s:I4):Pf A 86 [cat c,.d (.str s)] (.d (Z (eH c s))):=by
 obtain ⟨f0,f1,f2,f3,f4,f5,f6,f7⟩:=id hs.sm.dP;have aO:p7.ns c=O c.j7+O c.views:=rfl;have p36:=yR c hs;have Ur:=Bz c s (p7.ns c) hs.sm.dP V;rw [show ((p7.ns c:Nat):Int)=(O c.j7:Int)+O c.views by omega] at Ur;refine Pf.gr 2 ?_;refine tc (!C4 c) p36 (λh1=>?_) (λh1=>?_)
 .refine gr ?_
  exact ⟨_,rfl,by unfold eH;rw [o9] at h1;rw [h1];rfl⟩
 .refine gc Ur ?_
  exact ⟨_,rfl,by unfold eH;rw [B7] at h1;rw [h1];rfl⟩
def FO (c:p7)(s:I4):eH c s=if C4 c then I5 s (sns c) 0 else -1:=by
 unfold eH F0 sns;rw [mz c (k9 _)]
def Sx (c:p7)(hs:D9 c)(n:Int)(h:R5 c n=F):Pf A 20 [cat c,.d (Z n)] (.own 1 0 []):=by
 have OP:=Uv c hs n;rw [h] at OP;refine Pf.gr 2 ?_;refine tc (W) OP (λh1=>?_) (λh1=>?_)
 .refine gr ?_
  exact ⟨_,rfl,rfl⟩
 .cases h1
def It (c:p7)(hs:D9 c)(n:Int)(h:R5 c n=W):Pf A 20 [cat c,.d (Z n)] (.d (ints (M3 c n.toNat))):=by
 have OP:=Uv c hs n;rw [h] at OP;have h2:=W6 (Ic h);have h3:=(uJ h).2.2;have p:=(gH c hs (p7.ns c) n.toNat V (k9 _) h2.2.2).1;rw [Int.toNat_of_nonneg h3.1] at p;refine Pf.gr 2 ?_;refine tc (F) OP (λh1=>?_) (λh1=>?_)
 .cases h1
 refine gc p ?_;exact ⟨_,rfl,rfl⟩
def aq:List Int->Int->List Int
 |[],n=>[n]
 |x::l,n=>if x<n then x::aq l n else if x=n then x::l else n::x::l
theorem GV:∀(l:List Int) (n:Int) (i:Nat),i<=O l->(∀j,j<i->Y l j<n)->(i<O l->¬ Y l i<n)->aq l n=if i<O l/\Y l i=n then l else l.take i++[n]++l.drop i
 |[],n,i,h,_,_=>by
  simp_all [aq]
 |x::l,n,0,h,_,h2=>by
  grind [Y,aq]
 |x::l,n,i+1,h,h1,h2=>by
  have h0:∀j,j<O l->Y (x::l) (j+1)=Y l j:=λj hj=>by simp_all [A7]
  have h3:x<n:=by have:=h1 0 V;simp_all [A7]
  have hl:i<=O l:=by simpa using h
  have ih:=GV l n i hl (λj hj=>by grind) (λhi=>M)
  grind [aq,Y]
def SM (w:c7)(xs:List Int):Prop:=w= .d (ints xs)\/w=A8 1 (λn=>[Z n]) xs
def SM.as {w:c7}{xs:List Int}(h:SM w xs):w.I7= .d (ints xs):=by
 rcases h with rfl|rfl<;>rfl
set_option maxHeartbeats 2000000 in
def YG (l:List Int)(n:Int)(hl:O l<=200000):∃w,SM w (aq l n)/\Pf A 135 [.d (ints l),.d (Z n)] w:=by
 obtain ⟨i,hi1,hi2,HO⟩:∃i,i<=O l/\(∀j,j<i->Y l j<n)/\(i<O l->¬ Y l i<n):=by
  clear hl
  induction l with
  |nil=>exact ⟨0,U,U,U⟩
  |cons x l ih =>
   by_cases hx:x<n
   .obtain ⟨i,h1,h2,h3⟩:=ih
    have h0:∀j,j<O l->Y (x::l) (j+1)=Y l j:=λj hj=>by rw [A7 D,A7 hj];simp
    refine ⟨i+1,D,λj hj=>?_,λhi=>?_⟩
    .cases j with
     |zero=>rw [A7 U];exact hx
     |succ j=>rw [h0 j V];exact h2 j V
    .simp at hi
     rw [h0 i hi];exact h3 hi
   .exact ⟨0,U,U,λ_=>by rw [A7 U];exact hx⟩
 have ha:=GV l n i hi1 hi2 HO;have key:∀w,w=(if i<O l/\Y l i=n then c7.d (ints l) else A8 1 (λn=>[Z n]) (l.take i++[n]++l.drop i))->SM w (aq l n):=λw hw=>by
  rw [ha,hw];split
  .exact .inl rfl
  .exact .inr rfl
 refine ⟨_,key _ rfl,?_⟩;refine Pf.gr 2 ?_;refine Ex.Y1 (λk T H=>∃(j:Nat) (w2:c7),T=[.d (ints l),.d (Z n),w2,.d (Z j)]/\H=[]/\j+k=i) ?_ (k:=i) ⟨0,_,rfl,rfl,U⟩;rintro k _ _ ⟨j,w2,rfl,rfl,hk⟩;refine Ex.nT ?_;refine Ex.seq ?_;have hj:j<i\/j=i:=V
 refine tb (D0 j (O l)&&D0 (Y l j) n) (λh1=>?_) (λh1=>?_)
 .simp only [c9] at h1
  have h2:=A5 h1.1;have h3:=A5 h1.2;refine gr ?_;refine ⟨k - 1,?_,j+1,_,rfl,rfl,?_⟩
  .rcases hj with h|rfl
   .omega
   .exact absurd h3 (HO V)
  .rcases hj with h|rfl
   .omega
   .exact absurd h3 (HO V)
 obtain rfl:j=i:=by
  rcases hj with h|h
  .have:=hi2 j h
   simp only [Bool.and_eq_false_iff] at h1
   rcases h1 with h1|h1
   .have:=A9 h1;omega
   .have:=A9 h1;omega
  .exact h
 refine gr ?_;refine tb (D0 j (O l)&&s7 (Y l j) n) (λh4=>?_) (λh4=>?_)
 .simp only [c9] at h4
  have h2:=A5 h4.1;have h3:=W9 h4.2;refine gr ?_;exact ⟨_,rfl,by rw [if_pos ⟨V,h3⟩];rfl⟩
 .have e:¬ (j<O l/\Y l j=n):=by
   rintro ⟨g1,g2⟩;simp only [Bool.and_eq_false_iff] at h4
   rcases h4 with h4|h4
   .have:=A9 h4;omega
   .exact iW h4 g2
  rw [if_neg e];refine gr ?_;exact ⟨_,rfl,rfl⟩
theorem zK (s:I4):∀(l:List I4) (k i:Nat),0<=I5 s (l.take k) i->I5 s l i=I5 s (l.take k) i
 |[],k,i,h=>U
 |d::l,0,i,h=>by simp [I5] at h
 |d::l,k+1,i,h=>by
  simp [List.take_succ_cons,I5] at h ⊢;split
  .rfl
  next h1=>
   rw [if_neg h1] at h;exact zK s l k (i+1) h
end Go.Proofs.YtibjocmpkoepoaaGreat
namespace Go.Proofs.YtibjocmpkoepoaaGreat
open Go.z6 Go.z6.S
theorem He:∀{l m:List Int},l.Pairwise (·<·)->m.Pairwise (·<·)->(∀s,s∈l↔s∈m)->l=m
 |[],[],_,_,_=>rfl
 |[],y::m,_,_,h=>absurd ((h y).2 U) U
 |x::l,[],_,_,h=>absurd ((h x).1 U) U
 |x::l,y::m,h1,h2,h=>by
  obtain ⟨a1,b1⟩:=F2.1 h1;obtain ⟨a2,b2⟩:=F2.1 h2;have hx:=(h x).1 U;have hy:=(h y).2 U;have e:x=y:=by
   grind
  congr 1
  refine He b1 b2 λs=>⟨λhs=>?_,λhs=>?_⟩
  all_goals grind
theorem wL (x s:Int):∀l:List Int,s∈oG x l↔s=x\/s∈l
 |[]=>by simp [oG]
 |y::l=>by
  simp [oG];split
  .simp
  .simp [K2,wL x s l]
   grind
theorem jk (s:Int):∀l:List Int,s∈Y5 l↔s∈l
 |[]=>by simp [Y5]
 |x::l=>by simp [Y5,wL,jk s l,K2]
theorem Ew (x:Int):∀l:List Int,l.Pairwise (·<=·)->(oG x l).Pairwise (·<=·)
 |[],_=>by simp [oG]
 |y::l,h=>by
  obtain ⟨a,b⟩:=F2.1 h;simp [oG];split
  .grind [F2]
  .refine F2.2 ⟨λs hs=>?_,Ew x l b⟩
   grind [wL]
theorem Al:∀l:List Int,(Y5 l).Pairwise (·<=·)
 |[]=>by simp [Y5]
 |x::l=>Ew x _ (Al l)
theorem jj (s:Int):∀l:List Int,s∈V8 l↔s∈l
 |[]=>by simp [V8]
 |[x]=>by simp [V8]
 |x::y::l=>by
  have ih:=jj s (y::l)
  grind [V8]
theorem Cp:∀l:List Int,l.Pairwise (·<=·)->(V8 l).Pairwise (·<·)
 |[],_=>by simp [V8]
 |[x],_=>by simp [V8]
 |x::y::l,h=>by
  obtain ⟨a,b⟩:=F2.1 h;have ih:=Cp (y::l) b;simp [V8];split
  .exact ih
  .refine F2.2 ⟨λs hs=>?_,ih⟩
   rw [jj] at hs;simp_all<;>grind
theorem wK (x s:Int):∀l:List Int,s∈aq l x↔s=x\/s∈l
 |[]=>by simp [aq]
 |y::l=>by
  have ih:=wK x s l
  grind [aq]
theorem Co (x:Int):∀l:List Int,l.Pairwise (·<·)->(aq l x).Pairwise (·<·)
 |[],_=>by simp [aq]
 |y::l,h=>by
  obtain ⟨a,b⟩:=F2.1 h;simp [aq];split
  .refine F2.2 ⟨λs hs=>?_,Co x l b⟩
   grind [wK]
  grind [F2]
theorem GW:∀(xs l:List Int),l.Pairwise (·<·)->(xs.foldl aq l).Pairwise (·<·)/\∀s,s∈xs.foldl aq l↔s∈l\/s∈xs
 |[],l,h=>⟨h,λs=>U⟩
 |x::xs,l,h=>by
  obtain ⟨h1,h2⟩:=GW xs (aq l x) (Co x l h)
  grind [wK]
theorem fix_eq (x:Int)(xs:List Int):xs.foldl aq [x]=V8 (Y5 (x::xs)):=by
 grind [GW,He,Cp,Al,jj,jk]
attribute [local irreducible] Rx Ry Rn Ex Pf
def l8:G9:=⟨0,8,8,8⟩
def rQ (c:p7)(n:Int):je c n=(!(D0 n 0||U4 (O c.j7) n|| !C4 c)):=by
 unfold je R5 p7.ns;rw [Bool.eq_iff_iff];simp only [c9,o9,B2,r7,s4,decide_eq_true_eq,decide_eq_false_iff_not,B7];constructor
 .rintro ⟨⟨h1,h2,h3⟩,h4⟩;exact ⟨⟨V,V⟩,h1⟩
 .rintro ⟨⟨h2,h3⟩,h1⟩;exact ⟨⟨h1,V,V⟩,V⟩
def Bl {c:p7}{n:Int}(h:je c n=W):R5 c n=W/\0<=n/\n<O c.j7:=by
 unfold je at h;rw [c9] at h;have h1:=(uJ h.1).2.2;exact ⟨h.1,h1.1,A5 h.2⟩
def lU (o4:List Q1):Nat->List Int
 |0=>[]
 |k+1=>lU o4 k++(if D0 0 (O (Y o4 k).C6) then [(k:Int)] else [])
def Nj {o4:List Q1}{k:Nat}(h:D0 0 (O (Y o4 k).C6)=F):lU o4 (k+1)=lU o4 k:=by
 simp only [lU];rw [h];simp
def Nk {o4:List Q1}{k:Nat}(h:D0 0 (O (Y o4 k).C6)=W):lU o4 (k+1)=lU o4 k++[(k:Int)]:=by
 simp only [lU];rw [h];simp
theorem jo (o4:List Q1):∀k,O (lU o4 k)<=k
 |0=>k9 _
 |k+1=>by
  have:=jo o4 k;simp only [lU];split<;>simp<;>omega
def gG (c:p7)(n:Int):List Int:=lU (Y c.j7 n.toNat).o4 (O (Y c.j7 n.toNat).o4)
set_option maxHeartbeats 8000000 in
def Yt (c:p7)(hs:D9 c)(n:Nat)(h:je c n=W):Pf A 103 [cat c,.d (Z n)] (.d (ints (gG c n))):=by
 have p10:=Ut c hs;have e:(D0 n 0||U4 (O c.j7) n|| !C4 c)=F:=by
  have e:=congrArg (!·) (rQ c n);rw [h] at e;simp only [Bool.not_not,Bool.not_true] at e;exact e.symm
 have h3:=Bl h;have hcl:=hs.sm.o4 n V;obtain ⟨t,ht⟩:∃t,Y c.j7 n=t:=⟨_,rfl⟩;have e9:gG c n=lU t.o4 (O t.o4):=by unfold gG;rw [G6,ht]
 rw [ht] at hcl;rw [e9];refine Pf.gr 8 ?_;refine tc (D0 n 0||U4 (O c.j7) n|| !C4 c) p10 (λh1=>?_) (λh1=>?_)
 .rw [e] at h1;cases h1
 refine gr ?_;rw [ht];refine gr ?_;refine Ex.L4 (λq T H=>∃(k:Nat),T=[.any,.any,.any,.any,A8 1 (λn=>[Z n]) (lU t.o4 k),.any,.any,.d (x3 Q1.enc t.o4),.d (Z (O t.o4)),.d (Z k)]/\H=[.cells (c.enc.map .d)]/\k+q=O t.o4) ?_ (k:=O t.o4) ⟨0,rfl,rfl,U⟩;rintro q _ _ ⟨k,rfl,rfl,hq⟩;have nL:=jo t.o4 k;refine Ex.seq ?_;refine tl k (O t.o4) (λg2=>?_) (λg2=>?_)
 .refine gr ?_
  refine tb (D0 0 (O (Y t.o4 k).C6)) (λg3=>?_) (λg3=>?_)
  .refine gr ?_
   exact ⟨q - 1,V,_,_,rfl,k+1,by rw [Nk g3];rfl,rfl,V⟩
  .refine gr ?_
   exact ⟨q - 1,V,_,_,rfl,k+1,by rw [Nj g3];rfl,rfl,V⟩
 .obtain rfl:k=O t.o4:=V
  refine gr ?_;exact ⟨_,rfl,rfl⟩
set_option maxHeartbeats 8000000 in
def YD (c:p7)(hs:D9 c)(n:Nat)(h:je c n=W):Pf A 49 [cat c,.d (Z n)] (.d (ints (gG c n))):=by
 have XT:=YH c hs n;rw [h] at XT;have h3:=Bl h;have hcl:=hs.sm.o4 n V;have e9:gG c n=lU (Y c.j7 n).o4 (O (Y c.j7 n).o4):=by unfold gG;rw [G6]
 rw [e9];refine Pf.gr 4 ?_;refine Ex.gV (λq T H=>∃(k:Nat) (w0 w3:c7),T=[w0,.d (Z n),.ptr 0 0,w3,A8 1 (λn=>[Z n]) (lU (Y c.j7 n).o4 k),.d (Z k)]/\H=[.cells (c.enc.map .d)]/\k+q=O (Y c.j7 n).o4) (by rintro _ _ _ ⟨_,_,_,_,rfl,_⟩;rfl) ?_ (k:=O (Y c.j7 n).o4) ⟨0,_,_,rfl,rfl,U⟩;rintro q _ _ ⟨k,w0,w3,rfl,rfl,hq⟩;have nL:=jo (Y c.j7 n).o4 k;refine Ex.nT ?_;refine Ex.seq ?_;refine tc (D0 k (O (Y c.j7 n).o4)) XT (λg1=>?_) (λg1=>?_)
 .have g2:=A5 g1
  refine gr ?_;refine tb (D0 0 (O (Y (Y c.j7 n).o4 k).C6)) (λg3=>?_) (λg3=>?_)
  .refine gr ?_
   exact ⟨q - 1,V,k+1,_,_,by rw [Nk g3];rfl,rfl,V⟩
  .refine gr ?_
   exact ⟨q - 1,V,k+1,_,_,by rw [Nj g3];rfl,rfl,V⟩
 .have g2:=A9 g1
  obtain rfl:k=O (Y c.j7 n).o4:=V
  refine gr ?_;exact ⟨_,rfl,rfl⟩
theorem AJ:∀xs:List Int,A2 (xs.map iv)=0
 |[]=>rfl
 |x::xs=>by simp [A2,iv,c7.H7,AJ xs]
theorem FN:∀xs:List Int,(xs.flatMap λn=>[Z n])=xs.map Z
 |[]=>rfl
 |x::xs=>by simp [FN xs]
theorem LY (H:k8)(n:Nat):∀(xs:List Int) (f:Nat),O xs<f->aD H n f (xs.map iv)=J (xs.map iv)
 |[],f+1,_=>rfl
 |x::xs,f+1,h=>by
  have ih:=LY H n xs f (by simp at h;omega);simp only [G7,aD,ih,iv]
theorem LA:∀xs:List Int,J3 (xs.map iv)=J (xs.map Z)
 |[]=>rfl
 |x::xs=>by simp only [G7,J3,iv,c7.data?];rw [LA xs]
section
variable {b:Nat} {j8 ops:List x9} {T:List c7} {n:Nat} {rl:List c7} {l6:List z6.Touch} {Q:List c7->k8->List c7->Prop}
end
def oM (o4:List Q1)(k:Nat):List Int:=(o4.take k).flatMap Q1.C6
def Aa {o4:List Q1}{k:Nat}(h:k<O o4):oM o4 (k+1)=oM o4 k++(Y o4 k).C6:=by
 unfold oM;rw [D2 h];simp
theorem wW {o4:List Q1}(h:∀i,i<O o4->O (Y o4 i).C6<=8):∀k,k<=O o4->O (oM o4 k)<=8 * k
 |0,_=>by simp [oM]
 |k+1,hk=>by
  have:=wW h k V;have:=h k V;rw [Aa V];simp;omega
def Ti (t:cI):List Int:=0::oM t.o4 (O t.o4)
def fixC (c:p7)(n:Int):List Int:=V8 (Y5 (Ti (Y c.j7 n.toNat)))
theorem wX (t:cI):∀(xs:List Int) (p:Int), -1<=p->S0 t p xs=W->(O xs:Int)<=max 0 (O t.o4 - 1 - p)
 |[],p,_,_=>D
 |o::r,p,hp,h=>by
  simp only [S0,c9] at h;obtain ⟨⟨⟨h1,h2⟩,_⟩,h4⟩:=h;have h1:=A5 h1;have h2:=A5 h2;have ih:=wX t r o V h4;simp;omega
theorem jD (c:p7)(n:Nat):∀k i,bF c n k i=0->∀m,i<=m->m<i+k->V7 c n m=0
 |0,i,_,m,h1,h2=>absurd h1 V
 |k+1,i,h,m,h1,h2=>by
  rw [bF] at h;cases e:s7 (V7 c n i) 0 with
  |false =>
   simp only [e,Bool.not_false,if_true] at h;exact absurd h (iW e)
  |true =>
   simp only [e,Bool.not_true,j6,if_false] at h
   rcases y8 i m with g|g
   .exact jD c n k (i+1) h m V V
   .obtain rfl:m=i:=V
    exact W9 e
def ec {c:p7}{n:Nat}(hv:C4 c=W)(hn:n<O c.j7):O (Y c.j7 n).o4<=8/\∀i,i<O (Y c.j7 n).o4->O (Y (Y c.j7 n).o4 i).C6<=8:=by
 have hok:=(W6 hv).1;have hnl:=P6 c;have ht:=S8 (hok n (by unfold p7.ns at hnl;omega)) hn;have h8:=(cB ht).2;refine ⟨h8,λi hi=>?_⟩;have hc:V7 c n i=0:=by
  unfold bQ at ht;split at ht
  .omega
  .exact jD c n _ 0 ht i V V
 have ho:S0 (Y c.j7 n) (-1) (Y (Y c.j7 n).o4 i).C6=W:=by
  unfold V7 at hc;cases h:S0 (Y c.j7 n) (-1) (Y (Y c.j7 n).o4 i).C6 with
  |true=>rfl
  |false =>
   rw [h] at hc;simp only [Bool.not_false,Bool.or_true,Bool.true_or] at hc
   repeat' split at hc
   all_goals first|omega|exact absurd trivial (by assumption)
 have:=wX _ _ _ (Int.le_refl _) ho;omega
theorem Cj (x:Int):∀l:List Int,O (aq l x)<=O l+1
 |[]=>by simp [aq]
 |y::l=>by
  have:=Cj x l;simp only [aq];split
  .simp;omega
  .split<;>simp
theorem wg:∀(xs l:List Int),O (xs.foldl aq l)<=O l+O xs
 |[],l=>U
 |x::xs,l=>by
  have h1:=wg xs (aq l x);have h2:=Cj x l;simp only [List.foldl_cons,n9];omega
set_option maxHeartbeats 8000000 in
def YE (c:p7)(hs:D9 c)(n:Nat)(h:je c n=W):Pf A 238 [cat c,.d (Z n)] (.d (ints (fixC c n))):=by
 have XT:=YH c hs n;rw [h] at XT;have h3:=Bl h;have hcl:=ec (Ic h3.1) (n:=n) V;have e9:fixC c n=(oM (Y c.j7 n).o4 (O (Y c.j7 n).o4)).foldl aq [0]:=by rw [fix_eq];unfold fixC Ti;rw [G6]
 rw [e9];refine Pf.gr 6 ?_;refine tc (F) XT (λh1=>?_) (λh1=>?_)
 .cases h1
 refine gr ?_;refine Ex.gV (λq T H=>∃(k:Nat) (w0 w3 w4 w6 w7:c7),T=[w0,.d (Z n),.ptr 0 0,w3,w4,.d (Z k),w6,w7]/\H=[.cells (c.enc.map .d)]/\SM w4 ((oM (Y c.j7 n).o4 k).foldl aq [0])/\k+q=O (Y c.j7 n).o4) (by rintro _ _ _ ⟨_,_,_,_,_,_,_,rfl,_⟩;rfl) ?_ (k:=O (Y c.j7 n).o4) ⟨0,_,_,_,_,_,rfl,rfl,.inr rfl,U⟩;rintro q _ _ ⟨k,w0,w3,w4,w6,w7,rfl,rfl,hw,hq⟩;refine Ex.nT ?_;refine Ex.seq ?_;refine tb (D0 k (O (Y c.j7 n).o4)) (λg1=>?_) (λg1=>?_)
 .have g2:=A5 g1
  have Vs:=wW hcl.2 k V;have hok:=hcl.2 k V;obtain ⟨os,hos⟩:∃os,(Y (Y c.j7 n).o4 k).C6=os:=⟨_,rfl⟩;rw [hos] at hok;refine gr ?_;rw [hos];refine gr ?_;refine Ex.gV (λq2 T H=>∃(j:Nat) (w0 w3 w4:c7),T=[w0,.d (Z n),.ptr 0 0,w3,w4,.d (Z k),.d (ints os),.d (Z j)]/\H=[.cells (c.enc.map .d)]/\SM w4 ((oM (Y c.j7 n).o4 k++os.take j).foldl aq [0])/\j+q2=O os) (by rintro _ _ _ ⟨_,_,_,_,_,rfl,_⟩;rfl) ?_ (k:=O os) ⟨0,_,_,_,rfl,rfl,by simpa using hw,U⟩;clear hw;rintro q2 _ _ ⟨j,w0,w3,w4,rfl,rfl,hw,gR⟩;refine Ex.nT ?_;refine Ex.seq ?_;refine tl j (O os) (λg4=>?_) (λg4=>?_)
  .have hfl:=wg (oM (Y c.j7 n).o4 k++os.take j) [0]
   simp only [j9,L1,E5] at hfl;obtain ⟨w5,Mt,XS⟩:=YG ((oM (Y c.j7 n).o4 k++os.take j).foldl aq [0]) (Y os j) V;have kD:=hw.as;have e1:(oM (Y c.j7 n).o4 k++os.take (j+1)).foldl aq [0]=aq ((oM (Y c.j7 n).o4 k++os.take j).foldl aq [0]) (Y os j):=by
    rw [D2 V,<- F5,List.foldl_append];rfl
   rw [<- e1] at Mt
   rcases Mt with rfl|rfl
   .repeat' (first|refine qX kD ?_|refine cl (XS) ?_|refine gx ?_|fail)
    exact ⟨q2 - 1,V,j+1,_,_,_,rfl,rfl,.inl rfl,V⟩
   .repeat' (first|refine qX kD ?_|refine cl (XS) ?_|refine gx ?_|fail)
    exact ⟨q2 - 1,V,j+1,_,_,_,rfl,rfl,.inr rfl,V⟩
  .rw [s9 V,<- hos,<- Aa V] at hw
   refine gr ?_;exact ⟨q - 1,V,k+1,_,_,_,_,_,rfl,rfl,hw,V⟩
 .have g2:=A9 g1
  obtain rfl:k=O (Y c.j7 n).o4:=V
  have kD:=hw.as
  repeat' (first|refine qX kD ?_|refine gx ?_|fail)
  exact ⟨_,rfl,rfl⟩
end Go.Proofs.YtibjocmpkoepoaaGreat


import Derived.Test.YtibjocmpkoepoaaGreatE2
set_option linter.all false
open Bool renaming and_eq_true → c7, false_eq_true → j4, not_eq_false' → C8, not_eq_true' → o7, or_eq_false_iff → G8
open Int renaming toNat_natCast → P0
open List renaming drop_of_length_le → l6, map_cons → L8, mem_cons → B8, replicate → c9, take_of_length_le → y6
open Nat renaming ble → E1, le_refl → n5, lt_or_ge → A5
namespace Go.Proofs.YtibjocmpkoepoaaGreat
open Go.A2 Go.A2.S
attribute [local irreducible] Rx Ry Rn Ex Pf
theorem ug (c:r9):∀ k i,(gY c k i).2=0->gY c k i=(0,0)/\∀ m,i<=m->m<i+k->Q6 c m=0
 |0,i,_=>⟨rfl,fun m h1 h2=>absurd h1 (by omega)⟩
 |k+1,i,h=>by
  rw [gY] at h ⊢;cases e:s9 (Q6 c i) 0 with
  |false =>
   simp_all [Bool.not_false,if_true,absurd,AQ]
  |true =>
   simp [e,if_false] at h ⊢;obtain ⟨h1,h2⟩:=ug c k (i+1) h
   grind [A5,fH]
theorem Eb {c:r9}(h:(V7 c).2=0):(V7 c).1=0/\tooMany c=false/\lG c c.names.length:=by
 unfold V7 at h ⊢;cases e:tooMany c with
 |true=>simp_all
 |false =>
  rw [e] at h;simp only [j4,if_false] at h ⊢;obtain ⟨h1,h2⟩:=ug c _ _ h;exact ⟨by rw [h1],trivial,fun m hm=>h2 m (by omega) (by omega)⟩
abbrev xV (c:r9):Inhabited XO:=⟨⟨.dead,.cells (c.enc.map .d),rfl,rfl⟩⟩
def UZ [Inhabited XO] {c:r9}{fds:List K4}{fss:List gj}{v:c8}{H1:p9}(h:zM c fds fss v H1):v= .tuple [.d .cu,.d (num (V7 c).1),.d (num (V7 c).2)]\/v= .tuple [.ptr 5 0,.d (num (V7 c).1),.d (num (V7 c).2)]:=by
 obtain ⟨_,h1,h2⟩:=h
 grind [s9,V7,trans,fH,Eb]
def L6 (c:r9):Bool:=s9 (V7 c).2 0
def aW2 (c:r9)(hs:J7 c):Pf A 46 [cat c] (.d (.bool (L6 c))):=by
 letI:=xV c
 obtain ⟨v,H1,hp,Py⟩:=Xj c hs;have hle:=Nc hp;refine Pf.run [cat c,.any,.any,.any] rfl rfl rfl rfl ?_;refine gr ?_;refine Ex.fz Pp ?_
 rcases UZ hp with rfl|rfl
 .repeat' (first|refine cp Py hle ?_|refine gx ?_|fail)
  exact ⟨_,rfl,rfl⟩
 .repeat' (first|refine cp Py hle ?_|refine gx ?_|fail)
  exact ⟨_,rfl,rfl⟩
def ck [Inhabited XO] {b:Nat}{dr:Bool}{l5 ops:List o9}{T:List c8}{n:Nat}{rl:List c8}{p7:List A2.Touch}{Q:List c8->p9->List c8->Prop}{c:r9}{ds:List K4}{ss:List gj}{R:p9}{f:FuncId}{xs:List y5}{u:List Nat}{v:c8}{args:List c8}(hc:Pm A f args (HH c ds ss) lR v (HH c ds ss))(h2:Ry A an b dr l5 ops T (HH c ds ss++R) (n+1) (v::rl) p7 Q)
  (ha:xs.map (rq T n rl)=args:=by rfl) (hb:C5 args=6:=by rfl) (lD:A.prom f=false:=by rfl) (hm:A.mode f=1:=by rfl):Ry A an b dr l5 (⟨.call f xs,none,none,u⟩::ops) T (HH c ds ss++R) n rl p7 Q:=by
 have hb5:=UI c ds ss;have hd5:=OI c ds ss;refine c1 hc rfl h2 (m:=6) ?_ ?_ rfl rfl ?_ ha lD hm
 .show Z9 (HH c ds ss)<=6
  exact hb5
 .rw [hb]
  exact wE (by show Z9 (HH c ds ss)<=6;exact hb5)
 .show H7.mk 0 6 6 (F7 _ 0 6)=lR
  rw [Qj (by show ah (HH c ds ss) 0=true;exact hd5)];rfl
def bp (c:r9)(n:Int):Bool:=L6 c&&(bV 0 n&&E4 n (r9.ns c))
def aH3 (c:r9){n:Int}(h:0<=n/\n<(r9.ns c)):nth (M9 c (r9.ns c)) n.toNat=ql c n.toNat:=aY c (by omega)
def GQ {c:r9}{n:Int}(h:bp c n=true):s9 (V7 c).2 0=true/\(bV 0 n&&E4 n (r9.ns c))=true/\0<=n/\n<(r9.ns c):=by
 unfold bp L6 at h;rw [c7] at h;exact ⟨h.1,h.2,by simpa [s6,u0] using h.2⟩
def aY4 (c:r9)(hs:J7 c)(n:Int)(h:bp c n=true):Pf A 115 [cat c,.d (num n)] (.d (ints (R6 c n.toNat))):=by
 letI:=xV c
 obtain ⟨v,H1,hp,Py⟩:=Xj c hs;have hle:=Nc hp;obtain ⟨_,hp1,hp2⟩:=hp;obtain ⟨e,h2,h3⟩:=GQ h;obtain ⟨rfl,rfl⟩:=hp2 e;have h4:=aH3 c h3;have h6:=Z7 c (r9.ns c);have p38:=bE8 c c.names (M9 c (r9.ns c)) n;rw [Z7,h2] at p38;refine Pf.run [cat c,.d (num n),.any,.any,.any,.any] rfl rfl rfl rfl ?_;refine gr ?_;refine Ex.fz Pp ?_
 repeat' (first|refine cp Py hle ?_|refine gx ?_|fail)
 refine tB (false) ?_ (fun h1=> ?_) (fun h1=> ?_)
 .repeat' (first|refine ck p38 ?_|refine gx ?_|refine fk (h1:=fun hw=> ?_) (h2:=fun hw=> ?_)|refine U1 (h1:=fun hw=> ?_) (h2:=fun hw=> ?_)|refine ⟨rfl,rfl,_,rfl,?_⟩|refine ⟨rfl,rfl⟩|fail)
  all_goals exact cc
 .cases h1
 refine gr ?_;exact ⟨_,rfl,by rw [h4];rfl⟩
def iv (n:Int):c8:= .d (num n)
theorem tv:∀ xs:List Int,kF (xs.map iv)=some xs
 |[]=>rfl
 |x::xs=>by
  have:=tv xs;simp only [L8,iv,num,kF];rw [this]
theorem rD:∀ xs:List Int,(cZ xs).length=xs.length
 |[]=>rfl
 |x::xs=>by
  have h:∀ l:List Int,(zy x l).length=l.length+1:=fun l=>by
   induction l with
   |nil=>rfl
   |cons y l ih=>simp only [zy];split<;>simp [ih]
  simp [cZ,h,rD xs]
theorem um:∀ xs:List Int,(bH xs).length<=xs.length
 |[]=>n5 _
 |[x]=>n5 _
 |x::y::l=>by
  have:=um (y::l);simp only [bH];split<;>simp at this ⊢<;>omega
def YB {H:p9}{id:Nat}{old vs:List c8}(ho:H[id]? =some (.cells old))(hl:vs.length=old.length):wr H id 0 vs=some (H.set id (.cells vs)):=by
 simp [wr,ho,hl,splice,l6]
def Xu {H:p9}{id len:Nat}{old:List c8}(ho:H[id]? =some (.cells old))(hl:old.length=len):rd H id 0 len=some old:=by
 simp [rd,ho,hl,y6]
def WR {H:p9}{id len:Nat}{l:H7}{xs:List Int}(hm:l.may id=true)(ho:H[id]? =some (.cells (xs.map iv)))(hl:xs.length=len)(hb:E1 len 1000000=true:=by rfl):EI [.B4 id 1 0 len] H l=some (.tuple [],H.set id (.cells ((cZ xs).map iv))):=by
 have h1:=Xu (len:=len) ho (by simp [hl]);have h2:=YB (vs:=(cZ xs).map iv) ho (by simp [rD]);simp only [EI,hm,hb,Bool.and_self,if_true,h1,tv];rw [show ((cZ xs).map fun n=>c8.d (.int .i64 n))=(cZ xs).map iv from rfl,h2]
def Kq {H:p9}{id len:Nat}{l:H7}{xs:List Int}(hm:l.may id=true)(ho:H[id]? =some (.cells (xs.map iv)))(hl:xs.length=len)(hb:E1 len 1000000=true:=by rfl) :
  mP [.B4 id 1 0 len] H l=some (.B4 id 1 0 (bH xs).length,H.set id (.cells ((bH xs++c9 (xs.length - (bH xs).length) 0).map iv))):=by
 have h1:=Xu (len:=len) ho (by simp [hl]);have h3:=um xs;have h2:=YB (vs:=(bH xs++c9 (xs.length - (bH xs).length) 0).map iv) ho (by simp;omega);simp only [mP,hm,hb,Bool.and_self,if_true,h1,tv];have h4:wr H id 0 ((bH xs++c9 (xs.length - (bH xs).length) 0).map fun n=>c8.d (.int .i64 n))=_:=h2;rw [h4]
def sns (c:r9):List K4:=(M9 c (r9.ns c)).map (·.1)
def bz (c:r9)(s:K4):Int:=if L6 c then I9 s (sns c) 0 else -1
def bD2 (c:r9)(hs:J7 c)(s:K4):Pf A 71 [cat c,.d (.str s)] (.d (num (bz c s))):=by
 letI:Inhabited XO:=⟨⟨.cells (c.enc.map .d),.cells [.d (num 0)],rfl,rfl⟩⟩
 obtain ⟨v,H1,hp,Py⟩:=Xj c hs;have hle:=Nc hp;obtain ⟨⟨R,hR⟩,hp1,hp2⟩:=hp;refine Pf.run [cat c,.d (.str s),.any,.any,.any,.any] rfl rfl rfl rfl ?_;cases e:s9 (V7 c).2 0 with
 |false =>
  obtain rfl:=hp1 e;subst hR
  repeat' (first|refine dfl ?_|refine cp Py hle ?_|refine gx ?_|fail)
  refine tB (true) ?_ (fun h1=> ?_) (fun h1=> ?_)
  .repeat' (first|refine cl (e) ?_|refine gx ?_|refine fk (h1:=fun hw=> ?_) (h2:=fun hw=> ?_)|refine U1 (h1:=fun hw=> ?_) (h2:=fun hw=> ?_)|refine ⟨rfl,rfl,_,rfl,?_⟩|refine ⟨rfl,rfl⟩|fail)
   all_goals exact cc
  .refine gr ?_
   exact ⟨_,rfl,by unfold bz L6;rw [e];rfl⟩
  .cases h1
 |true =>
  obtain ⟨rfl,hH⟩:=hp2 e;have p61:=NW c c.names (M9 c (r9.ns c)) s;subst hH
  repeat' (first|refine dfl ?_|refine cp Py hle ?_|refine gx ?_|fail)
  refine tB (false) ?_ (fun h1=> ?_) (fun h1=> ?_)
  .repeat' (first|refine cl (e) ?_|refine gx ?_|refine fk (h1:=fun hw=> ?_) (h2:=fun hw=> ?_)|refine U1 (h1:=fun hw=> ?_) (h2:=fun hw=> ?_)|refine ⟨rfl,rfl,_,rfl,?_⟩|refine ⟨rfl,rfl⟩|fail)
   all_goals exact cc
  .cases h1
  repeat' (first|refine ck p61 ?_|refine gx ?_|fail)
  exact ⟨_,rfl,by unfold bz L6;rw [e];rfl⟩
def Xe (c:r9)(hs:J7 c):Pf A 40 [cat c] (.d (.bool (L6 c))):=by
 have p:=bD3 c hs;unfold pair at p;refine Pf.run [cat c,.any,.any,.any] rfl rfl rfl rfl ?_
 repeat' (first|refine cl (p) ?_|refine gx ?_|fail)
 exact ⟨_,rfl,rfl⟩
def We (c:r9)(n:Int):bp c n=(q8 n 0 ((c.j9.length:Int)+c.views.length - 1)&&L6 c):=by
 unfold bp q8 r9.ns;rw [Bool.eq_iff_iff];simp only [c7,s6,u0,decide_eq_true_eq];constructor
 .rintro ⟨h1,h2,h3⟩;exact ⟨⟨h2,by omega⟩,h1⟩
 .rintro ⟨⟨h2,h3⟩,h1⟩;exact ⟨h1,h2,by omega⟩
def aZ8 (c:r9)(hs:J7 c)(n:Int):Pf A 53 [cat c,.d (num n)] (.d (.bool (bp c n))):=by
 obtain ⟨f0,f1,f2,f3,f4,f5,f6,f7⟩:=id hs.sm.oB;have p36:=Xe c hs;have p95:=tG n 0 ((c.j9.length:Int)+c.views.length - 1);rw [We];refine Pf.run [cat c,.d (num n),.any,.any] rfl rfl rfl rfl ?_
 repeat' (first|refine cl (p95) ?_|refine cl (p36) ?_|refine gx ?_|refine fk (h1:=fun hw=> ?_) (h2:=fun hw=> ?_)|refine U1 (h1:=fun hw=> ?_) (h2:=fun hw=> ?_)|refine Ex.M8 ?_|refine Ex.N6 ?_|refine Ex.cond rfl (fun ht=> ?_) (fun ht=> ?_)|refine Ex.test (Rn.text ?_)|refine Ex.test (Rn.draw ?_)|refine ⟨_,rfl,fun ht=> ?_,fun ht=> ?_⟩|refine ⟨_,rfl,?_⟩|fail)
 all_goals simp [*,j3]
def rU (c:r9)(n:Int):Bool:=bp c n&&E4 n c.j9.length
def bE2 (c:r9)(hs:J7 c)(n:Int):Pf A 106 [cat c,.d (num n)] (.d (.bool (rU c n))):=by
 have p85:=aZ8 c hs n;unfold rU;refine Pf.run [cat c,.d (num n),.any,.any] rfl rfl rfl rfl ?_
 repeat' (first|refine cl (p85) ?_|refine gx ?_|refine fk (h1:=fun hw=> ?_) (h2:=fun hw=> ?_)|refine U1 (h1:=fun hw=> ?_) (h2:=fun hw=> ?_)|refine Ex.M8 ?_|refine Ex.N6 ?_|refine Ex.cond rfl (fun ht=> ?_) (fun ht=> ?_)|refine Ex.test (Rn.text ?_)|refine Ex.test (Rn.draw ?_)|refine ⟨_,rfl,fun ht=> ?_,fun ht=> ?_⟩|refine ⟨_,rfl,?_⟩|fail)
 all_goals simp [*,j3]
def uY {c:r9}(h:L6 c=true):lG c c.names.length/\tooMany c=false/\uT c (r9.ns c):=by
 have h1:=Eb (fH h);have hnl:=gK c;exact ⟨h1.2.2,h1.2.1,jU (fun m hm=>h1.2.2 m (by omega)) (n5 _)⟩
def ae1 {c:r9}{n:Int}(h:bp c n=true):L6 c=true:=by
 unfold bp at h;rw [c7] at h;exact h.1
def Bc (c:r9)(s:K4):Int:=if L6 c then F1 c s (r9.ns c) else -1
def aD8 (c:r9)(hs:J7 c)(s:K4):Pf A 86 [cat c,.d (.str s)] (.d (num (Bc c s))):=by
 obtain ⟨f0,f1,f2,f3,f4,f5,f6,f7⟩:=id hs.sm.oB;have gw:r9.ns c=c.j9.length+c.views.length:=rfl;have p36:=Xe c hs;have p84:=Hq c s (r9.ns c) hs.sm.oB (by omega);rw [show ((r9.ns c:Nat):Int)=(c.j9.length:Int)+c.views.length by omega] at p84;refine Pf.run [cat c,.d (.str s),.any,.any] rfl rfl rfl rfl ?_;refine gr ?_;refine tB (!L6 c) ?_ (fun h1=> ?_) (fun h1=> ?_)
 .repeat' (first|refine cl (p36) ?_|refine gx ?_|refine fk (h1:=fun hw=> ?_) (h2:=fun hw=> ?_)|refine U1 (h1:=fun hw=> ?_) (h2:=fun hw=> ?_)|refine ⟨rfl,rfl,_,rfl,?_⟩|refine ⟨rfl,rfl⟩|fail)
  all_goals exact cc
 .refine gr ?_
  exact ⟨_,rfl,by unfold Bc;rw [o7] at h1;rw [h1];rfl⟩
 .repeat' (first|refine cl (p84) ?_|refine gx ?_|fail)
  exact ⟨_,rfl,by unfold Bc;rw [C8] at h1;rw [h1];rfl⟩
def VE (c:r9)(s:K4):Bc c s=if L6 c then I9 s (sns c) 0 else -1:=by
 unfold Bc F1 sns;rw [qm c (n5 _)]
def ar3 (c:r9)(hs:J7 c)(n:Int)(h:bp c n=true):Pf A 20 [cat c,.d (num n)] (.d (ints (R6 c n.toNat))):=by
 have p85:=aZ8 c hs n;rw [h] at p85;have h2:=uY (ae1 h);have h3:=(GQ h).2.2;have p:=(jX c hs (r9.ns c) n.toNat (by omega) (n5 _) h2.2.2).1;rw [Int.toNat_of_nonneg h3.1] at p;refine Pf.run [cat c,.d (num n),.any,.any] rfl rfl rfl rfl ?_;refine gr ?_;refine tB (false) ?_ (fun h1=> ?_) (fun h1=> ?_)
 .repeat' (first|refine cl (p85) ?_|refine gx ?_|refine fk (h1:=fun hw=> ?_) (h2:=fun hw=> ?_)|refine U1 (h1:=fun hw=> ?_) (h2:=fun hw=> ?_)|refine ⟨rfl,rfl,_,rfl,?_⟩|refine ⟨rfl,rfl⟩|fail)
  all_goals exact cc
 .cases h1
 repeat' (first|refine cl (p) ?_|refine gx ?_|fail)
 exact ⟨_,rfl,rfl⟩
def sQ:List Int->Int->List Int
 |[],n=>[n]
 |x::l,n=>if x<n then x::sQ l n else if x=n then x::l else n::x::l
theorem ON:∀ (l:List Int) (n:Int) (i:Nat),i<=l.length->(∀ j,j<i->nth l j<n)->(i<l.length->¬ nth l i<n)->sQ l n=if i<l.length/\nth l i=n then l else l.take i++[n]++l.drop i
 |[],n,i,h,_,_=>by
  simp_all [sQ]
 |x::l,n,0,h,_,h2=>by
  grind [nth,sQ]
 |x::l,n,i+1,h,h1,h2=>by
  have h0:∀ j,j<l.length->nth (x::l) (j+1)=nth l j:=fun j hj=>by simp_all [F2]
  have h3:x<n:=by have:=h1 0 (by omega);simp_all [F2]
  have hl:i<=l.length:=by simpa using h
  have ih:=ON l n i hl (fun j hj=>by grind) (fun hi=>by simp_all)
  grind [sQ,nth]
def IsL (w:c8)(xs:List Int):Prop:=w= .d (ints xs)\/w=E7 1 (fun n=>[num n]) xs
def IsL.as {w:c8}{xs:List Int}(h:IsL w xs):w.J3= .d (ints xs):=by
 rcases h with rfl|rfl<;>rfl
set_option maxHeartbeats 2000000 in
def bE0 (l:List Int)(n:Int)(hl:l.length<=10000):∃ w,IsL w (sQ l n)/\Pf A 135 [.d (ints l),.d (num n)] w:=by
 obtain ⟨i,hi1,hi2,hi3⟩:∃ i,i<=l.length/\(∀ j,j<i->nth l j<n)/\(i<l.length->¬ nth l i<n):=by
  clear hl
  induction l with
  |nil=>exact ⟨0,by simp,by simp,by simp⟩
  |cons x l ih =>
   by_cases hx:x<n
   .obtain ⟨i,h1,h2,h3⟩:=ih
    have h0:∀ j,j<l.length->nth (x::l) (j+1)=nth l j:=fun j hj=>by rw [F2 (by simp;omega),F2 hj];simp
    refine ⟨i+1,by simp;omega,fun j hj=> ?_,fun hi=> ?_⟩
    .cases j with
     |zero=>rw [F2 (by simp)];exact hx
     |succ j=>rw [h0 j (by omega)];exact h2 j (by omega)
    .simp at hi
     rw [h0 i hi];exact h3 hi
   .exact ⟨0,by simp,by simp,fun _=>by rw [F2 (by simp)];exact hx⟩
 have ha:=ON l n i hi1 hi2 hi3;have key:∀ w,w=(if i<l.length/\nth l i=n then c8.d (ints l) else E7 1 (fun n=>[num n]) (l.take i++[n]++l.drop i))->IsL w (sQ l n):=fun w hw=>by
  rw [ha,hw];split
  .exact .inl rfl
  .exact .inr rfl
 refine ⟨_,key _ rfl,?_⟩;refine Pf.run [.d (ints l),.d (num n),.any,.any] rfl rfl rfl rfl ?_;refine gr ?_;refine Ex.I7 (fun k T H=>∃ (j:Nat) (w2:c8),T=[.d (ints l),.d (num n),w2,.d (num j)]/\H=[]/\j+k=i) (by rintro _ _ _ ⟨_,_,_,rfl,_⟩;rfl) ?_ (k:=i) ⟨0,_,rfl,rfl,by simp⟩;rintro k _ _ ⟨j,w2,rfl,rfl,hk⟩;refine Ex.nT ?_;refine Ex.seq ?_;have hj:j<i\/j=i:=by omega
 refine tb (E4 j l.length&&E4 (nth l j) n) (fun h1=> ?_) (fun h1=> ?_)
 .simp only [c7] at h1
  have h2:=A6 h1.1;have h3:=A6 h1.2;refine gr ?_;refine ⟨k - 1,?_,j+1,_,rfl,rfl,?_⟩
  .rcases hj with h|rfl
   .omega
   .exact absurd h3 (hi3 (by omega))
  .rcases hj with h|rfl
   .omega
   .exact absurd h3 (hi3 (by omega))
 obtain rfl:j=i:=by
  rcases hj with h|h
  .have:=hi2 j h
   simp only [Bool.and_eq_false_iff] at h1
   rcases h1 with h1|h1
   .have:=A3 h1;omega
   .have:=A3 h1;omega
  .exact h
 refine gr ?_;refine tb (E4 j l.length&&s9 (nth l j) n) (fun h4=> ?_) (fun h4=> ?_)
 .simp only [c7] at h4
  have h2:=A6 h4.1;have h3:=fH h4.2;refine gr ?_;exact ⟨_,rfl,by rw [if_pos ⟨by omega,h3⟩];rfl⟩
 .have e:¬ (j<l.length/\nth l j=n):=by
   rintro ⟨g1,g2⟩;simp only [Bool.and_eq_false_iff] at h4
   rcases h4 with h4|h4
   .have:=A3 h4;omega
   .exact AQ h4 g2
  rw [if_neg e];refine gr ?_;exact ⟨_,rfl,rfl⟩
theorem Ev (s:K4):∀ (l:List K4) (k i:Nat),0<=I9 s (l.take k) i->I9 s l i=I9 s (l.take k) i
 |[],k,i,h=>by simp
 |d::l,0,i,h=>by simp [I9] at h
 |d::l,k+1,i,h=>by
  simp [List.take_succ_cons,I9] at h ⊢;split
  .rfl
  .rename_i h1
   rw [if_neg h1] at h;exact Ev s l k (i+1) h
end Go.Proofs.YtibjocmpkoepoaaGreat
namespace Go.Proofs.YtibjocmpkoepoaaGreat
open Go.A2 Go.A2.S
theorem JY (x s:Int):∀ l:List Int,s ∈ zy x l↔s=x\/s ∈ l
 |[]=>by simp [zy]
 |y::l=>by
  simp [zy];split
  .simp
  .simp [B8,JY x s l]
   grind
theorem qX (s:Int):∀ l:List Int,s ∈ cZ l↔s ∈ l
 |[]=>by simp [cZ]
 |x::l=>by simp [cZ,JY,qX s l,B8]
theorem uC (s:Int):∀ l:List Int,s ∈ bH l↔s ∈ l
 |[]=>by simp [bH]
 |[x]=>by simp [bH]
 |x::y::l=>by
  have ih:=uC s (y::l)
  grind [bH]
attribute [local irreducible] Rx Ry Rn Ex Pf
def l8:H7:=⟨0,8,8,8⟩
def wT (c:r9)(n:Int):rU c n=(!(E4 n 0||bV c.j9.length n|| !L6 c)):=by
 unfold rU bp r9.ns;rw [Bool.eq_iff_iff];simp only [c7,o7,G8,s6,u0,decide_eq_true_eq,decide_eq_false_iff_not,C8];constructor
 .rintro ⟨⟨h1,h2,h3⟩,h4⟩;exact ⟨⟨by omega,by omega⟩,h1⟩
 .rintro ⟨⟨h2,h3⟩,h1⟩;exact ⟨⟨h1,by omega,by omega⟩,by omega⟩
def PD {c:r9}{n:Int}(h:rU c n=true):bp c n=true/\0<=n/\n<c.j9.length:=by
 unfold rU at h;rw [c7] at h;have h1:=(GQ h.1).2.2;exact ⟨h.1,h1.1,A6 h.2⟩
def pV (q7:List ek):Nat->List Int
 |0=>[]
 |k+1=>pV q7 k++(if E4 0 (nth q7 k).J8.length then [(k:Int)] else [])
def WT {q7:List ek}{k:Nat}(h:E4 0 (nth q7 k).J8.length=false):pV q7 (k+1)=pV q7 k:=by
 simp only [pV];rw [h];simp
def WU {q7:List ek}{k:Nat}(h:E4 0 (nth q7 k).J8.length=true):pV q7 (k+1)=pV q7 k++[(k:Int)]:=by
 simp only [pV];rw [h];simp
theorem mQ (q7:List ek):∀ k,(pV q7 k).length<=k
 |0=>n5 _
 |k+1=>by
  have:=mQ q7 k;simp only [pV];split<;>simp<;>omega
def jW (c:r9)(n:Int):List Int:=pV (nth c.j9 n.toNat).q7 (nth c.j9 n.toNat).q7.length
set_option maxHeartbeats 8000000 in
def aY7 (c:r9)(hs:J7 c)(n:Nat)(h:rU c n=true):Pf A 103 [cat c,.d (num n)] (.d (ints (jW c n))):=by
 have p10:=aW2 c hs;have e:(E4 n 0||bV c.j9.length n|| !L6 c)=false:=by
  have e:=congrArg (!·) (wT c n);rw [h] at e;simp only [Bool.not_not,Bool.not_true] at e;exact e.symm
 have h3:=PD h;have hcl:=hs.sm.q7 n (by omega);obtain ⟨t,ht⟩:∃ t,nth c.j9 n=t:=⟨_,rfl⟩;have e9:jW c n=pV t.q7 t.q7.length:=by unfold jW;rw [P0,ht]
 rw [ht] at hcl;rw [e9];refine Pf.run [cat c,.d (num n),.any,.any,.any,.any,.any,.any,.any,.any] rfl rfl rfl rfl ?_;refine gr ?_;refine tB (E4 n 0||bV c.j9.length n|| !L6 c) ?_ (fun h1=> ?_) (fun h1=> ?_)
 .repeat' (first|refine cl (p10) ?_|refine gx ?_|refine fk (h1:=fun hw=> ?_) (h2:=fun hw=> ?_)|refine U1 (h1:=fun hw=> ?_) (h2:=fun hw=> ?_)|refine ⟨rfl,rfl,_,rfl,?_⟩|refine ⟨rfl,rfl⟩|fail)
  all_goals exact cc
 .rw [e] at h1;cases h1
 refine gr ?_;rw [ht];refine gr ?_;refine Ex.cV (fun q T H=>∃ (k:Nat),T=[.any,.any,.any,.any,E7 1 (fun n=>[num n]) (pV t.q7 k),.any,.any,.d (B0 ek.enc t.q7),.d (num t.q7.length),.d (num k)]/\H=[.cells (c.enc.map .d)]/\k+q=t.q7.length) ?_ (k:=t.q7.length) ⟨0,rfl,rfl,by simp⟩;rintro q _ _ ⟨k,rfl,rfl,hq⟩;have Bj:=mQ t.q7 k;refine Ex.seq ?_;refine tb (E4 k t.q7.length) (fun g1=> ?_) (fun g1=> ?_)
 .have g2:=A6 g1
  refine gr ?_;refine tb (E4 0 (nth t.q7 k).J8.length) (fun g3=> ?_) (fun g3=> ?_)
  .refine gr ?_
   exact ⟨q - 1,by omega,_,_,rfl,k+1,by rw [WU g3];rfl,rfl,by omega⟩
  .refine gr ?_
   exact ⟨q - 1,by omega,_,_,rfl,k+1,by rw [WT g3];rfl,rfl,by omega⟩
 .have g2:=A3 g1
  obtain rfl:k=t.q7.length:=by omega
  refine gr ?_;exact ⟨_,rfl,rfl⟩
set_option maxHeartbeats 8000000 in
def aZ6 (c:r9)(hs:J7 c)(n:Nat)(h:rU c n=true):Pf A 49 [cat c,.d (num n)] (.d (ints (jW c n))):=by
 have p90:=bE2 c hs n;rw [h] at p90;have h3:=PD h;have hcl:=hs.sm.q7 n (by omega);have e9:jW c n=pV (nth c.j9 n).q7 (nth c.j9 n).q7.length:=by unfold jW;rw [P0]
 rw [e9];refine Pf.run [cat c,.d (num n),.any,.any,.any,.any] rfl rfl rfl rfl ?_;refine gr ?_;refine Ex.I7 (fun q T H=>∃ (k:Nat) (w0 w3:c8),T=[w0,.d (num n),.ptr 0 0,w3,E7 1 (fun n=>[num n]) (pV (nth c.j9 n).q7 k),.d (num k)]/\H=[.cells (c.enc.map .d)]/\k+q=(nth c.j9 n).q7.length) (by rintro _ _ _ ⟨_,_,_,_,rfl,_⟩;rfl) ?_ (k:=(nth c.j9 n).q7.length) ⟨0,_,_,rfl,rfl,by simp⟩;rintro q _ _ ⟨k,w0,w3,rfl,rfl,hq⟩;have Bj:=mQ (nth c.j9 n).q7 k;refine Ex.nT ?_;refine Ex.seq ?_;refine tB (E4 k (nth c.j9 n).q7.length) ?_ (fun g1=> ?_) (fun g1=> ?_)
 .repeat' (first|refine cl (p90) ?_|refine gx ?_|refine fk (h1:=fun hw=> ?_) (h2:=fun hw=> ?_)|refine U1 (h1:=fun hw=> ?_) (h2:=fun hw=> ?_)|refine ⟨rfl,rfl,_,rfl,?_⟩|refine ⟨rfl,rfl⟩|fail)
  all_goals exact cc
 .have g2:=A6 g1
  refine gr ?_;refine tb (E4 0 (nth (nth c.j9 n).q7 k).J8.length) (fun g3=> ?_) (fun g3=> ?_)
  .refine gr ?_
   exact ⟨q - 1,by omega,k+1,_,_,by rw [WU g3];rfl,rfl,by omega⟩
  .refine gr ?_
   exact ⟨q - 1,by omega,k+1,_,_,by rw [WT g3];rfl,rfl,by omega⟩
 .have g2:=A3 g1
  obtain rfl:k=(nth c.j9 n).q7.length:=by omega
  refine gr ?_;exact ⟨_,rfl,rfl⟩
theorem MV:∀ xs:List Int,C5 (xs.map iv)=0
 |[]=>rfl
 |x::xs=>by simp [C5,iv,c8.O5,MV xs]
theorem Nu:∀ xs:List Int,(xs.flatMap fun n=>[num n])=xs.map num
 |[]=>rfl
 |x::xs=>by simp [Nu xs]
theorem VJ (H:p9)(n:Nat):∀ (xs:List Int) (f:Nat),xs.length<f->cr H n f (xs.map iv)=some (xs.map iv)
 |[],f+1,_=>rfl
 |x::xs,f+1,h=>by
  have ih:=VJ H n xs f (by simp at h;omega);simp only [L8,cr,ih,iv]
theorem Vk:∀ xs:List Int,O0 (xs.map iv)=some (xs.map num)
 |[]=>rfl
 |x::xs=>by simp only [L8,O0,iv,c8.data?];rw [Vk xs]
section
variable {b:Nat} {l5 ops:List o9} {T:List c8} {n:Nat} {rl:List c8} {p7:List A2.Touch} {Q:List c8->p9->List c8->Prop}
end
end Go.Proofs.YtibjocmpkoepoaaGreat


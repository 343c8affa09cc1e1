import Derived.Test.YtibjocmpkoepoaaGreatN2
set_option linter.all false
open Bool renaming and_eq_true→c9,false_eq_true→j6,or_eq_false_iff→B2,true→W,false→F
open Int renaming toNat_natCast→G6
open List renaming append_assoc→F5,cons_append→x4,drop_of_length_le→n5,getElem_of_mem→E0,length_append→j9,length_cons→n9,length_map→A3,length_nil→y4,length_take→L1,map_cons→G7,mem_append→G4,mem_cons→K2,nil_append→y5,pairwise_cons→F2,set_cons_succ→o7,set_cons_zero→o8,take_length→D3,take_of_length_le→s9,length→O
open Nat renaming add_assoc→M6,le_refl→k9,lt_or_ge→y8,mul_le_mul_right→F8,reduceAdd→K5
open Option renaming some→J,none→K
namespace Go.Proofs.YtibjocmpkoepoaaGreat
open Go.z6 Go.z6.S
attribute [local irreducible] Rx Ry Rn Ex Pf
end Go.Proofs.YtibjocmpkoepoaaGreat
namespace Go.z6.S
section
variable {A:Prog} {l:G9} {b:Nat} {dr:Bool} {j8 ops:List x9} {T:List c7} {H:k8} {n:Nat} {rl:List c7} {l6:List Touch} {Q:List c7->k8->List c7->Prop}
end
end Go.z6.S
namespace Go.Proofs.YtibjocmpkoepoaaGreat
open Go.z6 Go.z6.S
attribute [local irreducible] Rx Ry Rn Ex Pf
end Go.Proofs.YtibjocmpkoepoaaGreat
namespace Go.Proofs.YtibjocmpkoepoaaGreat
open Go.z6 Go.z6.S
def kH (a b:D8):Prop:=a.src.1<b.src.1\/(a.src.1=b.src.1/\(a.src.2<b.src.2\/(a.src.2=b.src.2/\(a.dst.1<b.dst.1\/(a.dst.1=b.dst.1/\a.dst.2<b.dst.2)))))
def ue (a b:D8):Prop:=a.src.1=b.src.1/\a.src.2=b.src.2/\a.dst.1=b.dst.1/\a.dst.2=b.dst.2
instance (a b:D8):Decidable (kH a b):=by unfold kH;infer_instance
instance (a b:D8):Decidable (ue a b):=by unfold ue;infer_instance
def fI (x:D8):List D8->List D8
 |[]=>[x]
 |y::l=>if kH y x then y::fI x l else if ue y x then ⟨y.src,y.dst,y.dat||x.dat⟩::l else x::y::l
def K3 (l:List D8):List D8->List D8
 |[]=>l
 |x::r=>K3 (fI x l) r
def U3 (l:List D8):∀xs ys:List D8,K3 l (xs++ys)=K3 (K3 l xs) ys:=by
 intro xs
 induction xs generalizing l with
 |nil=>intro ys;rfl
 |cons x xs ih=>intro ys;exact ih _ ys
theorem Dx (x:D8):∀l:List D8,O (fI x l)<=O l+1
 |[]=>by simp [fI]
 |y::l=>by
  have:=Dx x l
  grind [fI]
theorem W0:∀(xs l:List D8),O (K3 l xs)<=O l+O xs
 |[],l=>by simp [K3]
 |x::xs,l=>by
  have h1:=W0 xs (fI x l)
  grind [Dx,K3,n9]
def uk (l:List D8)(p q:C8):Prop:=∃f∈l,f.src=p/\f.dst=q
theorem rS {a b:D8}:ue a b↔a.src=b.src/\a.dst=b.dst:=by
 grind [b1,b2,b3,b4,b5,ue,Prod.mk.injEq]
theorem Gc (x:D8)(p q:C8):∀l:List D8,uk (fI x l) p q↔uk l p q\/(x.src=p/\x.dst=q)
 |[]=>by simp [uk,fI]
 |y::l=>by
  have ih:=Gc x p q l;unfold uk at ih ⊢;unfold fI;split
  .grind
  .split
   .simp_all [rS,K2,exists_eq_or_imp]
   grind
theorem My (x:D8)(p q:C8):∀l:List D8,(⟨p,q,W⟩:D8)∈fI x l↔(⟨p,q,W⟩:D8)∈l\/x=⟨p,q,W⟩
 |[]=>by grind [fI]
 |y::l=>by
  have ih:=My x p q l;unfold fI;split
  .grind
  .split
   next h=>
    have h:=rS.1 h;obtain ⟨xs,xd,xt⟩:=x;obtain ⟨ys,yd,yt⟩:=y;simp_all<;>grind
   grind
theorem PZ (x:D8):∀(l:List D8) {z:D8},z∈fI x l->(∃w∈l,ue w z)\/ue x z:=by
 intro l z hz;have:=(Gc x z.src z.dst l).1 ⟨z,hz,rfl,rfl⟩
 rcases this with ⟨w,hw,e⟩|e
 all_goals grind [rS]
theorem Xz {a b c:D8}(h:kH a b)(k:ue b c):kH a c:=by simp_all [kH,ue]
theorem Sh {a b c:D8}(h:kH a b)(k:kH b c):kH a c:=by grind [kH]
theorem XA {a b:D8}(h:¬ kH b a)(k:¬ ue b a):kH a b:=by grind [kH,ue]
theorem DJ {a b:D8}(h:kH a b):¬ ue a b/\¬ ue b a/\¬ kH b a:=by grind [kH,ue]
theorem HZ (x:D8):∀l:List D8,l.Pairwise kH->(fI x l).Pairwise kH
 |[],_=>by simp [fI]
 |y::l,h=>by
  rw [F2] at h;unfold fI;split
  .refine F2.2 ⟨λz hz=>?_,HZ x l h.2⟩
   grind [PZ,Xz]
  .split
   .exact F2.2 ⟨λz hz=>h.1 z hz,h.2⟩
   grind [XA,F2,Sh]
theorem Cl:∀(xs l:List D8),l.Pairwise kH->(K3 l xs).Pairwise kH
 |[],_,h=>h
 |x::xs,l,h=>Cl xs _ (HZ x l h)
theorem GY (p q:C8):∀(xs l:List D8),uk (K3 l xs) p q↔uk l p q\/uk xs p q
 |[],l=>by simp [K3,uk]
 |x::xs,l=>by
  rw [K3,GY p q xs,Gc]
  grind [uk]
theorem GX (p q:C8):∀(xs l:List D8),(⟨p,q,W⟩:D8)∈K3 l xs↔(⟨p,q,W⟩:D8)∈l\/(⟨p,q,W⟩:D8)∈xs
 |[],l=>by simp [K3]
 |x::xs,l=>by
  rw [K3,GX p q xs,My]
  grind
theorem NI {R:D8->D8->Prop}:∀{l:List D8},l.Pairwise R->∀{a b:D8},a∈l->b∈l->a=b\/R a b\/R b a
 |x::l,h,a,b,ha,hb=>by
  rw [F2] at h
  rcases K2.1 ha with rfl|ha1<;>rcases K2.1 hb with rfl|hb1
  .exact .inl rfl
  .exact .inr (.inl (h.1 b hb1))
  .exact .inr (.inr (h.1 a ha1))
  .exact NI h.2 ha1 hb1
theorem Ud {l:List D8}(h:l.Pairwise kH)(f:D8):f∈l↔uk l f.src f.dst/\(f.dat=W↔(⟨f.src,f.dst,W⟩:D8)∈l):=by
 have un:∀{a b:D8},a∈l->b∈l->a.src=b.src->a.dst=b.dst->a=b:=λ{a b} ha hb e1 e2=>by
  have hk:ue a b:=rS.2 ⟨e1,e2⟩
  grind [NI,absurd,DJ]
 obtain ⟨p,q,d⟩:=f;constructor
 .intro hf
  refine ⟨⟨_,hf,rfl,rfl⟩,λhd=>?_,λht=>?_⟩
  all_goals grind
 .rintro ⟨⟨⟨p',q',d'⟩,hg,e1,e2⟩,hd⟩
  subst e1 e2;cases d with
  |true=>simp_all
  |false =>
   cases d' with
   |false=>exact hg
   |true=>simp_all
def UC {l m:List D8}(hl:l.Pairwise kH)(hm:m.Pairwise kH)(hK:∀p q,uk l p q↔uk m p q)(hD:∀p q,(⟨p,q,W⟩:D8)∈l↔(⟨p,q,W⟩:D8)∈m):l=m:=by
 have nd:∀{l:List D8},l.Pairwise kH->l.Nodup:=λ{l} h=>h.imp λ{a b} h e=>by subst e;exact (DJ h).1 ⟨rfl,rfl,rfl,rfl⟩
 have hp:l.Perm m:=(List.perm_ext_iff_of_nodup (nd hl) (nd hm)).2 λf=>by grind [Ud]
 exact hp.eq_of_pairwise (λa b _ _ h1 h2=>absurd h2 (DJ h1).2.2) hl hm
theorem ru {a b:D8}:¬ CC b a<0↔kH a b\/(ue a b/\(b.dat=W->a.dat=W)):=by
 have h0:¬ OI b.dat a.dat<0↔(b.dat=W->a.dat=W):=by cases b.dat<;>cases a.dat<;>simp [OI]
 obtain ⟨z,hz⟩:∃z,OI b.dat a.dat=z:=⟨_,rfl⟩;rw [<- h0,hz];unfold CC pI aV kH ue;rw [hz];split<;>(repeat' split)<;>omega
def NV (l:List D8):(Y4 l).Pairwise λa b=>¬ CC b a<0 :=
 qM (λa b c h1 h2=>by
  rw [ru] at *
  grind [kH,ue]) (λa b h=>by
  rw [ru];have h1:¬ (kH a b\/(ue a b/\(b.dat=W->a.dat=W))):=by rw [<- ru];omega
  grind [kH,ue]) l
theorem Gm {R:D8->D8->Prop}{xs:List D8}(h:xs.Pairwise R){i j:Nat}(h1:i<j)(h2:j<O xs):R (Y xs i) (Y xs j):=by
 grind [A7,List.pairwise_iff_getElem]
theorem Ho {xs:List D8}(hs:xs.Pairwise λa b=>¬ CC b a<0){k:Nat}(hk:k<O xs)(hc:¬ (decide (0<k)&&mh (Y xs k) (Y xs (k - 1)))=W){j:Nat}(hj:j<k):kH (Y xs j) (Y xs k):=by
 have h1:=ru.1 (Gm hs (show k - 1<k by omega) hk);have h2:kH (Y xs (k - 1)) (Y xs k):=by
  rcases h1 with h1|⟨h1,_⟩
  all_goals simp_all [rS,c9,decide_eq_true_eq,Ke]
 grind [y8,ru,Gm,Sh,kH,ue]
theorem oq {xs:List D8}(hs:xs.Pairwise λa b=>¬ CC b a<0):∀k,k<=O xs->∀f∈aL xs k,∃i,i<k/\f=Y xs i/\∀j,j<i->kH (Y xs j) f
 |0,_,f,h=>by simp [aL] at h
 |k+1,hk,f,h=>by
  rw [aL,G4] at h
  rcases h with h|h
  .obtain ⟨i,a,b,d⟩:=oq hs k V f h
   grind
  grind [List.mem_singleton,Ho]
theorem Hl {xs:List D8}(hs:xs.Pairwise λa b=>¬ CC b a<0):∀k,k<=O xs->(aL xs k).Pairwise kH
 |0,_=>List.Pairwise.nil
 |k+1,hk=>by
  refine List.pairwise_append.2 ⟨Hl hs k V,?_,λa ha b hb=>?_⟩
  .split<;>simp
  .split at hb
   .cases hb
   .rw [List.mem_singleton] at hb
    obtain ⟨i,h1,rfl,_⟩:=oq hs k V a ha
    grind [Ho]
def LD {c:p7}{R:List D8}(h:∀f,f∈gK c↔f∈R):K3 [] R=dN c:=by
 have hs:=NV (gK c);have hl:=mY (gK c);refine UC (Cl R [] List.Pairwise.nil) (Hl hs _ V) (λp q=>?_) (λp q=>?_)
 .rw [GY]
  constructor
  .rintro (⟨_,h1,_⟩|⟨f,hf,e1,e2⟩)
   .cases h1
   .obtain ⟨g,hg,e3,e4⟩:=CQ ((h f).2 hf)
    exact ⟨g,hg,e3.trans e1,e4.trans e2⟩
  .rintro ⟨f,hf,e⟩
   exact .inr ⟨f,(h f).1 (CR hf),e⟩
 .rw [GX]
  constructor
  .rintro (h1|h1)
   .cases h1
   .have h1:=(h _).2 h1
    obtain ⟨g,hg,e3,e4⟩:=CQ h1;obtain ⟨j,hj,ej⟩:=E0 ((dY (gK c)).mem_iff.2 h1);rw [<- A7 hj] at ej;obtain ⟨i,hi,rfl,hf⟩:=oq hs _ V g hg;have hk:ue (Y (Y4 (gK c)) i) (Y (Y4 (gK c)) j):=rS.2 M
    rcases Nat.lt_trichotomy i j with h2|h2|h2
    .rcases ru.1 (Gm hs h2 hj) with h3|⟨_,h3⟩
     .grind [absurd,DJ]
     .have:Y (Y4 (gK c)) i=⟨p,q,W⟩:=by
       cases h5:Y (Y4 (gK c)) i;simp_all
      simp_all
    all_goals grind [absurd,DJ]
  grind [CR]
attribute [local irreducible] Rx Ry Rn Ex Pf
def fH (p q:C8):Bool:=p.1==q.1&&(p.2==q.2&&W)
def qf (p q:C8):fH p q=W↔p=q:=by
 grind [fH]
def Bf (l:List C8)(p:C8):Bool:=l.any λq=>fH q p
def PD {l:List C8}{p:C8}(h:p∈l):Bf l p=W:=List.any_eq_true.2 ⟨p,h,(qf p p).2 rfl⟩
def Mf {l:List C8}{p:C8}:Bf l p=W↔p∈l:=⟨λh=>by
 obtain ⟨q,hq,e⟩:=List.any_eq_true.1 h;simp_all [qf],PD⟩
def at3 (l:List C8)(p:C8)(hl:O l<=9223372036854775807):Pf A 24 [.d (E4 l),qC p] (.d (.bool (Bf l p))):=by
 refine Pf.gr 3 ?_;refine Ex.gV (λk T H=>∃(i:Nat) (w1 w3:c7),T=[.d (E4 l),w1,.ptr 0 0,w3,.d (Z i)]/\H=[.cells [.d (Z p.1),.d (Z p.2)]]/\i+k=O l/\Bf l p=Bf (l.drop i) p) M ?_ (k:=O l) ⟨0,_,_,rfl,rfl,U,U⟩;rintro k _ _ ⟨i,w1,w3,rfl,rfl,hk,hi⟩;refine Ex.nT ?_;refine Ex.seq ?_;refine tb (D0 i (O l)) (λh2=>?_) (λh2=>?_)
 .have h3:=A5 h2
  have e:Bf (l.drop i) p=(fH (Y l i) p||Bf (l.drop (i+1)) p):=by
   rw [C5 V];rfl
  refine gr ?_;refine tB (fH (Y l i) p) ?_ (λh4=>?_) (λh4=>?_)
  .repeat' (first|refine gx ?_|refine fq (λhw=>?_) λhw=>?_|refine ⟨rfl,rfl,_,rfl,?_⟩|refine ⟨rfl,rfl⟩|fail)
   simp_all [j4,fH,s4,r7,o6,E2]
  .refine gr ?_
   exact ⟨_,rfl,by rw [hi,e,h4];rfl⟩
  .refine gr ?_
   exact kk ⟨i+1,_,_,rfl,rfl,V,M⟩
 .have h3:=A9 h2
  rw [n5 V] at hi;refine gr ?_;exact ⟨_,rfl,by rw [hi];rfl⟩
def DH (a b:C8):Bool:=D0 a.1 b.1||(s7 a.1 b.1&&D0 a.2 b.2)
def MN (a b:C8):Pf A 107 [qC a,qC b] (.d (.bool (DH a b))):=by
 refine Pf.go 3 ?_;unfold qC
 repeat' (first|refine gy ?_|refine fq (λhw=>?_) λhw=>?_|refine ⟨_,rfl,?_⟩|fail)
 all_goals simp_all [j4,DH]
def Br (a b:D8):Bool:=DH a.src b.src||(fH a.src b.src&&DH a.dst b.dst)
def wD (a b:D8):Bool:=fH a.src b.src&&fH a.dst b.dst
def DI (a b:D8):Br a b=W↔kH a b:=by
 simp only [Br,DH,fH,kH,s4,o6,Bool.or_eq_true,c9,decide_eq_true_eq,beq_iff_eq,and_true];omega
def ML (a b:D8):wD a b=W↔ue a b:=by
 simp only [wD,fH,ue,c9,beq_iff_eq,and_true];omega
theorem HY (x:D8):∀l:List D8,∃i,i<=O l/\(∀j,j<i->Br (Y l j) x=W)/\(i<O l->Br (Y l i) x=F) /\
  fI x l=if i<O l/\wD (Y l i) x=W then l.take i++⟨(Y l i).src,(Y l i).dst,(Y l i).dat||x.dat⟩::l.drop (i+1) else l.take i++[x]++l.drop i
 |[]=>⟨0,by simp [fI]⟩
 |y::l=>by
  have h4:Y (y::l) 0=y:=A7 U;have h0:∀j,j<O l->Y (y::l) (j+1)=Y l j:=λj hj=>by rw [A7 D,A7 hj];simp
  by_cases hy:kH y x
  .obtain ⟨i,h1,h2,h3,h5⟩:=HY x l
   refine ⟨i+1,D,λj hj=>?_,λhi=>?_,?_⟩
   .cases j with
    |zero=>rw [h4,DI];exact hy
    |succ j=>rw [h0 j V];exact h2 j V
   .simp at hi
    rw [h0 i hi];exact h3 hi
   .simp only [fI,if_pos hy,h5]
    by_cases hi:i<O l
    .rw [h0 i hi]
     by_cases e:wD (Y l i) x=W
     .simp [hi,e]
     .simp [e]
    .simp [hi]
  .refine ⟨0,U,λj hj=>V,λ_=>?_,?_⟩
   .rw [h4]
    have:=mt (DI y x).1 hy;simpa using this
   .simp only [fI,if_neg hy,h4,ML]
    by_cases e:ue y x<;>simp [e]
def OG (w:c7)(l:List D8):Prop:=w= .d (cR l)\/w=A8 5 D8.enc l
def OG.as {w:c7}{l:List D8}(h:OG w l):w.I7= .d (cR l):=by
 rcases h with rfl|rfl<;>rfl
set_option maxHeartbeats 8000000 in
def Xv (l:List D8)(x:D8)(hl:O l<=100000):∃w,OG w (fI x l)/\Pf A 50 [.d (cR l),Wm x] w:=by
 obtain ⟨i,hi1,hi2,HO,hi4⟩:=HY x l;have key:∀w,w=(if i<O l/\wD (Y l i) x=W then c7.d (cR (l.take i++⟨(Y l i).src,(Y l i).dst,(Y l i).dat||x.dat⟩::l.drop (i+1))) else A8 5 D8.enc (l.take i++[x]++l.drop i))->OG w (fI x l):=λw hw=>by
  rw [hi4,hw];split
  .exact .inl rfl
  .exact .inr rfl
 refine ⟨_,key _ rfl,?_⟩;refine Pf.go 4 ?_;unfold Wm;refine gr ?_;refine Ex.Y1 (λk T H=>∃(j:Nat) (w1 w3 w5:c7),T=[.d (cR l),w1,.ptr 0 0,w3,.d (Z j),w5]/\H=[.cells (x.enc.map .d)]/\j+k=i) ?_ (k:=i) ⟨0,_,_,_,rfl,rfl,U⟩;rintro k _ _ ⟨j,w1,w3,w5,rfl,rfl,hk⟩;refine Ex.nT ?_;refine Ex.seq ?_;have hj:j<i\/j=i:=V
 have p1:=MN (Y l j).src x.src;have p2:=MN (Y l j).dst x.dst;refine tB (D0 j (O l)&&Br (Y l j) x) ?_ (λh1=>?_) (λh1=>?_)
 .repeat' (first|refine cl (p1) ?_|refine cl (p2) ?_|refine le (cs:=E8 (Y l j).src) ?_|refine le (cs:=E8 (Y l j).dst) ?_|refine Xx ?_|refine gx ?_|refine fq (λhw=>?_) λhw=>?_|refine ⟨rfl,rfl,_,rfl,?_⟩|refine ⟨rfl,rfl⟩|fail)
  all_goals first|(simp [*,j4,Br,fH];done)|(simp_all [j4,Br,fH];done)|(simp_all [j4,Br,fH,s4,r7,o6,E2];done)|(simp_all [j4,Br,fH,s4,r7,o6,E2]<;>omega)
 .simp only [c9] at h1
  have h2:=A5 h1.1;refine gr ?_;refine ⟨k - 1,?_,j+1,_,_,_,rfl,rfl,?_⟩
  .rcases hj with h|rfl
   .omega
   .have:=HO V;rw [this] at h1;cases h1.2
  .rcases hj with h|rfl
   .omega
   .have:=HO V;rw [this] at h1;cases h1.2
 obtain rfl:j=i:=by
  rcases hj with h|h
  .have:=hi2 j h
   rw [this,Bool.and_true] at h1;have:=A9 h1;omega
  .exact h
 refine gr ?_;refine tB (D0 j (O l)&&wD (Y l j) x) ?_ (λh4=>?_) (λh4=>?_)
 .repeat' (first|refine cl (p1) ?_|refine cl (p2) ?_|refine le (cs:=E8 (Y l j).src) ?_|refine le (cs:=E8 (Y l j).dst) ?_|refine Xx ?_|refine gx ?_|refine fq (λhw=>?_) λhw=>?_|refine ⟨rfl,rfl,_,rfl,?_⟩|refine ⟨rfl,rfl⟩|fail)
  all_goals first|(simp [*,j4,wD,fH];done)|(simp_all [j4,wD,fH];done)|(simp_all [j4,wD,fH,s4,r7,o6,E2];done)|(simp_all [j4,wD,fH,s4,r7,o6,E2]<;>omega)
 .simp only [c9] at h4
  have h2:=A5 h4.1;rw [if_pos ⟨V,h4.2⟩]
  repeat' (first|refine Lg [] ?_|refine Vi (enc:=D8.enc) (ys:=l) (h2:=?_)|refine gx ?_|fail)
  refine Ex.fz (HL (s:=5) rfl V rfl rfl (vY (λ_=>rfl) _)) ?_;have hsp:l=l.take j++Y l j::l.drop (j+1):=by rw [<- C5 V];exact (List.take_append_drop j l).symm
  have e1:(Y l j::l.drop (j+1)).flatMap D8.enc=(Y l j).enc++(l.drop (j+1)).flatMap D8.enc:=rfl;have hjl:O (O8 (l.take j))=j * 5:=by rw [O8,A3,W4 (sz:=5) (λ_=>rfl),L1,Nat.min_eq_left V]
  obtain ⟨f,hf⟩:∃f,Y l j=f:=⟨_,rfl⟩;obtain ⟨X,hX⟩:∃X,l.take j=X:=⟨_,rfl⟩;obtain ⟨d4,hY⟩:∃d4,l.drop (j+1)=d4:=⟨_,rfl⟩;have Mj:∀t:Bool,O l=O (X++⟨f.src,f.dst,t⟩::d4):=λt=>by rw [hsp,hf,hX,hY];simp
  rw [hf,hX,hY] at hsp;rw [hX] at hjl;rw [hf,hX,hY];have hE:(l.flatMap D8.enc).map c7.d=O8 X++(f.enc.map .d++O8 d4):=by rw [hsp];simp [O8,List.flatMap_append,List.flatMap_cons]
  have hrd:rd [.cells (x.enc.map .d),.cells (O8 X++(f.enc.map .d++O8 d4))] 1 (0+(j:Int).toNat * 5+4) 1=J [.d (.bool f.dat)]:=by
   simp only [rd,List.getElem?_cons_succ,List.getElem?_cons_zero,G6,Nat.zero_add];rw [if_pos (by simp [D8.enc,hjl];omega),<- List.drop_drop,<- hjl,List.drop_left];rfl
  have hwr:∀t:Bool,wr [.cells (x.enc.map .d),.cells (O8 X++(f.enc.map .d++O8 d4))] 1 (0+(j:Int).toNat * 5+4) [.d (.bool t)]=J [.cells (x.enc.map .d),.cells (O8 (X++⟨f.src,f.dst,t⟩::d4)++[])]:=λt=>by
   simp only [wr,List.getElem?_cons_succ,List.getElem?_cons_zero,splice,G6,Nat.zero_add];rw [if_pos (by simp [D8.enc,hjl];omega),<- hjl,List.take_length_add_append,M6,List.drop_length_add_append];simp [O8,D8.enc]
  simp only [O4,o7,o8,G7,List.map_nil,x4,y5,n9,y4,K5,hE];generalize (c7.d (cR l)).forget=w0;show Ex A N9 0 _ ⟨[w0,.any,.ptr 0 0,.any,.d (Z j),.s5 1 5 0 (O l)],[.cells (x.enc.map .d),.cells (O8 X++(f.enc.map .d++O8 d4))]⟩ _
  have h6:0<=(j:Int)/\(j:Int)<O l:=V
  cases hd:f.dat with
  |true =>
   rw [hd] at hrd
   repeat' (first|refine KN h6 ?_|refine KO hrd rfl ?_|refine sox (hwr W) (h2:=?_)|refine gx ?_|fail)
   exact ⟨_,LR (s:=3) (p:=1) (ds:=X++⟨f.src,f.dst,W⟩::d4) (by rw [<- Mj W];rfl) rfl (by rw [<- Mj W];omega),rfl⟩
  |false =>
   rw [hd] at hrd
   repeat' (first|refine KN h6 ?_|refine KO hrd rfl ?_|refine sox (hwr x.dat) (h2:=?_)|refine gx ?_|fail)
   exact ⟨_,LR (s:=3) (p:=1) (ds:=X++⟨f.src,f.dst,x.dat⟩::d4) (by rw [<- Mj x.dat];rfl) rfl (by rw [<- Mj x.dat];omega),rfl⟩
 .have e:¬ (j<O l/\wD (Y l j) x=W):=by
   rintro ⟨g1,g2⟩;rw [g2,Bool.and_true] at h4;have:=A9 h4;omega
  rw [if_neg e];have h5:O (l.take j)<=100000:=D
  repeat' (first|refine Lg [] ?_|refine Vi (enc:=D8.enc) (ys:=l.take j) (h2:=?_)|refine oN (enc:=D8.enc) x ?_|refine Fq (enc:=D8.enc) (xs:=l.take j) (ys:=[x]) (h2:=?_)|refine Fq (enc:=D8.enc) (xs:=l.take j++[x]) (ys:=l.drop j) (h2:=?_)|refine gx ?_|fail)
  exact ⟨_,rfl,rfl⟩
end Go.Proofs.YtibjocmpkoepoaaGreat
namespace Go.Proofs.YtibjocmpkoepoaaGreat
open Go.z6 Go.z6.S
def rP (p:C8):List C8->List C8
 |[]=>[p]
 |y::l=>if DH y p then y::rP p l else if y=p then y::l else p::y::l
def uK (a b:C8):DH a b=W↔a.1<b.1\/(a.1=b.1/\a.2<b.2):=by
 simp only [DH,s4,o6,Bool.or_eq_true,c9,decide_eq_true_eq,beq_iff_eq]
theorem Ia (p:C8):∀l:List C8,∃i,i<=O l/\(∀j,j<i->DH (Y l j) p=W)/\(i<O l->DH (Y l i) p=F) /\
  rP p l=if i<O l/\Y l i=p then l else l.take i++[p]++l.drop i
 |[]=>⟨0,by simp [rP]⟩
 |y::l=>by
  have h4:Y (y::l) 0=y:=A7 U;have h0:∀j,j<O l->Y (y::l) (j+1)=Y l j:=λj hj=>by rw [A7 D,A7 hj];simp
  by_cases hy:DH y p=W
  .obtain ⟨i,h1,h2,h3,h5⟩:=Ia p l
   refine ⟨i+1,D,λj hj=>?_,λhi=>?_,?_⟩
   .cases j with
    |zero=>rw [h4];exact hy
    |succ j=>rw [h0 j V];exact h2 j V
   .simp at hi
    rw [h0 i hi];exact h3 hi
   .simp only [rP,if_pos hy,h5]
    by_cases hi:i<O l
    .rw [h0 i hi]
     by_cases e:Y l i=p<;>simp [hi,e]
    .simp [hi]
  .refine ⟨0,U,λj hj=>V,λ_=>by rw [h4];simpa using hy,?_⟩
   simp only [rP,if_neg hy,h4]
   by_cases e:y=p<;>simp [e]
def NW {l:List C8}(h:l.Nodup):(sortP l).Pairwise λa b=>DH a b=W:=by
 refine ((xx l).and (Ey h)).imp λ{a b} h=>?_
 obtain ⟨h1,h2⟩:=h;rw [Ik] at h1;rw [uK];have:¬ (a.1=b.1/\a.2=b.2):=λh=>h2 (Prod.ext h.1 h.2)
 omega
theorem Ib {p:C8}:∀{l:List C8},l.Pairwise (λa b=>DH a b=W)->p∈l->rP p l=l
 |y::l,h,hp=>by
  rw [F2] at h;unfold rP
  rcases K2.1 hp with rfl|hp
  .have:DH p p=F:=by
    cases e:DH p p with
    |false=>rfl
    |true=>rw [uK] at e;omega
   simp [this]
  .rw [if_pos (h.1 p hp),Ib h.2 hp]
theorem Dy {p:C8}:∀{l:List C8},p∉l->rP p l=Bk pI p l
 |[],_=>rfl
 |y::l,h=>by
  have h1:y≠p:=λe=>h (e ▸ List.mem_cons_self)
  have ih:=Dy (p:=p) (l:=l) λe=>h (List.mem_cons_of_mem _ e)
  unfold rP Bk;rw [ih,if_neg h1]
  by_cases e:DH y p=W
  .rw [if_pos e,if_pos ((dJ _ _).2 ((uK _ _).1 e))]
  .rw [if_neg e,if_neg λc=>e ((uK _ _).2 ((dJ _ _).1 c))]
def zL {S:List C8}(h:S.Nodup)(p:C8):rP p (sortP S)=sortP (kR S p):=by
 unfold kR;split
 next hp=>
  exact Ib (NW h) (rU.2 hp)
 next hp=>
  rw [Dy (λe=>hp (rU.1 e)),nR (List.perm_append_comm (l₁:=S) (l₂:=[p]))];rfl
def Ks {S:List C8}(h:S.Nodup)(f:D8)(d:Bool)(hf:d=decide (f.src∈S)):(if d then rP f.dst (sortP S) else sortP S)=sortP (V5 S f):=by
 subst hf;unfold V5
 by_cases h1:f.src∈S
 .rw [if_pos (decide_eq_true h1),zL h]
  unfold kR
  by_cases h2:f.dst∈S<;>simp [h1,h2]
 .simp [h1]
def vg {l:List C8}:∀{S:List C8},eZ S l=l.foldl kR S:=by
 induction l with
 |nil=>intro S;rfl
 |cons p l ih=>intro S;exact ih
attribute [local irreducible] Rx Ry Rn Ex Pf
def SN (w:c7)(l:List C8):Prop:=w= .d (E4 l)\/w=A8 2 E8 l
def SN.as {w:c7}{l:List C8}(h:SN w l):w.I7= .d (E4 l):=by
 rcases h with rfl|rfl<;>rfl
set_option maxHeartbeats 8000000 in
def Se (l:List C8)(p:C8)(hl:O l<=200000):∃w,SN w (rP p l)/\Pf A 132 [.d (E4 l),qC p] w:=by
 obtain ⟨i,hi1,hi2,HO,hi4⟩:=Ia p l;have key:∀w,w=(if i<O l/\Y l i=p then c7.d (E4 l) else A8 2 E8 (l.take i++[p]++l.drop i))->SN w (rP p l):=λw hw=>by
  rw [hi4,hw];split
  .exact .inl rfl
  .exact .inr rfl
 refine ⟨_,key _ rfl,?_⟩;refine Pf.go 3 ?_;unfold qC;refine gr ?_;refine Ex.Y1 (λk T H=>∃(j:Nat) (w1 w3:c7),T=[.d (E4 l),w1,.ptr 0 0,w3,.d (Z j)]/\H=[.cells [.d (Z p.1),.d (Z p.2)]]/\j+k=i) ?_ (k:=i) ⟨0,_,_,rfl,rfl,U⟩;rintro k _ _ ⟨j,w1,w3,rfl,rfl,hk⟩;refine Ex.nT ?_;refine Ex.seq ?_;have hj:j<i\/j=i:=V
 have p1:=MN (Y l j) p;refine tc (D0 j (O l)&&DH (Y l j) p) p1 (λh1=>?_) (λh1=>?_)
 .simp only [c9] at h1
  have h2:=A5 h1.1;refine gr ?_;refine ⟨k - 1,?_,j+1,_,_,rfl,rfl,?_⟩
  .rcases hj with h|rfl
   .omega
   .have:=HO V;rw [this] at h1;cases h1.2
  .rcases hj with h|rfl
   .omega
   .have:=HO V;rw [this] at h1;cases h1.2
 obtain rfl:j=i:=by
  rcases hj with h|h
  .have:=hi2 j h
   rw [this,Bool.and_true] at h1;have:=A9 h1;omega
  .exact h
 refine gr ?_;refine tB (D0 j (O l)&&fH (Y l j) p) ?_ (λh4=>?_) (λh4=>?_)
 .repeat' (first|refine gx ?_|refine fq (λhw=>?_) λhw=>?_|refine ⟨rfl,rfl,_,rfl,?_⟩|refine ⟨rfl,rfl⟩|fail)
  all_goals first|(simp [*,j4,fH];done)|(simp_all [j4,fH];done)|(simp_all [j4,fH,s4,r7,o6,E2];done)|(simp_all [j4,fH,s4,r7,o6,E2]<;>omega)
 .simp only [c9] at h4
  have h2:=A5 h4.1;rw [if_pos ⟨V,(qf _ _).1 h4.2⟩];refine gr ?_;exact ⟨_,rfl,rfl⟩
 .have e:¬ (j<O l/\Y l j=p):=by
   rintro ⟨g1,g2⟩;rw [(qf _ _).2 g2,Bool.and_true] at h4;have:=A9 h4;omega
  rw [if_neg e];have h5:O (l.take j)<=200000:=D
  repeat' (first|refine Lg [] ?_|refine Vi (enc:=E8) (ys:=l.take j) (h2:=?_)|refine oN (enc:=E8) p ?_|refine Fq (enc:=E8) (xs:=l.take j) (ys:=[p]) (h2:=?_)|refine Fq (enc:=E8) (xs:=l.take j++[p]) (ys:=l.drop j) (h2:=?_)|refine gx ?_|fail)
  exact ⟨_,rfl,rfl⟩
def di (d:Bool)(fs:List D8):List D8:=fs.filter λf=>f.dat|| !d
def Kh (d:Bool)(fs:List D8){i:Nat}(h:i<O fs):di d (fs.take (i+1))=di d (fs.take i)++(if (Y fs i).dat|| !d then [Y fs i] else []):=by
 unfold di;rw [D2 h,List.filter_append]
 congr 1
 simp only [List.filter_cons,List.filter_nil]
theorem Ee:∀(xs ys:List D8) (S:List C8),pass S (xs++ys)=pass (pass S xs) ys
 |[],_,_=>rfl
 |x::xs,ys,S=>Ee xs ys (V5 S x)
def Jq {S:List C8}(p:C8):Bf (sortP S) p=decide (p∈S):=by
 rw [Bool.eq_iff_iff,Mf,rU,decide_eq_true_iff]
def Lp (fs:List D8)(n:Nat)(S:List C8):zi fs (n+1) S=if O (pass S fs)=O S then S else zi fs n (pass S fs):=rfl
set_option maxHeartbeats 8000000 in
def Xs (fs:List D8)(d:Bool)(hf:O fs<=100000)(n:Nat)(S:List C8)(hS:S.Nodup)(hn:aP (di d fs) S<n)(hl:O S+aP (di d fs) S<=200000) :
  Pf A 131 [.d (cR fs),.d (E4 (sortP S)),.d (.bool d)] (.d (E4 (sortP (zi (di d fs) n S)))):=by
 refine Pf.gr 3 ?_;refine Ex.Y1 (λk T H=>∃(S' :List C8) (w1 w3 w4 w5:c7),T=[.d (cR fs),w1,.d (.bool d),w3,w4,w5]/\H=[]/\SN w1 (sortP S')/\S'.Nodup/\aP (di d fs) S' <k/\O S'+aP (di d fs) S' <=200000/\zi (di d fs) n S=zi (di d fs) k S') ?_ (k:=n) ⟨S,_,_,_,_,rfl,rfl,.inl rfl,hS,hn,hl,rfl⟩;rintro k _ _ ⟨S',w1,w3,w4,w5,rfl,rfl,hw,hS',hk,hl',hc⟩;obtain ⟨k,rfl⟩:∃k',k=k' +1:=⟨k - 1,V⟩;rw [hc];have kD:=hw.as;refine Ex.nT ?_
 repeat' (first|refine qX kD ?_|refine gx ?_|fail)
 refine Ex.Y1 (λk T H=>∃(i:Nat) (w1 w3:c7),T=[.d (cR fs),w1,.d (.bool d),w3,.d (Z (O (sortP S'))),.d (Z i)]/\H=[]/\SN w1 (sortP (pass S' (di d (fs.take i))))/\i+k=O fs) ?_ (k:=O fs) ⟨0,_,_,rfl,rfl,hw,U⟩;clear hw kD;rintro m _ _ ⟨i,w1,w3,rfl,rfl,hw,hm⟩;have kD:=hw.as;refine Ex.nT ?_;refine Ex.seq ?_;have hq:(pass S' (di d (fs.take i))).Nodup:=xb _ hS';have WU:O (pass S' (di d (fs.take i)))<=200000:=by
  have:=mS (fs:=di d fs) (di d (fs.take i)) S' λg hg=>by
   obtain ⟨h1,h2⟩:=List.mem_filter.1 hg;exact List.mem_filter.2 ⟨List.mem_of_mem_take h1,h2⟩
  omega
 refine tb (D0 i (O fs)) (λh2=>?_) (λh2=>?_)
 .have h3:=A5 h2
  have e1:pass S' (di d (fs.take (i+1)))=if (Y fs i).dat|| !d then V5 (pass S' (di d (fs.take i))) (Y fs i) else pass S' (di d (fs.take i)):=by
   rw [Kh d fs V,Ee];split<;>rfl
  obtain ⟨Q,hQ⟩:∃Q,pass S' (di d (fs.take i))=Q:=⟨_,rfl⟩;rw [hQ] at hw hq WU e1 kD;have p24:=at3 (sortP Q) (Y fs i).src (by rw [Y6];omega);obtain ⟨w6,Vy,Nf⟩:=Se (sortP Q) (Y fs i).dst (by rw [Y6];omega);have e2:=Ks hq (Y fs i) _ (Jq _);refine gr ?_;refine tB (Bf (sortP Q) (Y fs i).src&&((Y fs i).dat|| !d)) ?_ (λh4=>?_) (λh4=>?_)
  .repeat' (first|refine qX kD ?_|refine cl (p24) ?_|refine le (cs:=E8 (Y fs i).src) ?_|refine gx ?_|refine fq (λhw=>?_) λhw=>?_|refine ⟨rfl,rfl,_,rfl,?_⟩|refine ⟨rfl,rfl⟩|fail)
   all_goals exact cc
  .simp only [c9] at h4
   rw [h4.1,if_pos rfl] at e2;rw [h4.2,if_pos rfl,] at e1;rw [e2,<- e1] at Vy
   rcases Vy with rfl|rfl
   .repeat' (first|refine qX kD ?_|refine cl (Nf) ?_|refine le (cs:=E8 (Y fs i).dst) ?_|refine gx ?_|fail)
    exact ⟨m - 1,V,i+1,_,_,rfl,rfl,.inl rfl,V⟩
   .repeat' (first|refine qX kD ?_|refine cl (Nf) ?_|refine le (cs:=E8 (Y fs i).dst) ?_|refine gx ?_|fail)
    exact ⟨m - 1,V,i+1,_,_,rfl,rfl,.inr rfl,V⟩
  .have e3:sortP (pass S' (di d (fs.take (i+1))))=sortP Q:=by
    rw [e1];split
    next h5=>
     rw [h5,Bool.and_true] at h4;rw [<- e2,h4];rfl
    .rfl
   refine gr ?_;exact ⟨m - 1,V,i+1,_,_,rfl,rfl,by rw [e3];exact hw,V⟩
 .have h3:=A9 h2
  obtain rfl:i=O fs:=V
  rw [D3] at hw hq WU kD;obtain ⟨g1,g2⟩:=lP (di d fs) S';have g3:=CH (di d fs);rw [Lp];refine gr ?_;refine tB (s7 (O (pass S' (di d fs))) (O S')) ?_ (λh4=>?_) (λh4=>?_)
  .repeat' (first|refine qX kD ?_|refine gx ?_|refine fq (λhw=>?_) λhw=>?_|refine ⟨rfl,rfl,_,rfl,?_⟩|refine ⟨rfl,rfl⟩|fail)
   all_goals first|(simp [*,j4,Y6];done)|(simp_all [j4,Y6];done)|(simp_all [j4,Y6,s4,r7,o6,E2];done)|(simp_all [j4,Y6,s4,r7,o6,E2]<;>omega)
  .have h5:=W9 h4
   have h6:O (pass S' (di d fs))=O S':=V
   rw [if_pos h6];rw [(g2 h6).1] at kD
   repeat' (first|refine qX kD ?_|refine gx ?_|fail)
   exact ⟨_,rfl,rfl⟩
  .have h5:O (pass S' (di d fs))≠O S':=by
    have:=iW h4;omega
   rw [if_neg h5];have h6:=mS (fs:=di d fs) (di d fs) S' λ_ h=>h
   refine gr ?_;exact ⟨k,V,_,_,_,_,_,rfl,rfl,hw,hq,V,V,rfl⟩
end Go.Proofs.YtibjocmpkoepoaaGreat
namespace Go.Proofs.YtibjocmpkoepoaaGreat
open Go.z6 Go.z6.S
def nY (ps qs:List C8)(d:Bool):List D8:=ps.flatMap λp=>qs.map λq=>⟨p,q,d⟩
def cN (e:List Q9):Nat->List Int
 |0=>[]
 |i+1=>if s7 (Y e i).op 2 then aq (cN e i) (Y e i).col else cN e i
def kN (e:List Q9)(ps:List C8):List C8:=(cN e (O e)).map λx=>Y ps x.toNat
def IY (v:Vw)(L R:List C8):List C8:=[Y L 0]++(if K7 v.right [] then [] else [Y R 0])
def Ox (s:Int)(L R:List C8):Nat->List D8
 |0=>[]
 |k+1=>Ox s L R k++nY [Y L k,Y R k] [(s,(k:Int))] W
def JO (v:Vw)(s:Int)(n:Nat)(L R:List C8):Nat->List D8
 |0=>[]
 |k+1=>JO v s n L R k++nY [Y L (Y v.on k).1.toNat,Y R (Y v.on k).2.toNat] (yg s n) F
def Ca (v:Vw)(s:Int)(n:Nat)(ps:List C8):Nat->List D8
 |0=>[]
 |k+1=>Ca v s n ps k++(nY (kN (Y v.items k).expr ps) [(s,(k:Int))] W++(if v.distinct||s7 v.kind 1 then nY (kN (Y v.items k).expr ps) (yg s n) F else []))
def KB (v:Vw)(s:Int)(ps:List C8):Nat->List D8
 |0=>[]
 |k+1=>KB v s ps k++nY (kN (Y v.E3 k).expr ps) [(s,(O v.items:Int)+(k:Int))] W
def UZ (s:Int)(v:Vw)(n:Nat)(L R:List C8):List D8 :=
 nY (IY v L R) (yg s n) F++(if s7 v.kind 2 then Ox s L R n else JO v s n L R (O v.on)++nY (kN v.wh (L++R)) (yg s n) F++Ca v s n (L++R) (O v.items)++KB v s (L++R) (O v.E3))
def xT (c:p7):Nat->List D8
 |0=>[]
 |i+1=>xT c i++UZ ((O c.j7:Int)+(i:Int)) (Y c.views i) (O (M3 c (O c.j7+i))) (tE c i) (kF c i)
def Zd (c:p7):List D8:=iG c (O c.j7)++xT c (O c.views)
theorem fK {d3 g:Nat->List D8}(h0:d3 0=[])(h:∀k,d3 (k+1)=d3 k++g k)(f:D8):∀k,f∈d3 k↔∃i,i<k/\f∈g i
 |0=>by simp [h0]
 |k+1=>by
  rw [h,G4,fK h0 h f k]
  grind
def MS {b:Bool}{l:List D8}{f:D8}:f∈(if b=W then l else [])↔b=W/\f∈l:=M
def IE {ps qs:List C8}{d:Bool}{f:D8}:f∈nY ps qs d↔f.src∈ps/\f.dst∈qs/\f.dat=d:=by
 obtain ⟨p,q,t⟩:=f
 grind [nY,D8.mk.injEq]
def HF {ps:List C8}{to:C8}{d:Bool}{f:D8}:f∈sY ps to d↔f.src∈ps/\f.dst=to/\f.dat=d:=by
 obtain ⟨p,q,t⟩:=f
 grind [sY,D8.mk.injEq]
theorem BA {s:Int}{q:C8}:∀{n},q∈yg s n↔∃i:Nat,i<n/\q=(s,(i:Int))
 |0=>by simp [yg]
 |n+1=>by
  rw [yg,G4,BA (n:=n),List.mem_singleton]
  grind
theorem Bu {s:Int}:∀{n i},i<n->Y (yg s n) i=(s,(i:Int))
 |n+1,i,h=>by
  have hl:=de s n
  rcases y8 i n with h1|h1
  .rw [<- Bu h1,yg,A7 D,A7 V,List.getElem_append_left V]
  grind [yg,A7,List.getElem_append_right]
theorem Ck (n x:Int):∀l:List Int,x∈aq l n↔x∈l\/x=n
 |[]=>by simp [aq]
 |y::l=>by
  have:=Ck n x l
  grind [aq]
theorem rE (e:List Q9)(x:Int):∀i,x∈cN e i↔x∈fB e i
 |0=>by rfl
 |i+1=>by
  have:=rE e x i
  grind [cN,fB,Ck]
def Mx {e:List Q9}{ps:List C8}{q:C8}:q∈kN e ps↔q∈gw e ps:=by
 simp [kN,gw,eF,List.mem_map,jj,jk,rE]
def DU {α β:Type} [Inhabited α] [Inhabited β] {g:α->β}{l:List α}{i:Nat}(h:i<O l):Y (l.map g) i=g (Y l i):=by
 simp_all [A7]
theorem Lz {v:Vw}{ps:List C8}{i:Nat}(h:i<O v.items+O v.E3):Y (pX v ps) i=if i<O v.items then gw (Y v.items i).expr ps else gw (Y v.E3 (i - O v.items)).expr ps:=by
 unfold pX jE AV;rw [D3,D3,A7 D,List.getElem_append];split
 .rw [if_pos M,<- A7,DU M]
 .have h1:¬ i<O v.items:=M
  rw [if_neg h1,<- A7,DU D];simp
def Lw {v:Vw}{L R:List C8}{q:C8}:q∈FE v L R↔q∈gw v.wh (L++R)\/q=Y L 0\/(D0 0 (O R)=W/\q=Y R 0)\/(∃j,j<O v.on/\(q=Y L (Y v.on j).1.toNat\/q=Y R (Y v.on j).2.toNat))\/((s7 v.kind 1||v.distinct)=W/\∃j,j<O v.items/\q∈gw (Y v.items j).expr (L++R)):=by
 have e1:q∈Qy v L R (O v.on)↔∃j,j<O v.on/\(q=Y L (Y v.on j).1.toNat\/q=Y R (Y v.on j).2.toNat):=by
  unfold Qy;rw [D3,List.mem_flatMap];constructor
  .rintro ⟨p,hp,h⟩
   obtain ⟨i,hi,rfl⟩:=E0 hp;exact ⟨i,hi,by simp_all [A7]⟩
  grind [E7]
 have e2:q∈(jE v (L++R) (O v.items)).flatten↔∃j,j<O v.items/\q∈gw (Y v.items j).expr (L++R):=by
  unfold jE;rw [D3,List.mem_flatten];constructor
  .rintro ⟨d,hd,h⟩
   obtain ⟨x,hx,rfl⟩:=List.mem_map.1 hd;obtain ⟨i,hi,rfl⟩:=E0 hx;exact ⟨i,hi,by simp_all [A7]⟩
  grind [E7]
 simp_all [FE]
def KA {s:Int}{v:Vw}{L R:List C8}{n:Nat}(hr:K7 v.right []= !D0 0 (O R))(h0:s7 v.kind 2=W->D0 0 (O R)=W)(hu:s7 v.kind 2=W->n=O L)(hn:s7 v.kind 2=F->n=O v.items+O v.E3)(f:D8):f∈mG s v L R↔f∈UZ s v n L R:=by
 have r1:∀k,f∈sC s L R k↔_:=fK (d3:=sC s L R) rfl (λ_=>rfl) f;have r2:∀ds cs k,f∈wU s ds cs k↔_:=λds cs=>fK (d3:=wU s ds cs) rfl (λ_=>rfl) f
 have r3:∀k,f∈Ox s L R k↔_:=fK (d3:=Ox s L R) rfl (λ_=>rfl) f;have r4:∀k,f∈JO v s n L R k↔_:=fK (d3:=JO v s n L R) rfl (λ_=>rfl) f;have r5:∀k,f∈Ca v s n (L++R) k↔_:=fK (d3:=Ca v s n (L++R)) rfl (λ_=>rfl) f;have r6:∀k,f∈KB v s (L++R) k↔_:=fK (d3:=KB v s (L++R)) rfl (λ_=>rfl) f;have rc:∀q,q∈IY v L R↔q=Y L 0\/(D0 0 (O R)=W/\q=Y R 0):=λq=>by
  grind [IY,D0]
 obtain ⟨p,q,d⟩:=f;unfold mG UZ;cases hk:s7 v.kind 2 with
 |true =>
  rw [if_pos rfl,if_pos rfl,G4,r1,r3,<- hu hk];simp only [G4,IE,HF,BA,rc,h0 hk,or_false]
  grind
 |false =>
  have hdl:O (pX v (L++R))=O v.items+O v.E3:=by simp [pX,jE,AV]
  rw [if_neg U,if_neg U,r2,hdl,<- hn hk];simp only [G4,r4,r5,r6,MS,IE,HF,BA,rc,Lw,Mx,K2,List.not_mem_nil,or_false];have hdn:∀i,i<n->(p∈Y (pX v (L++R)) i↔if i<O v.items then p∈gw (Y v.items i).expr (L++R) else p∈gw (Y v.E3 (i - O v.items)).expr (L++R)):=λi hi=>by
   grind [Lz]
  cases d
  .constructor
   .simp_all [C8]<;>grind
   grind
  .simp only [Bool.true_eq_false,and_false,or_false,false_or,and_true]
   constructor
   .grind
   .rintro (⟨i,hi,h,rfl⟩|⟨i,hi,h,rfl⟩)
    .grind
    .exact ⟨O v.items+i,M,(hdn _ M).2 (by grind),U⟩
def NM {c:p7}(hv:C4 c=W)(f:D8):f∈gK c↔f∈Zd c:=by
 unfold gK Zd;rw [G4,G4,fK (d3:=xS c (tE c) (kF c)) rfl (λ_=>rfl),fK (d3:=xT c) rfl (λ_=>rfl)];refine or_congr Iff.rfl (exists_congr λi=>and_congr_right λhi=>?_);obtain ⟨ok,_,hr,nu,un⟩:=EY hv hi;refine KA ?_ (λh=>?_) (λh=>un h) (λh=>nu h) f
 .cases h:K7 (Y c.views i).right [] with
  |true =>
   simp_all [kF,if_pos,s4]
  |false =>
   have hg:=Y0 hv ((M4 c (Y c.views i).right).toNat+1) (M4 c (Y c.views i).right).toNat V (by grind [p7.ns]);have e:O (kF c i)=O (M3 c (M4 c (Y c.views i).right).toNat):=by simp_all [kF,if_neg,uQ]
   grind [s4]
 .have:=ok.un h
  have:=ok.l0
  grind [s4]
attribute [local irreducible] Rx Ry Rn Ex Pf
theorem yX (n:Int):∀l:List Int,O (aq l n)<=O l+1
 |[]=>by simp [aq]
 |x::l=>by
  have:=yX n l;unfold aq;split
  .simp;omega
  .split<;>simp
theorem mO (e:List Q9):∀i,O (cN e i)<=i
 |0=>k9 _
 |i+1=>by
  have h1:=mO e i;unfold cN;split
  .have:=yX (Y e i).col (cN e i);omega
  .omega
def Pk {e:List Q9}{i:Nat}(h:s7 (Y e i).op 2=W):cN e (i+1)=aq (cN e i) (Y e i).col:=by simp_all [cN]
def Pj {e:List Q9}{i:Nat}(h:s7 (Y e i).op 2=F):cN e (i+1)=cN e i:=by simp [cN,h]
def Xt (e:List Q9)(he:O e<=800)(hv:U1 e=W\/e=[]):Pf A 168 [cH e] (.d (ints (cN e (O e)))):=by
 have p1:=Sn e V;refine Pf.gr 3 ?_;refine Ex.J1 (λk T H=>∃(i:Nat) (w2:c7),T=[cH e,.any,w2,.d (Z i)]/\H=[]/\SM w2 (cN e i)/\i+k=O e) ?_ (k:=O e) ⟨0,_,rfl,rfl,.inr rfl,U⟩;rintro k _ _ ⟨i,w2,rfl,rfl,hw,hk⟩;have kD:=hw.as;refine Ex.seq ?_;refine tc (D0 i (O e)&&U1 e) p1 (λh2=>?_) (λh2=>?_)
 .simp only [c9] at h2
  have h3:=A5 h2.1;refine gr ?_;refine tb (s7 (Y e i).op 2) (λh4=>?_) (λh4=>?_)
  .have hl:=mO e i
   obtain ⟨w5,Mt,XS⟩:=YG (cN e i) (Y e i).col V;rw [<- Pk h4] at Mt
   rcases Mt with rfl|rfl
   .repeat' (first|refine qX kD ?_|refine cl (XS) ?_|refine gx ?_|fail)
    exact kk ⟨i+1,_,rfl,rfl,.inl rfl,V⟩
   .repeat' (first|refine qX kD ?_|refine cl (XS) ?_|refine gx ?_|fail)
    exact kk ⟨i+1,_,rfl,rfl,.inr rfl,V⟩
  .refine gr ?_
   exact kk ⟨i+1,_,rfl,rfl,by rw [Pj h4];exact hw,V⟩
 .have h4:i=O e:=by
   simp only [Bool.and_eq_false_iff] at h2
   rcases hv with hv|rfl
   .rcases h2 with h2|h2
    .have:=A9 h2;omega
    .rw [hv] at h2;cases h2
   .simp at hk ⊢;omega
  subst h4
  repeat' (first|refine qX kD ?_|refine gx ?_|fail)
  exact ⟨_,rfl,rfl⟩
def MO (e:List Q9)(ps:List C8)(he:O e<=800)(hv:U1 e=W\/e=[])(hp:O ps<=10000)(hc:∀x,x∈eF e->0<=x/\x<O ps):Pf A 109 [cH e,.d (E4 ps)] (.d (E4 (kN e ps))):=by
 have p1:=Xt e he hv;have hcl:=mO e (O e);have hc:∀x,x∈cN e (O e)->0<=x/\x<O ps:=λx hx=>hc x (by simpa only [eF,jj,jk,rE] using hx)
 unfold kN;obtain ⟨cs,hcs⟩:∃cs,cN e (O e)=cs:=⟨_,rfl⟩;rw [hcs] at p1 hcl hc ⊢;refine Pf.go 4 ?_;refine gc p1 ?_;refine Ex.J1 (λk T H=>∃(i:Nat) (acc:List C8),T=[.any,.d (E4 ps),.any,A8 2 E8 acc,.d (ints cs),.d (Z i)]/\H=[]/\i+k=O cs/\acc=(cs.take i).map λx=>Y ps x.toNat) ?_ (k:=O cs) ⟨0,[],rfl,rfl,U,U⟩;rintro k _ _ ⟨i,acc,rfl,rfl,hk,hacc⟩;have uj:O acc<=10000:=by rw [hacc];simp;omega
 refine Ex.seq ?_;refine tb (D0 i (O cs)) (λh2=>?_) (λh2=>?_)
 .have h3:=A5 h2
  have h4:=hc _ (E7 (l:=cs) (i:=i) V)
  repeat' (first|refine oN (enc:=E8) (Y ps (Y cs i).toNat) ?_|refine yY (ys:=[Y ps (Y cs i).toNat]) (h2:=?_)|refine gx ?_|fail)
  exact kk ⟨i+1,acc++[Y ps (Y cs i).toNat],rfl,rfl,V,by rw [hacc,D2 V];simp⟩
 .have h3:=A9 h2
  obtain rfl:i=O cs:=V
  refine gr ?_;exact ⟨_,rfl,by rw [hacc];simp [j4,E4,x3]⟩
def Qe (c:p7)(hs:D9 c)(s:Int)(h:R5 c s=W)(hl:O (M3 c s.toNat)<=2000):Pf A 48 [cat c,.d (Z s)] (.d (E4 (yg s (O (M3 c s.toNat))))):=by
 have p2:=It c hs _ h;obtain ⟨ty,nM⟩:∃ty,M3 c s.toNat=ty:=⟨_,rfl⟩;rw [nM] at p2 hl ⊢;refine Pf.gr 4 ?_;refine Ex.J1 (λk T H=>∃(i:Nat) (acc:List C8),T=[.any,.d (Z s),.ptr 0 0,.any,A8 2 E8 acc,.d (Z i)]/\H=[.cells (c.enc.map .d)]/\i+k=O ty/\acc=yg s i) ?_ (k:=O ty) ⟨0,[],rfl,rfl,U,rfl⟩;rintro k _ _ ⟨i,acc,rfl,rfl,hk,hacc⟩;have uj:O acc<=10000:=by rw [hacc,de];omega
 refine Ex.seq ?_;refine tc (D0 i (O ty)) p2 (λh2=>?_) (λh2=>?_)
 .have h3:=A5 h2
  repeat' (first|refine mJ (cs:=(E8 (s,(i:Int))).map .d) ?_|refine oN (enc:=E8) (s,(i:Int)) ?_|refine yY (ys:=[(s,(i:Int))]) (h2:=?_)|refine gx ?_|fail)
  exact kk ⟨i+1,acc++[(s,(i:Int))],rfl,rfl,V,by rw [hacc];rfl⟩
 .have h3:=A9 h2
  obtain rfl:i=O ty:=V
  refine gr ?_;exact ⟨_,rfl,by rw [hacc];simp [j4,E4,x3]⟩
theorem fO (ps qs:List C8)(d:Bool):O (nY ps qs d)=O ps * O qs:=by
 induction ps with
 |nil=>simp [nY]
 |cons p ps ih =>
  grind [nY,j9,A3,n9,Nat.succ_mul]
def Oo (ps qs:List C8)(d:Bool){i:Nat}(h:i<O ps):nY (ps.take (i+1)) qs d=nY (ps.take i) qs d++qs.map λq=>⟨Y ps i,q,d⟩:=by
 simp_all [nY,D2]
set_option maxHeartbeats 8000000 in
def wE (l:List D8)(ps qs:List C8)(d:Bool)(hl:O l+O ps * O qs<=100000)(hp:O ps<=1000)(hq:O qs<=1000):Pf A 108 [.d (cR l),.d (E4 ps),.d (E4 qs),.d (.bool d)] (.d (cR (K3 l (nY ps qs d)))):=by
 refine Pf.gr 3 ?_;refine Ex.gV (λk T H=>∃(i:Nat) (w0 w4 w6:c7),T=[w0,.d (E4 ps),.d (E4 qs),.d (.bool d),w4,.d (Z i),w6]/\H=[]/\OG w0 (K3 l (nY (ps.take i) qs d))/\i+k=O ps) M ?_ (k:=O ps) ⟨0,_,_,_,rfl,rfl,.inl rfl,U⟩;rintro k _ _ ⟨i,w0,w4,w6,rfl,rfl,hw,hk⟩;refine Ex.nT ?_;refine Ex.seq ?_;refine tl i (O ps) (λh3=>?_) (λh3=>?_)
 .have e1:=Oo ps qs d (i:=i) V
  refine gr ?_;refine Ex.gV (λk T H=>∃(j:Nat) (w0 w4:c7),T=[w0,.d (E4 ps),.d (E4 qs),.d (.bool d),w4,.d (Z i),.d (Z j)]/\H=[]/\OG w0 (K3 (K3 l (nY (ps.take i) qs d)) ((qs.take j).map λq=>⟨Y ps i,q,d⟩))/\j+k=O qs) M ?_ (k:=O qs) ⟨0,_,_,rfl,rfl,hw,U⟩;clear hw;rintro m _ _ ⟨j,w0,w4,rfl,rfl,hw,hm⟩;refine Ex.nT ?_;refine Ex.seq ?_;refine tl j (O qs) (λg3=>?_) (λg3=>?_)
  .obtain ⟨L,hL⟩:∃L,K3 (K3 l (nY (ps.take i) qs d)) ((qs.take j).map λq=>⟨Y ps i,q,d⟩)=L:=⟨_,rfl⟩
   have hLl:O L<=100000:=by
    have a1:=W0 ((qs.take j).map λq=>(⟨Y ps i,q,d⟩:D8)) (K3 l (nY (ps.take i) qs d));have a2:=W0 (nY (ps.take i) qs d) l;rw [fO] at a2;rw [hL] at a1;have a3:(O (ps.take i)+1) * O qs<=O ps * O qs:=F8 _ D
    grind
   have hLn:K3 (K3 l (nY (ps.take i) qs d)) ((qs.take (j+1)).map λq=>⟨Y ps i,q,d⟩)=fI ⟨Y ps i,Y qs j,d⟩ L:=by
    rw [D2 V,List.map_append,U3,hL];rfl
   rw [hL] at hw;have kD:=hw.as;obtain ⟨w5,Mt,XQ⟩:=Xv L ⟨Y ps i,Y qs j,d⟩ hLl;rw [<- hLn] at Mt
   rcases Mt with rfl|rfl
   .repeat' (first|refine qX kD ?_|refine mJ (cs:=(D8.enc ⟨Y ps i,Y qs j,d⟩).map .d) ?_|refine cl (XQ) ?_|refine gx ?_|fail)
    exact ⟨m - 1,V,j+1,_,_,rfl,rfl,.inl rfl,V⟩
   .repeat' (first|refine qX kD ?_|refine mJ (cs:=(D8.enc ⟨Y ps i,Y qs j,d⟩).map .d) ?_|refine cl (XQ) ?_|refine gx ?_|fail)
    exact ⟨m - 1,V,j+1,_,_,rfl,rfl,.inr rfl,V⟩
  .obtain rfl:j=O qs:=V
   rw [D3,<- U3,<- e1] at hw;refine gr ?_;exact kk ⟨i+1,_,_,_,rfl,rfl,hw,V⟩
 .obtain rfl:i=O ps:=V
  rw [D3] at hw;have kD:=hw.as
  repeat' (first|refine qX kD ?_|refine gx ?_|fail)
  exact ⟨_,rfl,rfl⟩
theorem jb (e:List Q9)(ps:List C8):O (kN e ps)<=O e:=by
 simp_all [mO,kN]
theorem BV (s:Int)(L R:List C8):∀k,O (Ox s L R k)=2 * k
 |0=>rfl
 |k+1=>by
  have:=BV s L R k
  grind [Ox,j9,fO,n9,y4]
theorem Bw (v:Vw)(s:Int)(n:Nat)(L R:List C8)(hn:n<=8):∀k,O (JO v s n L R k)<=16 * k
 |0=>by simp [JO]
 |k+1=>by
  have:=Bw v s n L R hn k
  grind [JO,j9,fO,de,n9,y4]
theorem Bo (v:Vw)(s:Int)(n:Nat)(ps:List C8)(hn:n<=8)(h:∀i,i<O v.items->O (Y v.items i).expr<=64):∀k,k<=O v.items->O (Ca v s n ps k)<=576 * k
 |0,_=>by simp [Ca]
 |k+1,hk=>by
  have h1:=Bo v s n ps hn h k V;have h2:=jb (Y v.items k).expr ps;have h3:=h k V;have h4:O (kN (Y v.items k).expr ps) * n<=64 * 8:=Nat.mul_le_mul V hn
  grind [Ca,j9,fO,n9,y4,de]
theorem AB (v:Vw)(s:Int)(ps:List C8)(h:∀i,i<O v.E3->O (Y v.E3 i).expr<=64):∀k,k<=O v.E3->O (KB v s ps k)<=64 * k
 |0,_=>by simp [KB]
 |k+1,hk=>by
  have h1:=AB v s ps h k V
  grind [jb,Y,KB,j9,fO,n9,y4]
def Hr (v:Vw)(L R:List C8):O (IY v L R)<=2:=by
 grind [IY]
def Rq {c:p7}(hv:C4 c=W){i:Nat}(hi:i<O c.views):O (UZ ((O c.j7:Int)+(i:Int)) (Y c.views i) (O (M3 c (O c.j7+i))) (tE c i) (kF c i))<=6000:=by
 have aO:p7.ns c=O c.j7+O c.views:=rfl;obtain ⟨ok,_,_,_,_⟩:=EY hv hi;have hg:=Y0 hv (O c.j7+i+1) (O c.j7+i) V V;obtain ⟨n,hn⟩:∃n,O (M3 c (O c.j7+i))=n:=⟨_,rfl⟩;rw [hn] at hg ⊢;obtain ⟨l0,l8,r8,o4,XE,on,wh,it,ag,Zs⟩:=ok;have h1:O (IY (Y c.views i) (tE c i) (kF c i)) * n<=2 * 8:=Nat.mul_le_mul (Hr _ _ _) hg.2.1;have h2:=Bw (Y c.views i) ((O c.j7:Int)+(i:Int)) n (tE c i) (kF c i) hg.2.1 (O (Y c.views i).on);have h3:=Bo (Y c.views i) ((O c.j7:Int)+(i:Int)) n (tE c i++kF c i) hg.2.1 (λj hj=>(it j hj).len) _ (k9 _);have h4:=AB (Y c.views i) ((O c.j7:Int)+(i:Int)) (tE c i++kF c i) (λj hj=>(ag j hj).len) _ (k9 _);have h5:=jb (Y c.views i).wh (tE c i++kF c i);have h6:O (kN (Y c.views i).wh (tE c i++kF c i)) * n<=64 * 8:=Nat.mul_le_mul (by have:=wh.len;omega) hg.2.1
 grind [BV,tE,kF,UZ,j9,fO,de]
def JT (s:Int){n i:Nat}(h:i<n):((yg s n).take (i+1)).drop i=[(s,(i:Int))]:=by
 grind [de,D2,n5,Bu]
set_option maxHeartbeats 32000000 in
def at5 (c:p7)(hs:D9 c)(hv:C4 c=W)(l:List D8)(i:Nat)(hi:i<O c.views)(hl:O l<=80000) :
  Pf A 51 [.d (cR l),cat c,.d (Z ((O c.j7:Int)+(i:Int)))] (.d (cR (K3 l (UZ ((O c.j7:Int)+(i:Int)) (Y c.views i) (O (M3 c (O c.j7+i))) (tE c i) (kF c i))))):=by
 have aO:p7.ns c=O c.j7+O c.views:=rfl;obtain ⟨f0,f1,_⟩:=id hs.sm.dP;obtain ⟨ok,⟨l1,l2,l3⟩,hr,nu,un⟩:=EY hv hi;have hg:=Y0 hv (O c.j7+i+1) (O c.j7+i) V V;have hst:R5 c ((O c.j7:Int)+(i:Int))=W:=by simp only [R5,hv,Bool.true_and,r7,s4,c9,decide_eq_true_eq];omega
 have e0:((O c.j7:Int)+(i:Int)).toNat=O c.j7+i:=V
 have pA:=Qe c hs _ hst (by rw [e0];omega);rw [e0] at pA;have ZY:=JS c hs (Y c.views i).left;have ZZ:=JS c hs (Y c.views i).right;rw [FO] at ZY ZZ;have gl:=Y0 hv ((M4 c (Y c.views i).left).toNat+1) (M4 c (Y c.views i).left).toNat V V;have pL:Pf A 48 [cat c,.d (Z (M4 c (Y c.views i).left))] (.d (E4 (tE c i))):=Qe c hs _ l1 V;have pR:K7 (Y c.views i).right []=F->Pf A 48 [cat c,.d (Z (M4 c (Y c.views i).right))] (.d (E4 (kF c i)))/\0<O (kF c i):=λh=>by
  obtain ⟨r1,r2,r3⟩:=hr h;have:=Y0 hv ((M4 c (Y c.views i).right).toNat+1) (M4 c (Y c.views i).right).toNat V V;have e:kF c i=Uw c (Y c.views i).right:=by unfold kF;rw [if_neg (by simp [h])]
  rw [e,uQ];exact ⟨Qe c hs _ r1 V,V⟩
 have RX:K7 (Y c.views i).right []=W->kF c i=[]:=λh=>by unfold kF;rw [if_pos h]
 obtain ⟨l0,l8,r8,o4,XE,on,wh,it,ag,Zs⟩:=ok;obtain ⟨v,RZ⟩:∃v,Y c.views i=v:=⟨_,rfl⟩;obtain ⟨L,hL⟩:∃L,tE c i=L:=⟨_,rfl⟩;obtain ⟨R,hR⟩:∃R,kF c i=R:=⟨_,rfl⟩;obtain ⟨n,hn⟩:∃n,O (M3 c (O c.j7+i))=n:=⟨_,rfl⟩;obtain ⟨s,KL⟩:∃s,(O c.j7:Int)+(i:Int)=s:=⟨_,rfl⟩;rw [RZ] at ZY ZZ pL pR RX o4 XE on wh it ag Zs nu un;rw [hL] at pL l0 l8 on wh it ag Zs un;rw [hR] at pR RX r8 on wh it ag Zs;rw [hn] at pA hg nu un;rw [KL] at pA;rw [RZ,hL,hR,hn,KL];clear hr l1 l2 l3 gl hst e0;refine Pf.run [.d (cR l),cat c,.d (Z s),.any,.any,.any,.any,.any,.any,.any,.any,.any,.any,.any,.any,.any] rfl rfl rfl rfl ?_
 repeat' (first|refine VB (e:=s - (O c.j7:Int)) i (h2:=?_)|refine gx ?_|fail)
 rw [RZ];refine gc (And.intro pA (And.intro ZY pL)) ?_;have ht1:L.take 1=[Y L 0]:=by
  cases L with
  |nil=>simp at l0
  |cons a q=>simp [Y]
 have uj:=de s n;obtain ⟨Q,hQ⟩:∃Q,yg s n=Q:=⟨_,rfl⟩;have oF:∀k,k<n->(Q.take (k+1)).drop k=[(s,(k:Int))]:=λk hk=>by rw [<- hQ];exact JT s hk
 rw [hQ] at uj;rw [hQ];refine Ex.xG (λst=>∃w8 w9 kr:c7,w8.I7= .d (E4 (L++R))/\w9.I7= .d (E4 (IY v L R))/\kr.I7= .d (E4 R)/\st=⟨[.d (cR l),cat c,.d (Z s),.ptr 0 0,.own 5 0 [],.ptr 1 0,.d (E4 Q),.d (E4 L),w8,w9,kr,.any,.any,.any,.any,.any],[.cells (c.enc.map .d),.cells (v.enc.map .d)]⟩) ?_ ?_
 .skip
  refine tb (!K7 v.right []) (λh=>?_) (λh=>?_)
  .have h' :K7 v.right []=F:=by simpa using h
   obtain ⟨pR,hR0⟩:=pR h'
   repeat' (first|refine cl (ZZ) ?_|refine cl (pR) ?_|refine Lg [] ?_|refine Vi (enc:=E8) (ys:=L) (h2:=?_)|refine Fq (enc:=E8) (xs:=L) (ys:=R) (h2:=?_)|refine Vi (enc:=E8) (ys:=L.take 1) (h2:=?_)|refine Xo (h2:=?_)|refine oN (enc:=E8) (Y R 0) ?_|refine Fq (enc:=E8) (xs:=L.take 1) (ys:=[Y R 0]) (h2:=?_)|refine gx ?_|fail)
   exact ⟨_,_,_,rfl,by rw [ht1];unfold IY;rw [h'];rfl,rfl,rfl⟩
  .have h' :K7 v.right []=W:=by simpa using h
   refine gr ?_;have e:=RX h';exact ⟨_,_,_,by rw [e,List.append_nil];rfl,by rw [ht1];unfold IY;rw [h'];rfl,by rw [e];rfl,rfl⟩
 rintro _ ⟨w8,w9,kr,h8,h9,OJ,rfl⟩;have hcl:=Hr v L R;have m1:O (IY v L R) * O Q<=2 * 8:=Nat.mul_le_mul hcl V;have p1:=wE l (IY v L R) Q F V V V;have a1:=W0 (nY (IY v L R) Q F) l;rw [fO] at a1;unfold UZ;rw [U3,hQ]
 repeat' (first|refine qX h9 ?_|refine cl (p1) ?_|refine gx ?_|fail)
 obtain ⟨l1,Jr⟩:∃l1,K3 l (nY (IY v L R) Q F)=l1:=⟨_,rfl⟩;rw [Jr] at a1;rw [Jr];have hL2:O l1<=80016:=V
 clear p1 m1 a1 Jr h9 pL ZY ZZ pA;refine tb (s7 v.kind 2) (λhk=>?_) (λhk=>?_)
 .have hnL:=un hk
  have hRl:=Zs hk;rw [if_pos hk];refine gr ?_;refine Ex.gV (λq T H=>∃(k:Nat) (w1 w2 w3 w4 w5 w8 w9 uz uA EZ OB:c7),T=[.d (cR (K3 l1 (Ox s L R k))),w1,w2,w3,w4,w5,.d (E4 Q),.d (E4 L),w8,w9,kr,.d (Z k),uz,uA,EZ,OB]/\H=[.cells (c.enc.map .d),.cells (v.enc.map .d)]/\k+q=n) (by rintro _ _ _ ⟨_,_,_,_,_,_,_,_,_,_,_,_,_,rfl,_⟩;rfl) ?_ (k:=n) ⟨0,_,_,_,_,_,_,_,_,_,_,_,rfl,rfl,U⟩;rintro q _ _ ⟨k,w1,w2,w3,w4,w5,w8,w9,uz,uA,EZ,OB,rfl,rfl,Vr⟩;refine Ex.nT ?_;refine Ex.seq ?_;refine tb (D0 k (O Q)) (λg1=>?_) (λg1=>?_)
  .have g2:=A5 g1
   have a2:=W0 (Ox s L R k) l1;rw [BV] at a2;have e1:=oF k V;have p2:Pf A 108 [.d (cR (K3 l1 (Ox s L R k))),.d (E4 [Y L k,Y R k]),.d (E4 ((Q.take (k+1)).drop k)),.d (.bool W)] (.d (cR (K3 l1 (Ox s L R (k+1))))):=by
    rw [e1,Ox,U3];exact wE _ [Y L k,Y R k] [(s,(k:Int))] W D U U
   repeat' (first|refine qX OJ ?_|refine Lg (E8 (Y L k)++E8 (Y R k)) ?_|refine cl (p2) ?_|refine gx ?_|fail)
   exact ⟨q - 1,V,k+1,_,_,_,_,_,_,_,_,_,_,_,rfl,rfl,V⟩
  .have g2:=A9 g1
   obtain rfl:k=n:=V
   refine gr ?_;exact ⟨_,rfl,rfl⟩
 have hnc:=nu hk;rw [if_neg (by simp [hk]),U3,U3,U3];have hLR:O (L++R)<=16:=D
 refine gr ?_;refine Ex.gV (λq T H=>∃(k:Nat) (w1 w2 w3 w4 w9 uy uA EZ OB:c7),T=[.d (cR (K3 l1 (JO v s n L R k))),w1,w2,w3,w4,.ptr 1 0,.d (E4 Q),.d (E4 L),w8,w9,kr,uy,.d (Z k),uA,EZ,OB]/\H=[.cells (c.enc.map .d),.cells (v.enc.map .d)]/\k+q=O v.on) (by rintro _ _ _ ⟨_,_,_,_,_,_,_,_,_,_,_,rfl,_⟩;rfl) ?_ (k:=O v.on) ⟨0,_,_,_,_,_,_,_,_,_,rfl,rfl,U⟩;rintro q _ _ ⟨k,w1,w2,w3,w4,w9,uy,uA,EZ,OB,rfl,rfl,Vr⟩;have a2:=W0 (JO v s n L R k) l1;have a3:=Bw v s n L R hg.2.1 k;refine Ex.nT ?_;refine Ex.seq ?_;refine tb (D0 k (O v.on)) (λg1=>?_) (λg1=>?_)
 .have g2:=A5 g1
  obtain ⟨q1,q2,q3,q4⟩:=on k V;have p2:Pf A 108 [.d (cR (K3 l1 (JO v s n L R k))),.d (E4 [Y L (Y v.on k).1.toNat,Y R (Y v.on k).2.toNat]),.d (E4 Q),.d (.bool F)] (.d (cR (K3 l1 (JO v s n L R (k+1))))):=by
   rw [JO,U3,hQ];exact wE _ [Y L (Y v.on k).1.toNat,Y R (Y v.on k).2.toNat] Q F D U V
  repeat' (first|refine qX OJ ?_|refine Lg (E8 (Y L (Y v.on k).1.toNat)++E8 (Y R (Y v.on k).2.toNat)) ?_|refine cl (p2) ?_|refine gx ?_|fail)
  exact ⟨q - 1,V,k+1,_,_,_,_,_,_,_,_,_,rfl,rfl,V⟩
 have g2:=A9 g1;obtain rfl:k=O v.on:=V
 obtain ⟨l2,iZ⟩:∃l2,K3 l1 (JO v s n L R (O v.on))=l2:=⟨_,rfl⟩;rw [iZ] at a2;rw [iZ];have hL3:O l2<=80144:=V
 clear g1 g2 a2 a3 Vr;have i1:=jb v.wh (L++R);have i2:=wh.len;have m2:O (kN v.wh (L++R)) * O Q<=64 * 8:=Nat.mul_le_mul V V;have p3:=MO v.wh (L++R) V wh.ok V wh.col;have p4:=wE l2 (kN v.wh (L++R)) Q F V V V;have a4:=W0 (nY (kN v.wh (L++R)) Q F) l2;rw [fO] at a4
 repeat' (first|refine qX h8 ?_|refine cl (p3) ?_|refine cl (p4) ?_|refine gx ?_|fail)
 obtain ⟨l3,WM⟩:∃l3,K3 l2 (nY (kN v.wh (L++R)) Q F)=l3:=⟨_,rfl⟩;rw [WM] at a4;rw [WM];have hL4:O l3<=80656:=V
 clear p3 p4 a4 m2 i1 i2;refine Ex.gV (λq T H=>∃(k:Nat) (w1 w2 w3 w4 w7 w9 kr uy uz EZ OB:c7),T=[.d (cR (K3 l3 (Ca v s n (L++R) k))),w1,w2,w3,w4,.ptr 1 0,.d (E4 Q),w7,w8,w9,kr,uy,uz,.d (Z k),EZ,OB]/\H=[.cells (c.enc.map .d),.cells (v.enc.map .d)]/\k+q=O v.items) (by rintro _ _ _ ⟨_,_,_,_,_,_,_,_,_,_,_,_,_,rfl,_⟩;rfl) ?_ (k:=O v.items) ⟨0,_,_,_,_,_,_,_,_,_,_,_,rfl,rfl,U⟩;rintro q _ _ ⟨k,w1,w2,w3,w4,w7,w9,kr,uy,uz,EZ,OB,rfl,rfl,Vr⟩;have a2:=W0 (Ca v s n (L++R) k) l3;have a3:=Bo v s n (L++R) hg.2.1 (λj hj=>(it j hj).len) k V;refine Ex.nT ?_;refine Ex.seq ?_;refine tb (D0 k (O v.items)) (λg1=>?_) (λg1=>?_)
 .have g2:=A5 g1
  obtain ⟨e1,e2,e3⟩:=it k V;have i1:=jb (Y v.items k).expr (L++R);have p3:=MO (Y v.items k).expr (L++R) V e2 V e3;have e4:=oF k V;obtain ⟨X,hX⟩:∃X,kN (Y v.items k).expr (L++R)=X:=⟨_,rfl⟩;rw [hX] at p3 i1;have m2:O X * O Q<=64 * 8:=Nat.mul_le_mul V V;have p4:Pf A 108 [.d (cR (K3 l3 (Ca v s n (L++R) k))),.d (E4 X),.d (E4 ((Q.take (k+1)).drop k)),.d (.bool W)] (.d (cR (K3 (K3 l3 (Ca v s n (L++R) k)) (nY X [(s,(k:Int))] W)))):=by
   rw [e4];exact wE _ X [(s,(k:Int))] W D V U
  have a4:=W0 (nY X [(s,(k:Int))] W) (K3 l3 (Ca v s n (L++R) k));rw [fO] at a4;simp only [n9,y4] at a4;have p5:=wE (K3 (K3 l3 (Ca v s n (L++R) k)) (nY X [(s,(k:Int))] W)) X Q F V V V;have e5:K3 l3 (Ca v s n (L++R) (k+1))=if v.distinct||s7 v.kind 1 then K3 (K3 (K3 l3 (Ca v s n (L++R) k)) (nY X [(s,(k:Int))] W)) (nY X Q F) else K3 (K3 l3 (Ca v s n (L++R) k)) (nY X [(s,(k:Int))] W):=by
   rw [Ca,U3,U3,hX,hQ];split<;>rfl
  repeat' (first|refine qX h8 ?_|refine cl (p3) ?_|refine cl (p4) ?_|refine gx ?_|fail)
  refine tb (v.distinct||s7 v.kind 1) (λg3=>?_) (λg3=>?_)
  .rw [g3,if_pos rfl] at e5
   refine gc p5 ?_;exact ⟨q - 1,V,k+1,_,_,_,_,_,_,_,_,_,_,_,by rw [e5];rfl,rfl,V⟩
  .rw [g3,if_neg U] at e5
   refine gr ?_;exact ⟨q - 1,V,k+1,_,_,_,_,_,_,_,_,_,_,_,by rw [e5];rfl,rfl,V⟩
 have g2:=A9 g1;obtain rfl:k=O v.items:=V
 obtain ⟨l4,hl4⟩:∃l4,K3 l3 (Ca v s n (L++R) (O v.items))=l4:=⟨_,rfl⟩;rw [hl4] at a2;rw [hl4];have hL5:O l4<=85264:=V
 clear g1 g2 a2 a3 Vr;refine gr ?_;refine Ex.gV (λq T H=>∃(k:Nat) (w1 w2 w3 w4 w7 w9 kr uy uz uA EZ:c7),T=[.d (cR (K3 l4 (KB v s (L++R) k))),w1,w2,w3,w4,.ptr 1 0,.d (E4 Q),w7,w8,w9,kr,uy,uz,uA,EZ,.d (Z k)]/\H=[.cells (c.enc.map .d),.cells (v.enc.map .d)]/\k+q=O v.E3) (by rintro _ _ _ ⟨_,_,_,_,_,_,_,_,_,_,_,_,_,rfl,_⟩;rfl) ?_ (k:=O v.E3) ⟨0,_,_,_,_,_,_,_,_,_,_,_,rfl,rfl,U⟩;rintro q _ _ ⟨k,w1,w2,w3,w4,w7,w9,kr,uy,uz,uA,EZ,rfl,rfl,Vr⟩;have a2:=W0 (KB v s (L++R) k) l4;have a3:=AB v s (L++R) (λj hj=>(ag j hj).len) k V;refine Ex.nT ?_;refine Ex.seq ?_;refine tb (D0 k (O v.E3)) (λg1=>?_) (λg1=>?_)
 .have g2:=A5 g1
  obtain ⟨e1,e2,e3⟩:=ag k V;have i1:=jb (Y v.E3 k).expr (L++R);have p3:=MO (Y v.E3 k).expr (L++R) V e2 V e3;have e4:=oF (O v.items+k) V;have p4:Pf A 108 [.d (cR (K3 l4 (KB v s (L++R) k))),.d (E4 (kN (Y v.E3 k).expr (L++R))),.d (E4 ((Q.take (O v.items+k+1)).drop (O v.items+k))),.d (.bool W)] (.d (cR (K3 l4 (KB v s (L++R) (k+1))))):=by
   rw [e4,KB,U3,Int.natCast_add];exact wE _ _ [(s,(O v.items:Int)+(k:Int))] W D V U
  repeat' (first|refine qX h8 ?_|refine cl (p3) ?_|refine cl (p4) ?_|refine gx ?_|fail)
  exact ⟨q - 1,V,k+1,_,_,_,_,_,_,_,_,_,_,_,rfl,rfl,V⟩
 have g2:=A9 g1;obtain rfl:k=O v.E3:=V
 refine gr ?_;exact ⟨_,rfl,rfl⟩
theorem Ef {o4:List Q1}{x:Int}:∀{k},x∈lU o4 k->0<=x/\x<k
 |0,h=>by simp [lU] at h
 |k+1,h=>by
  rw [lU,G4] at h
  rcases h with h|h
  .have:=Ef h;omega
  grind
def Kz {c:p7}(hv:C4 c=W):O c.j7<=8/\O c.views<=12:=by
 have h:=(W6 hv).2.1;unfold tooMany at h;simp [B2] at h;have h1:=A9 h.1.1;have h2:=A9 h.1.2;omega
set_option maxHeartbeats 16000000 in
def Xu (c:p7)(hs:D9 c)(hv:C4 c=W):Pf A 18 [cat c] (.d (cR (dN c))):=by
 have XM:=yR c hs;rw [hv] at XM;have h8:=Kz hv;have aO:p7.ns c=O c.j7+O c.views:=rfl;have ZD:∀i,i<O c.j7->O (Y c.j7 i).o4<=8:=λi hi=>(FF c hv hi).1
 refine Pf.gr 9 ?_;refine tc (!true) XM (λh1=>?_) (λh1=>?_)
 .cases h1
 refine gr ?_;refine Ex.Y1 (λk T H=>∃(t:Nat) (w0 w2 w3 w5 w6 w7 w8 w9:c7),T=[w0,.ptr 0 0,w2,w3,.d (Z t),w5,w6,w7,w8,w9]/\H=[.cells (c.enc.map .d)]/\OG w3 (K3 [] (iG c t))/\t+k=O c.j7/\O (iG c t)<=t * 64) ?_ (k:=O c.j7) ⟨0,_,_,_,_,_,_,_,_,rfl,rfl,.inr rfl,U,by simp [iG]⟩;rintro k _ _ ⟨t,w0,w2,w3,w5,w6,w7,w8,w9,rfl,rfl,hw,hk,PS⟩;refine Ex.nT ?_;refine Ex.seq ?_;refine tb (D0 t (O c.j7)) (λh2=>?_) (λh2=>?_)
 .have h3:=A5 h2
  have hst:R5 c (t:Int)=W:=by simp only [R5,hv,Bool.true_and,r7,s4,c9,decide_eq_true_eq];omega
  have e1:D0 (t:Int) 0=F:=by simp [s4]
  have e2:U4 (O c.j7:Int) t=F:=by simp [r7];omega
  have hit:je c t=W:=by rw [rQ,e1,e2,hv];rfl
  have hcl:=ZD t V;have WC:O (M3 c t)=O (Y c.j7 t).o4:=by rw [pV c V];simp
  have pA:=Qe c hs t hst (by rw [G6];omega);rw [G6,WC] at pA;have pP:=YD c hs t hit;have HT:∀x∈gG c t,0<=x/\x<O (Y c.j7 t).o4:=λx hx=>by
   unfold gG at hx;rw [G6] at hx;exact Ef hx
  have nL:O (gG c t)<=8:=by have:=jo (Y c.j7 t).o4 (O (Y c.j7 t).o4);unfold gG;rw [G6];omega
  have eT:iG c (t+1)=iG c t++(if s7 (Y c.j7 t).erase 1 then dZ t (O (Y c.j7 t).o4) (gG c t) else []):=rfl;obtain ⟨n,hn⟩:∃n,O (Y c.j7 t).o4=n:=⟨_,rfl⟩;obtain ⟨P,hP⟩:∃P,gG c t=P:=⟨_,rfl⟩;obtain ⟨d7,hF⟩:∃d7,iG c t=d7:=⟨_,rfl⟩;rw [hn,hP,hF] at eT;rw [hn] at pA HT hcl;rw [hP] at pP HT nL;rw [hF] at hw PS;have uj:=de (t:Int) n;have hel:∀k:Nat,k<n->Y (yg (t:Int) n) k=((t:Int),(k:Int)):=λk hk=>Bu hk
  obtain ⟨Q,hQ⟩:∃Q,yg (t:Int) n=Q:=⟨_,rfl⟩;rw [hQ] at pA uj hel;have hq:∀k,O (dZ t n (P.take k))<=64:=λk=>by
   have h1:=mB t n (P.take k);have h2:O (P.take k) * n<=8 * 8:=Nat.mul_le_mul D hcl;omega
  refine gc (And.intro pA pP) ?_;refine Ex.Y1 (λk T H=>∃(i:Nat) (w0 w2 w3 w8 w9:c7),T=[w0,.ptr 0 0,w2,w3,.d (Z t),.d (E4 Q),.d (ints P),.d (Z i),w8,w9]/\H=[.cells (c.enc.map .d)]/\OG w3 (K3 [] (d7++dZ t n (P.take i)))/\i+k=O P/\(s7 (Y c.j7 t).erase 1=F->i=0)) ?_ (k:=O P) ⟨0,_,_,_,_,_,rfl,rfl,by simpa [dZ] using hw,U,λ_=>rfl⟩;clear hw;rintro m _ _ ⟨i,w0,w2,w3,w8,w9,rfl,rfl,hw,hm,hi0⟩;refine Ex.nT ?_;refine Ex.seq ?_;refine tb (D0 i (O P)&&s7 (Y c.j7 t).erase 1) (λg2=>?_) (λg2=>?_)
  .simp only [c9] at g2
   have g3:=A5 g2.1;have hpi:=HT _ (E7 (l:=P) (i:=i) V);have e6:dZ t n (P.take (i+1))=dZ t n (P.take i)++kg t (Y P i) n:=by
    unfold dZ;rw [D2 V];simp
   have hqi:=hq i;have eA:Y Q (Y P i).toNat=((t:Int),Y P i):=by
    rw [hel _ V,Int.toNat_of_nonneg hpi.1]
   refine gr ?_;refine Ex.Y1 (λk T H=>∃(j:Nat) (w0 w2 w3 w9:c7),T=[w0,.ptr 0 0,w2,w3,.d (Z t),.d (E4 Q),.d (ints P),.d (Z i),.d (Z j),w9]/\H=[.cells (c.enc.map .d)]/\OG w3 (K3 [] (d7++dZ t n (P.take i)++kg t (Y P i) j))/\j+k=n) ?_ (k:=n) ⟨0,_,_,_,_,rfl,rfl,by simpa [kg] using hw,U⟩;clear hw;rintro q _ _ ⟨j,w0,w2,w3,w9,rfl,rfl,hw,gR⟩;have kD:=hw.as;refine Ex.nT ?_;refine Ex.seq ?_;refine tl j (O Q) (λf3=>?_) (λf3=>?_)
   .have hjn:j<n:=V
    have eJ:=hel j hjn;have Mj:O (K3 [] (d7++dZ t n (P.take i)++kg t (Y P i) j))<=100000:=by
     have a1:=W0 (d7++dZ t n (P.take i)++kg t (Y P i) j) [];have a2:=qQ t (Y P i) j;simp only [j9,y4] at a1;omega
    obtain ⟨w5,Mt,XQ⟩:=Xv _ ⟨Y Q (Y P i).toNat,Y Q j,F⟩ Mj;refine gr ?_;refine tb (!s7 j (Y P i)) (λf5=>?_) (λf5=>?_)
    .have eN:fI ⟨Y Q (Y P i).toNat,Y Q j,F⟩ (K3 [] (d7++dZ t n (P.take i)++kg t (Y P i) j))=K3 [] (d7++dZ t n (P.take i)++kg t (Y P i) (j+1)):=by
      rw [kg,f5,if_pos rfl,<- F5,U3 [] _ (sY _ _ _),eA,eJ];rfl
     rw [eN] at Mt
     rcases Mt with rfl|rfl
     .repeat' (first|refine qX kD ?_|refine mJ (cs:=(D8.enc ⟨Y Q (Y P i).toNat,Y Q j,F⟩).map .d) ?_|refine cl (XQ) ?_|refine gx ?_|fail)
      exact ⟨q - 1,V,j+1,_,_,_,_,rfl,rfl,.inl rfl,V⟩
     .repeat' (first|refine qX kD ?_|refine mJ (cs:=(D8.enc ⟨Y Q (Y P i).toNat,Y Q j,F⟩).map .d) ?_|refine cl (XQ) ?_|refine gx ?_|fail)
      exact ⟨q - 1,V,j+1,_,_,_,_,rfl,rfl,.inr rfl,V⟩
    .refine gr ?_
     exact ⟨q - 1,V,j+1,_,_,_,_,rfl,rfl,by simpa only [kg,f5,j6,if_false,List.append_nil] using hw,V⟩
   .obtain rfl:j=n:=V
    refine gr ?_;exact ⟨m - 1,V,i+1,_,_,_,_,_,rfl,rfl,by rw [e6,<- F5];exact hw,V,λh=>by rw [h] at g2;simp at g2⟩
  .refine gr ?_
   refine kk ⟨t+1,_,_,_,_,_,_,_,_,rfl,rfl,?_,V,?_⟩
   .rw [eT]
    cases he:s7 (Y c.j7 t).erase 1 with
    |true =>
     rw [he,Bool.and_true] at g2;have:=A9 g2;rw [s9 V] at hw;simpa using hw
    |false =>
     obtain rfl:=hi0 he;simpa [dZ] using hw
   .rw [eT,j9]
    have:=hq (O P);rw [D3] at this;split<;>simp<;>omega
 have h3:=A9 h2;obtain rfl:t=O c.j7:=V
 refine gr ?_;refine Ex.J1 (λk T H=>∃(i:Nat) (w3:c7),T=[.any,.ptr 0 0,.any,w3,.any,.any,.any,.any,.any,.d (Z i)]/\H=[.cells (c.enc.map .d)]/\OG w3 (K3 [] (iG c (O c.j7)++xT c i))/\i+k=O c.views/\O (xT c i)<=i * 6000) ?_ (k:=O c.views) ⟨0,_,rfl,rfl,by simpa [xT] using hw,U,by simp [xT]⟩;clear hw;rintro k _ _ ⟨i,w3,rfl,rfl,hw,hk,hvl⟩;have kD:=hw.as;refine Ex.seq ?_;refine tl i (O c.views) (λh5=>?_) (λh5=>?_)
 .have a1:=W0 (iG c (O c.j7)++xT c i) []
  simp only [j9,y4] at a1;have p51:=at5 c hs hv (K3 [] (iG c (O c.j7)++xT c i)) i V V;rw [<- U3,F5] at p51
  repeat' (first|refine qX kD ?_|refine cl (p51) ?_|refine gx ?_|fail)
  refine kk ⟨i+1,_,rfl,rfl,.inl rfl,V,?_⟩;have:=Rq hv (i:=i) V;rw [xT,j9];omega
 .obtain rfl:i=O c.views:=V
  have e:K3 [] (iG c (O c.j7)++xT c (O c.views))=dN c:=LD (NM hv);rw [e] at kD
  repeat' (first|refine qX kD ?_|refine gx ?_|fail)
  exact ⟨_,rfl,rfl⟩
def MC {c:p7}{p:C8}(h:R5 c p.1=W):O3 (R2 c) p=(U4 0 p.2&&D0 p.2 (O (M3 c p.1.toNat))):=by
 obtain ⟨_,_,h1,h2⟩:=uJ h;have h3:=Fa c (n:=p7.ns c) (i:=p.1.toNat) V;have h4:=dw c (p7.ns c);unfold O3 R2;rw [h3,h4];simp only [r7,s4];rw [decide_eq_true h1,decide_eq_true h2];rfl
def MB {c:p7}{p:C8}(hv:C4 c=W)(h:R5 c p.1=F):O3 (R2 c) p=F:=by
 have h4:=dw c (p7.ns c);unfold R5 at h;rw [hv,Bool.true_and] at h;unfold O3 R2;rw [h4,<- Bool.and_assoc,h];rfl
def Xr (c:p7)(hs:D9 c)(hv:C4 c=W)(p:C8):Pf A 130 [cat c,qC p] (.d (.bool (O3 (R2 c) p))):=by
 refine Pf.go 3 ?_;unfold qC;cases h:R5 c p.1 with
 |true =>
  have p1:=It c hs _ h;rw [MC h]
  repeat' (first|refine cl (p1) ?_|refine gy ?_|refine fq (λhw=>?_) λhw=>?_|refine ⟨_,rfl,?_⟩|fail)
  all_goals simp_all [j4]
 |false =>
  have p1:=Sx c hs _ h;rw [MB hv h]
  repeat' (first|refine cl (p1) ?_|refine gy ?_|refine fq (λhw=>?_) λhw=>?_|refine ⟨_,rfl,?_⟩|fail)
  all_goals first|(simp_all [j4];done)|(simp_all [j4,r7,s4]<;>omega)
def xl (fs:List D8):di F fs=fs:=by simp [di]
def Lc (a b:List C8)(S:List C8):eZ S (a++b)=eZ (eZ S a) b:=by rw [vg,List.foldl_append,<- vg,<- vg]
def QL (fs:List D8)(l:List C8):sj fs l=sortP (zi fs (O fs+1) (eZ [] l)):=rfl
set_option maxHeartbeats 8000000 in
def at8 (c:p7)(hs:D9 c)(hv:C4 c=W)(ht:O c.j7<=8)(hw:O c.views<=12)(l:List C8)(hl:O l<=50):Pf A 78 [cat c,.d (E4 l)] (.d (E4 (sj (dN c) (l.filter (O3 (R2 c)))))):=by
 have p1:=yR c hs;rw [hv] at p1;have p18:=Xu c hs hv;have hd:=jI hv ht hw;refine Pf.gr 4 ?_;refine tc (F) p1 (λh1=>?_) (λh1=>?_)
 .cases h1
 refine gr ?_;refine Ex.J1 (λk T H=>∃(i:Nat) (w4:c7),T=[.any,.d (E4 l),.ptr 0 0,.any,w4,.d (Z i)]/\H=[.cells (c.enc.map .d)]/\SN w4 (sortP (eZ [] ((l.take i).filter (O3 (R2 c)))))/\i+k=O l) ?_ (k:=O l) ⟨0,_,rfl,rfl,.inr rfl,U⟩;rintro k _ _ ⟨i,w4,rfl,rfl,ZQ,hk⟩;have kD:=ZQ.as;have hq:(eZ [] ((l.take i).filter (O3 (R2 c)))).Nodup:=ve _ _ List.nodup_nil;have WU:O (eZ [] ((l.take i).filter (O3 (R2 c))))<=50:=by
  have h1:=uZ ((l.take i).filter (O3 (R2 c))) [];have h2:=List.length_filter_le (O3 (R2 c)) (l.take i);simp at h1 h2;omega
 refine Ex.seq ?_;refine tl i (O l) (λh3=>?_) (λh3=>?_)
 .have av4:=Xr c hs hv (Y l i)
  obtain ⟨Q,hQ⟩:∃Q,eZ [] ((l.take i).filter (O3 (R2 c)))=Q:=⟨_,rfl⟩;have e1:eZ [] ((l.take (i+1)).filter (O3 (R2 c)))=if O3 (R2 c) (Y l i) then kR Q (Y l i) else Q:=by
   rw [D2 V,List.filter_append,Lc,hQ];simp only [List.filter_cons,List.filter_nil];split<;>rfl
  rw [hQ] at hq WU ZQ kD;obtain ⟨w6,Vy,Nf⟩:=Se (sortP Q) (Y l i) (by rw [Y6];omega);rw [zL hq] at Vy;refine gr ?_;refine tc (O3 (R2 c) (Y l i)) av4 (λh4=>?_) (λh4=>?_)
  .rw [if_pos h4] at e1
   rw [<- e1] at Vy
   rcases Vy with rfl|rfl
   .repeat' (first|refine qX kD ?_|refine cl (Nf) ?_|refine gx ?_|fail)
    exact kk ⟨i+1,_,rfl,rfl,.inl rfl,V⟩
   .repeat' (first|refine qX kD ?_|refine cl (Nf) ?_|refine gx ?_|fail)
    exact kk ⟨i+1,_,rfl,rfl,.inr rfl,V⟩
  .rw [h4] at e1
   refine gr ?_;exact kk ⟨i+1,_,rfl,rfl,by rw [e1];exact ZQ,V⟩
 .obtain rfl:i=O l:=V
  rw [D3] at ZQ hq WU kD;have hm:=wQ (dN c) (eZ [] (l.filter (O3 (R2 c))));have XH:=Xs (dN c) F hd (O (dN c)+1) _ hq (by rw [xl];omega) (by rw [xl];omega);rw [xl,<- QL] at XH
  repeat' (first|refine cl (p18) ?_|refine qX kD ?_|refine cl (XH) ?_|refine gx ?_|fail)
  exact ⟨_,rfl,rfl⟩
end Go.Proofs.YtibjocmpkoepoaaGreat


import Derived.Test.YtibjocmpkoepoaaGreatX0
import Derived.Test.YtibjocmpkoepoaaGreatT4
set_option linter.all false
open Bool renaming and_eq_true→c9,false_eq_true→j5,not_eq_false'→C5,not_eq_true'→o5,or_eq_false_iff→D5,true→W,false→F
open List renaming cons_append→x6,drop_of_length_le→n5,flatMap_cons→O7,getElem?_append_left→y8,getElem?_append_right→x7,getElem_of_mem→L5,length_append→l5,length_cons→o8,length_map→A9,length_singleton→E4,map_cons→G4,mem_append→N9,nil_append→y5,replicate→c8,replicate_succ→O8,set_cons_succ→o6,set_cons_zero→o4,set_eq_take_append_cons_drop→P6,take_of_length_le→A4,length→O
open Nat renaming le_of_ble_eq_true→j6,le_refl→k9,le_trans→s5,lt_or_ge→A7,mul_le_mul_right→I8,reduceAdd→N6,zero_le→s9
open Option renaming some→J,none→K
namespace Go.Proofs.YtibjocmpkoepoaaGreat
open Go.A5 Go.A5.S
attribute [local irreducible] Rx Ry Rn Ex Pf
def Co {e:List X0}{ty:List Int}(h:x5 (M8 e ty).2 0=W):good (M8 e ty).1:=by
 unfold M8 at h ⊢;split at h
 .simp [o9] at h
 next a ha=>
  split at h
  .have hwf:a.wf:=by
    unfold gY at ha;split at ha
    .split at ha
     next b hb=>
      cases ha;exact (V2 16 _ _ _ hb).2.1
     .cases ha
    .cases ha
   simp_all [KQ]
  grind [o9]
theorem ab6 {c:p9}{n:Nat}:∀(k i:Nat),ek c n k i=0->∀j,i<=j->j<i+k->aK c n j=0
 |0,i,_,j,h1,h2=>V
 |k+1,i,h,j,h1,h2=>by
  unfold ek at h;cases he:x5 (aK c n i) 0 with
  |false =>
   simp_all [Bool.not_false,if_true,o9]
  |true =>
   rw [he] at h
   by_cases hj:j=i
   .grind [br]
   .exact ab6 k (i+1) h j V V
def iG {c:p9}{k:Nat}(h:eH c k=0):1<=O (Y c.j7 k).o7/\O (Y c.j7 k).o7<=8/\∀x,x∈(Y c.j7 k).o7->good x.type:=by
 unfold eH at h;cases hc:(!s4 (O (Y c.j7 k).o7) 1 8|| !s4 (Y c.j7 k).erase 0 1|| !s4 (Y c.j7 k).cz 0 1048576) with
 |true=>simp_all
 |false =>
  rw [hc] at h;simp [D5,C5,s4,c9,x8,decide_eq_true_eq] at hc;refine ⟨V,V,λx hx=>?_⟩;obtain ⟨j,hj,rfl⟩:=L5 hx;have h1:=ab6 _ _ h j V V;rw [<- F9 hj];unfold aK at h1
  by_cases hg:good (Y (Y c.j7 k).o7 j).type
  .exact hg
  .have ht:(!x5 (Y (Y c.j7 k).o7 j).type 1&& !x5 (Y (Y c.j7 k).o7 j).type 2)=W:=by
    unfold good at hg;simp [o9,c9,o5,beq_eq_false_iff_ne];omega
   grind
theorem sQ {ty:List Int}:∀(l:List DY) (seen:List K0),aP ty seen l=0->∀e,e∈l->(e.agg&&x5 e.f 0)=W\/x5 (M8 e.expr ty).2 0=W
 |[],_,_,e,he=>by cases he
 |a::l,seen,h,e,he=>by
  unfold aP at h;split at h
  .omega
  .split at h
   .omega
   .split at h
    .omega
    .split at h
     next h0=>
      rcases List.mem_cons.1 he with rfl|he
      .exact .inl h0
      .exact sQ l _ h e he
     .split at h
      .simp_all [o9]
      .split at h
       .omega
       .rcases List.mem_cons.1 he with rfl|he
        .simp_all
        .exact sQ l _ h e he
theorem jE {c:p9}(hv:F1 c=W):∀(n k:Nat),k<n->k<p9.ns c->1<=O (T6 c k)/\O (T6 c k)<=8/\∀x,x∈T6 c k->good x
 |0,k,h,_=>V
 |n+1,k,h,hk=>by
  obtain ⟨h1,_,h3⟩:=bW hv;have hnl:=V0 c;have he:=h1 k V
  rcases A7 k (O c.j7) with ht|ht
  .obtain ⟨a1,a2,a3⟩:=iG (Y0 he ht)
   simp_all [T6,Y,U4.type,iZ,if_pos,List.mem_map]
  .have xS:=eC he ht hk
   unfold Y3 at xS;split at xS
   .omega
   .split at xS
    .omega
    next hl=>
     split at xS
     .omega
     next hsh=>
      simp only [Bool.not_eq_true,C5,o5,Bool.not_eq_false] at hsh;have hf:=L9 c (Z0 c k).left k;split at xS
      next h2=>
       have e:T6 c k=T6 c (F8 c (Z0 c k).left k).toNat:=by
        have h0:0<=F8 c (Z0 c k).left k:=by
         simp_all [Bool.or_eq_true,A1,decide_eq_true_eq,not_or]
        conv=>lhs;unfold T6 iZ
        rw [if_neg V,show (Y c.views (k - O c.j7))=Z0 c k from rfl,if_pos h2,W7 c V]
       have h0:0<=F8 c (Z0 c k).left k:=by
        simp_all [Bool.or_eq_true,A1,decide_eq_true_eq,not_or]
       rw [e];exact jE hv n _ V V
      next h2=>
       split at xS
       .simp_all [o9]
       .split at xS
        .simp_all [o9]
        .split at xS
         .omega
         .have e:T6 c k=bf (Z0 c k) (ins c k):=by
           unfold T6 iZ;rw [if_neg V,show (Y c.views (k - O c.j7))=Z0 c k from rfl,if_neg h2];rfl
          have hlen:1<=O (Z0 c k).items+O (Z0 c k).I6/\O (Z0 c k).items+O (Z0 c k).I6<=8:=by
           unfold bQ lU at hsh;rw [if_neg h2] at hsh;split at hsh<;>simp only [c9,o5,D5,o9,beq_eq_false_iff_ne,x8,decide_eq_true_eq] at hsh<;>omega
          have hg:=sQ _ _ xS;rw [e];refine ⟨by grind [bf],by grind [bf],λx hx=>?_⟩;simp only [bf,N9,List.mem_map] at hx
          rcases hx with ⟨y,hy,rfl⟩|⟨y,hy,rfl⟩
          .rcases hg ⟨F,y.name, -1,y.expr⟩ (List.mem_append_left _ (List.mem_map.2 ⟨y,hy,rfl⟩)) with h|h
           all_goals simp_all [Co]
          .unfold xx
           split
           .exact .inl rfl
           next h0=>
            rcases hg ⟨W,y.name,y.func,y.expr⟩ (List.mem_append_right _ (List.mem_map.2 ⟨y,hy,rfl⟩)) with h|h
            all_goals simp_all [Bool.true_and,Co]
theorem Jw {s:K0}:∀(l:List K0) (i:Nat),s∈l->(i:Int)<=J5 s l i/\J5 s l i<i+O l
 |[],_,h=>by cases h
 |x::r,i,h=>by
  simp only [J5];split
  .simp;omega
  next hx=>
   rcases List.mem_cons.1 h with rfl|h
   .simp [I9] at hx
   .have:=Jw r (i+1) h
    simp at this ⊢;omega
def Yw {c:p9}(hv:F1 c=W){s:K0}(h:s∈p9.sn c):∃i:Nat,jt c s=(i:Int)/\i<p9.ns c:=by
 have hl:=Z6 c;have h1:=Jw (p9.sn c) 0 h;have e:jt c s=J5 s (p9.sn c) 0:=by
  unfold jt F8;rw [hv,if_pos rfl,A4 V]
 rw [e];refine ⟨(J5 s (p9.sn c) 0).toNat,V,V⟩
def UQ {c:p9}(hv:F1 c=W){i:Nat}(hi:i<p9.ns c):bG c i=W:=by
 unfold bG;rw [hv];simp [x8,A1];omega
end Go.Proofs.YtibjocmpkoepoaaGreat
namespace Go.A5.S
section
variable {A:Prog} {l:J2} {b:Nat}
variable {dr:Bool} {j8 ops:List o3} {T:List c7} {H:j9} {n:Nat} {rl:List c7} {l6:List Touch} {Q:List c7->j9->List c7->Prop}
def bq {op:BinOp}{a c r:Data}(h:M1 op a c=J r){x y:y4}{u:List Nat}(h2:Ry A l b dr j8 ops T H (n+1) (.d r::rl) l6 Q)(hx:rq T n rl x= .d a:=by rfl)(hy:rq T n rl y= .d c:=by rfl) :
  Ry A l b dr j8 (⟨.bin op x y,K,K,u⟩::ops) T H n rl l6 Q:=Ry.pure (rs:=[]) rfl (by simp only [k8,hx,hy,h]) h2
def ci {k k' :IntKind}{c d:Int}(h:k.wrap c=d){x:y4}{u:List Nat}(h2:Ry A l b dr j8 ops T H (n+1) (.d (.int k d)::rl) l6 Q)(hx:rq T n rl x= .d (.int k' c):=by rfl) :
  Ry A l b dr j8 (⟨.rM k x,K,K,u⟩::ops) T H n rl l6 Q:=Ry.pure (rs:=[]) rfl (by simp only [k8,hx,h]) h2
end
end Go.A5.S
namespace Go.Proofs.YtibjocmpkoepoaaGreat
open Go.A5 Go.A5.S
attribute [local irreducible] Rx Ry Rn Ex Pf
def tp (xs:List Int)(p:Nat):x4:= .cells [.d (y6 (λn=>[Z n]) xs),.d (Z (p:Int))]
def as7 (z:Int){n:Int}(h2:2<=n)(h3:n<=1000000):∃r q:Int,M1 .rem (.int .i64 z) (.int .i64 n)=J (.int .i64 q)/\ -n<q/\q<n/\M1 .rem (.int .i64 (q+n)) (.int .i64 n)=J (.int .i64 r)/\0<=r/\r<n:=by
 have h1:=Int.tmod_lt_of_pos z (show 0<n by omega);have h4: -n<z.tmod n:=by
  by_cases hz:z<0
  .have e:z.tmod n= -((-z).tmod n):=by rw [<- Int.neg_tmod,Int.neg_neg]
   have:=Int.tmod_lt_of_pos (-z) (show 0<n by omega);omega
  .have:=Int.tmod_nonneg (a:=z) n V
   omega
 have h5:=Int.tmod_lt_of_pos (z.tmod n+n) (show 0<n by omega);have h6:=Int.tmod_nonneg (a:=z.tmod n+n) n V;refine ⟨(z.tmod n+n).tmod n,z.tmod n,?_,h4,h1,?_,h6,h5⟩
 .simp [M1,Z5,cw];omega
 .simp [M1,Z5,cw];omega
def ae7 (o0:x4)(xs:List Int)(p:Nat)(n:Int)(l:J2)(hx:O xs<=35184372088832)(hp:p<=4 * O xs)(hn:n<=1000000)(hl:l.may 1=W) :
  Pq A 22 [.ptr 1 0,.d (Z n)] [o0,tp xs p] l λv H1=>∃(r:Int) (q:Nat),v= .d (Z r)/\0<=r/\(2<=n->r<n)/\(n<2->r=0)/\q<=4 * O xs/\H1=[o0,tp xs q]:=by
 unfold tp;have h0: -9223372036854775808<=(4:Int) * O xs/\(4:Int) * O xs<9223372036854775808:=V
 refine Pq.go 3 ?_;refine gr ?_;refine tB (F0 n 2||(x5 (O xs) 0||aH (4 * O xs) p)) ?_ (λh=>?_) (λh=>?_)
 .repeat' (first|refine mu ?_ h0|refine gx ?_|refine fq (λhw=>?_) λhw=>?_|refine ⟨rfl,rfl,_,rfl,?_⟩|refine ⟨rfl,rfl⟩|fail)
  all_goals exact cc
 .refine gr ?_
  refine ⟨_,_,rfl,0,p,rfl,Int.le_refl _,λh=>V,λ_=>rfl,hp,rfl⟩
 have h' :=h;simp [A1,x8,o9] at h';obtain ⟨h1,h2,h3⟩:=h';have hlen:0<O xs:=by
  rcases Nat.eq_zero_or_pos (O xs) with e|e
  .exact absurd (List.eq_nil_of_length_eq_zero e) h2
  .exact e
 obtain ⟨i,hi,hb⟩:∃i:Nat,i<O xs/\M1 .rem (.int .i64 (p:Int)) (.int .i64 (O xs:Int))=J (.int .i64 (i:Int)) :=
  ⟨p % O xs,Nat.mod_lt _ hlen,by simp [M1,Z5,cw];exact ⟨V,rfl⟩⟩
 obtain ⟨s,hs,hq⟩:∃s:Nat,s<=4/\M1 .quo (.int .i64 (p:Int)) (.int .i64 (O xs:Int))=J (.int .i64 (s:Int)):=by
  have hd:p / O xs<=4:=Nat.div_le_of_le_mul (by rw [Nat.mul_comm];exact hp);have e:(p:Int).tdiv (O xs)=((p / O xs:Nat):Int):=rfl;generalize p / O xs=s at hd e;refine ⟨s,hd,?_⟩;have hne:¬ (O xs:Int)=0:=V
  simp only [M1,Z5,j5,if_false,if_true,cw,e,hne];have e2:IntKind.wrap .i64 (s:Int)=s:=Go.A5.wrap_small V V;exact congrArg (λz=>J (Data.int IntKind.i64 z)) e2
 repeat' (first|refine bq hb ?_|refine gx ?_|fail)
 repeat' (first|refine bq hq ?_|refine gx ?_|fail)
 refine Ex.DO (λst=>∃z:Int,st=⟨[.ptr 1 0,.d (Z n),.d (Z 0),.d (Z z),.d (Z (s:Int))],[o0,.cells [.d (y6 (λn=>[Z n]) xs),.d (Z (p:Int))]]⟩) ?_ ?_
 .have hc:IntKind.wrap .u64 (s:Int)=(s:Int):=by
   match s,hs with
   |0,_=>rfl
   |1,_=>rfl
   |2,_=>rfl
   |3,_=>rfl
   |4,_=>rfl
   |s+5,h=>omega
  have hsh:M1 .shr (.int .i64 (Y xs i)) (.int .u64 (s:Int))=J (.int .i64 ((Y xs i).fdiv (2 ^ (min s 64)))):=by simp [M1,Z5,Av];rfl
  obtain ⟨z,hz⟩:∃z,M1 .xor (.int .i64 ((Y xs i).fdiv (2 ^ (min s 64)))) (.int .i64 (s:Int))=J (.int .i64 z):=⟨_,by simp [M1,Z5,cw];rfl⟩;refine tb (F0 0 s) (λg=>?_) (λg=>?_)
  .repeat' (first|refine ci hc ?_|refine bq hsh ?_|refine bq hz ?_|refine gx ?_|fail)
   exact ⟨_,rfl⟩
  .refine gr ?_
   exact ⟨_,rfl⟩
 .rintro _ ⟨z,rfl⟩
  obtain ⟨r,q,r1,r2,r3,r4,r5,r6⟩:=as7 z (show 2<=n by omega) hn;refine gr ?_;refine so1 (hl:=hl) (hb:=s9 _) (hq:=Nat.lt_succ_self 1) (h2:=?_)
  repeat' (first|refine bq r1 ?_|refine bq r4 ?_|refine gx ?_|fail)
  refine ⟨_,_,rfl,r,p+1,rfl,r5,λ_=>r6,λh=>V,V,?_⟩;rfl
end Go.Proofs.YtibjocmpkoepoaaGreat
namespace Go.Proofs.YtibjocmpkoepoaaGreat
open Go.A5 Go.A5.S
attribute [local irreducible] Rx Ry Rn Ex Pf Rl
def l1:J2:=⟨0,0,2,2⟩
def Tq (xs:List Int)(o0:x4)(l:J2)(f:FuncId)(args:List c7)(q:Nat)(P:c7->Prop):Prop :=
 ∃v q',q' <=4 * O xs/\P v/\Pm A f args [o0,tp xs q] l v [o0,tp xs q']
section
variable {xs:List Int} {o0:x4} {l:J2} {b:Nat} {dr:Bool} {j8 ops:List o3} {T:List c7} {HD:j9} {k:Nat} {rl:List c7} {l6:List A5.Touch} {Q:List c7->j9->List c7->Prop} {f:FuncId} {args:List c7} {q:Nat} {P:c7->Prop} {os:List y4} {u:List Nat}
theorem Tq.go {af:r7}(n:Nat)(h:Ex A l1 2 af.body ⟨T,[o0,tp xs q]⟩ λx s=>∃w q',Z4 af 2 (J (x,s))=J (w,[o0,tp xs q'])/\q' <=4 * O xs/\P w)
  (hf:A.fn f=J af:=by rfl) (hp:A.dR f=K:=by rfl) (hn:O args=af.nparams:=by rfl) (hT:args++c8 n .any=T:=by simp only [c8,x6,y5]<;>rfl) (hN:O af.names - O args=n:=by rfl):Tq xs o0 l1 f args q P:=by
 have:=Pq.go (A:=A) (l:=l1) (b:=2) (H:=[o0,tp xs q]) (Post:=λw H1=>∃q',H1=[o0,tp xs q']/\q' <=4 * O xs/\P w) n (h.mono λx s ⟨w,q',h1,h2,h3⟩=>⟨w,_,h1,q',rfl,h2,h3⟩) hf hp hn rfl hT hN;obtain ⟨v,_,⟨q',rfl,h1,h2⟩,p⟩:=this;exact ⟨v,q',h1,h2,p⟩
def tq (p:Tq xs o0 ⟨l.Mo,l.Mn,2,2⟩ f args q P)(h2:∀(v:c7) (q' :Nat),q' <=4 * O xs->P v->Ry A l b dr j8 ops T (o0::tp xs q' ::HD) (k+1) (v::rl) (.below 2::l6) Q)
  (ha:os.map (rq T k rl)=args:=by rfl) (hb:A8 args=2:=by rfl) (hs:l.strict=2:=by rfl) (iD:A.prom f=F:=by rfl) (hm:A.mode f=0:=by rfl) (hd:dr=W->Nat.ble (oW j8) k=W:=by intro;rfl) :
  Ry A l b dr j8 (⟨.call f os,K,K,u⟩::ops) T (o0::tp xs q::HD) k rl l6 Q:=by
 obtain ⟨v,q',h1,h3,p⟩:=p;have e:B5 (o0::tp xs q::HD) l.strict 2=2:=by simp [B5,hs]
 exact c0 (m:=2) p rfl (HD:=HD) (iP:=by simp [hs,F3]) (hcl:=by rw [hs,hb];exact K6 (by simp [F3])) (ov:=by rw [e]) (hd:=hd) (ha:=ha) (iD:=iD) (hm:=hm) (h2:=h2 v q' h1 h3)
def lq' {na:Nat}{lg:List gC}(p:Tq xs o0 ⟨l.Mo,l.Mn,2,2⟩ f args q P)(h2:∀(v:c7) (q' :Nat),q' <=4 * O xs->P v->Rl A l b j8 ops T (o0::tp xs q' ::HD) (k+1) (v::rl) (.below 2::l6) na (⟨[],[.below 2],2,0⟩::lg) Q)
  (ha:os.map (rq T k rl)=args:=by rfl) (hb:A8 args=2:=by rfl) (hs:l.strict=2:=by rfl) (iD:A.prom f=F:=by rfl) (hm:A.mode f=0:=by rfl) :
  Rl A l b j8 (⟨.call f os,K,K,u⟩::ops) T (o0::tp xs q::HD) k rl l6 na lg Q:=by
 obtain ⟨v,q',h1,h3,p⟩:=p;have e:B5 (o0::tp xs q::HD) l.strict 2=2:=by simp [B5,hs]
 exact yc (m:=2) HD _ p rfl (by simp [hs,F3]) (by rw [hs,hb];exact K6 (by simp [F3])) rfl U (by rw [e]) rfl rfl (h2 v q' h1 h3) ha iD hm
def pN (hx:O xs<=35184372088832)(hq:q<=4 * O xs)(n:Int)(hn:1<=n/\n<=1000000)(hl:l.may 1=W):Tq xs o0 l 22 [.ptr 1 0,.d (Z n)] q λv=>∃r:Int,v= .d (Z r)/\0<=r/\r<n:=by
 obtain ⟨_,_,⟨r,q',rfl,h1,h2,h3,h4,rfl⟩,p⟩:=ae7 o0 xs q n l hx hq hn.2 hl;refine ⟨_,q',h4,⟨r,rfl,h1,?_⟩,p⟩
 rcases Int.lt_or_le n 2 with h5|h5
 .have:=h3 h5;omega
 .exact h2 h5
def nx {n:Int}(h2:∀(r:Int) (q' :Nat),q' <=4 * O xs->0<=r->r<n->Ry A l b dr j8 ops T (o0::tp xs q' ::HD) (k+1) (.d (Z r)::rl) (.below 2::l6) Q)
  (ha:os.map (rq T k rl)=[.ptr 1 0,.d (Z n)]:=by rfl) (hn:1<=n/\n<=1000000:=by omega) (hs:l.strict=2:=by rfl) (hm:l.may 1=W:=by rfl) (hd:dr=W->Nat.ble (oW j8) k=W:=by intro;rfl) (hx:O xs<=35184372088832:=by assumption) (hq:q<=4 * O xs:=by assumption) :
  Ry A l b dr j8 (⟨.call 22 os,K,K,u⟩::ops) T (o0::tp xs q::HD) k rl l6 Q :=
 tq (pN hx hq n hn hm) (by rintro _ q' XU ⟨r,rfl,h3,h4⟩;exact h2 r q' XU h3 h4) (ha:=ha) (hs:=hs) (hd:=hd)
def lx {n:Int}{na:Nat}{lg:List gC}(h2:∀(r:Int) (q' :Nat),q' <=4 * O xs->0<=r->r<n->Rl A l b j8 ops T (o0::tp xs q' ::HD) (k+1) (.d (Z r)::rl) (.below 2::l6) na (⟨[],[.below 2],2,0⟩::lg) Q)
  (ha:os.map (rq T k rl)=[.ptr 1 0,.d (Z n)]:=by rfl) (hn:1<=n/\n<=1000000:=by omega) (hs:l.strict=2:=by rfl) (hm:l.may 1=W:=by rfl) (hx:O xs<=35184372088832:=by assumption) (hq:q<=4 * O xs:=by assumption) :
  Rl A l b j8 (⟨.call 22 os,K,K,u⟩::ops) T (o0::tp xs q::HD) k rl l6 na lg Q :=
 lq' (pN hx hq n hn hm) (by rintro _ q' XU ⟨r,rfl,h3,h4⟩;exact h2 r q' XU h3 h4) (ha:=ha) (hs:=hs)
def tt {R:J6->St->Prop}{c:y4}{d e:p7}(h2:∀q',q' <=4 * O xs->Ex A l b d ⟨T,o0::tp xs q' ::HD⟩ R)(h3:∀q',q' <=4 * O xs->Ex A l b e ⟨T,o0::tp xs q' ::HD⟩ R)
  (h:Rn A l b ops dr T (o0::tp xs q::HD) λT' H' L=>T' =T/\(∃q',q' <=4 * O xs/\H' =o0::tp xs q' ::HD)/\∃t,G7 T' L c= .d (.bool t):=by (first|refine Rn.text ?_|refine Rn.draw ?_|fail);(repeat' (first|refine nx (λ_ _ _ _ _=>?_)|refine gx ?_|refine Ii (h2:=?_)|refine fq (λhw=>?_) λhw=>?_|exact ⟨rfl,⟨_,by assumption,rfl⟩,_,rfl⟩|fail))) :
  Ex A l b (.test ops dr c d e) ⟨T,o0::tp xs q::HD⟩ R:=Ex.aO7 _ h (by rintro _ ⟨q',h,rfl⟩;exact h2 q' h) (by rintro _ ⟨q',h,rfl⟩;exact h3 q' h)
end
def aq3 (n:Int):Pf A 110 [.d (Z n)] (.agg ((jW ⟨1,n,[]⟩).enc.map .d)):=by
 refine Pf.go 1 ?_;refine gc (Zv ⟨1,n,[]⟩) ?_;exact ⟨_,rfl,rfl⟩
def bp8 (s:K0):Pf A 196 [.d (.str s)] (.agg ((jW ⟨2,0,s⟩).enc.map .d)):=by
 refine Pf.go 1 ?_;refine gc (Zv ⟨2,0,s⟩) ?_;exact ⟨_,rfl,rfl⟩
def isV (v:c7):Prop:=∃x:Vl,v= .agg (x.enc.map .d)
section
variable {xs:List Int} {o0:x4} {q:Nat} (hx:O xs<=35184372088832) (hq:q<=4 * O xs)
include hx hq
def aN6:Tq xs o0 l1 139 [.ptr 1 0] q isV:=by
 refine Tq.go 1 ?_
 repeat' (first|refine bk Z [0,1,2,3, -1, -2,7,100,4294967296, -4294967296,5,4] ?_|refine cl (aq3 _) ?_|refine nx (λ_ _ _ _ _=>?_)|refine Ii (h2:=?_)|refine eN ?_|refine gx ?_|fail)
 exact ⟨_,_,rfl,by assumption,_,rfl⟩
def aN7:Tq xs o0 l1 140 [.ptr 1 0] q isV:=by
 refine Tq.go 1 ?_
 repeat' (first|refine bk .str [[97],[98],[],[97,98],[97,32,98],[120,0,121],[255,34,92],[98,32,97,32,98],[108,111,110,103,32,116,101,120,116,32,111,102,32,116,104,105,114,116,121,45,116,119,111,32,98,121,116,101,115,32,105,116],[66]] ?_|refine cl (bp8 _) ?_|refine nx (λ_ _ _ _ _=>?_)|refine Ii (h2:=?_)|refine eN ?_|refine gx ?_|fail)
 exact ⟨_,_,rfl,by assumption,_,rfl⟩
def bw1 (t:Int):Tq xs o0 l1 232 [.ptr 1 0,.d (Z t)] q isV:=by
 refine Tq.go 1 ?_;refine gr ?_;refine tt (λq1 hq1=>?_) λq1 hq1=>?_
 .refine gr ?_
  exact ⟨_,_,rfl,hq1,⟨0,0,[]⟩,rfl⟩
 refine te trivial ?_ ?_
 .refine gr ?_
  refine tq (aN7 hx hq1) ?_;rintro _ q2 lJ ⟨x,rfl⟩;refine gr ?_;exact ⟨_,q2,rfl,lJ,x,rfl⟩
 .refine gr ?_
  refine tq (aN6 hx hq1) ?_;rintro _ q2 lJ ⟨x,rfl⟩;refine gr ?_;exact ⟨_,q2,rfl,lJ,x,rfl⟩
def as4 (t:Int):Tq xs o0 l1 176 [.ptr 1 0,.d (Z t)] q isV:=by
 refine Tq.go 1 ?_;refine gr ?_;refine te trivial ?_ ?_
 .repeat' (first|refine bk .str [[97],[98],[99],[100]] ?_|refine nx (λ_ _ _ _ _=>?_)|refine Ii (h2:=?_)|refine eN ?_|refine gx ?_|fail)
  exact ⟨_,_,rfl,by assumption,⟨t,0,_⟩,rfl⟩
 .repeat' (first|refine nx (λ_ _ _ _ _=>?_)|refine Ii (h2:=?_)|refine eN ?_|refine gx ?_|fail)
  exact ⟨_,_,rfl,by assumption,⟨t,_,[]⟩,rfl⟩
end
def aj5 (op:Int):nA op<=3:=by
 unfold nA
 repeat' split
 all_goals omega
def isE (m:Nat)(v:c7):Prop:=∃e:List X0,O e<=m/\(v=B9 5 X0.enc e\/v= .d (y6 X0.enc e))
def ZW:Nat->Nat
 |0=>1
 |d+1=>1+3 * ZW d
def HX:∀{d:Nat},d<=3->1<=ZW d/\ZW d<=40
 |0,_|1,_|2,_|3,_=>by decide
 |n+4,h=>V
def ap6 {a:Int}{n:Nat}(h:1<=n)(h0:0<=a)(h2:n<=100000):∃m:Int,M1 .rem (.int .i64 a) (.int .i64 (n:Int))=J (.int .i64 m)/\0<=m/\m<n :=
 ⟨a.tmod n,by simp [M1,Z5,cw];omega,Int.tmod_nonneg _ h0,Int.tmod_lt_of_pos _ V⟩
def t93 (d:Nat)(ty:List Int)(want op a b:Int)(w:c7):List c7:=[.ptr 1 0,.d (Z ((d+1:Nat)+1)),.d (ints ty),.d (Z want),.own 5 0 [],.any,.any,.d (Z a),.d (Z b),.d (Z want),.d (Z op),.any,.any,.any,.d (Z op),w]
section
variable {xs:List Int} {o0:x4} {q:Nat} (hx:O xs<=35184372088832)
include hx
set_option maxHeartbeats 2000000 in
def UY (ty:List Int)(h1:1<=O ty)(h2:O ty<=100000)(d8 want:Int){m:Nat}(hm:1<=m){q:Nat}(hq:q<=4 * O xs):Ex A l1 2 (match a93.body with| .seq _ (.seq (.test _ _ _ c _) _)=>c|c=>c)
  ⟨[.ptr 1 0,.d (Z d8),.d (ints ty),.d (Z want),.own 5 0 [],.any,.any,.any,.any,.any,.any,.any,.any,.any,.any,.any],[o0,tp xs q]⟩ λx s=>x= .ret/\∃w q',Z4 a93 2 (J (x,s))=J (w,[o0,tp xs q'])/\q' <=4 * O xs/\isE m w:=by
 refine gr ?_;refine nx λr q1 hq1 r0 r1=>?_
 refine gr ?_;refine Ex.M4 (λk T' H' =>∃(i q:Nat),q<=4 * O xs/\i+k=O ty/\T' =[.ptr 1 0,.any,.d (ints ty),.d (Z want),.any,.d (Z r),.d (Z i),.any,.any,.any,.any,.any,.any,.any,.any,.any]/\H' =[o0,tp xs q]) ?_ (k:=O ty) ⟨0,q1,hq1,V,rfl,rfl⟩;rintro k _ _ ⟨i,q2,lJ,hk,rfl,rfl⟩;refine Ex.seq ?_;refine tl i (O ty) (λh3=>?_) (λh3=>?_)
 .obtain ⟨j,hj,j0,j1⟩:=ap6 h1 (show 0<=r+i by omega) h2
  refine gr ?_;refine Ex.test (Rn.text ?_)
  repeat' (first|refine bq hj ?_|refine gx ?_|fail)
  refine fk (h1:=λhw=>?_) (h2:=λhw=>?_)
  .refine gr ?_
   refine nx λs q3 oK s0 s1=>?_
   refine gr ?_;refine ⟨_,rfl,λh=>?_,λh=>?_⟩
   .repeat' (first|refine bq hj ?_|refine oN (enc:=X0.enc) ⟨2,0,0,[],j⟩ ?_|refine gx ?_|fail)
    exact ⟨rfl,_,q3,rfl,oK,[⟨2,0,0,[],j⟩],hm,.inl rfl⟩
   .refine gr ?_
    exact kk ⟨i+1,q3,oK,V,rfl,rfl⟩
  .refine gr ?_
   refine ⟨_,rfl,λh=>?_,λh=>?_⟩
   .cases h
   .refine gr ?_
    exact kk ⟨i+1,q2,lJ,V,rfl,rfl⟩
 .refine gr ?_
  refine te trivial ?_ ?_
  .refine gr ?_
   refine tq (aN6 hx lJ) ?_;rintro _ q3 oK ⟨x,rfl⟩
   repeat' (first|refine oN (enc:=X0.enc) ⟨1,x.k,x.n,x.t,0⟩ ?_|refine gx ?_|fail)
   exact ⟨rfl,_,q3,rfl,oK,[⟨1,x.k,x.n,x.t,0⟩],hm,.inl rfl⟩
  .refine gr ?_
   refine tq (aN7 hx lJ) ?_;rintro _ q3 oK ⟨x,rfl⟩
   repeat' (first|refine oN (enc:=X0.enc) ⟨1,x.k,x.n,x.t,0⟩ ?_|refine gx ?_|fail)
   exact ⟨rfl,_,q3,rfl,oK,[⟨1,x.k,x.n,x.t,0⟩],hm,.inl rfl⟩
set_option maxHeartbeats 4000000 in
def q93 (ty:List Int)(h1:1<=O ty)(h2:O ty<=100000):∀(d:Nat),d<=3->∀(d8 want:Int) (q:Nat),q<=4 * O xs->d8=d+1->Tq xs o0 l1 93 [.ptr 1 0,.d (Z d8),.d (ints ty),.d (Z want)] q (isE (ZW d)):=by
 intro d
 induction d with
 |zero =>
  rintro _ d8 want q hq rfl;refine Tq.go 12 ?_;refine gr ?_;refine Ex.test (Rn.text ?_);refine gr ?_;refine fk (h1:=λhw=>?_) (h2:=λhw=>?_)
  .refine gr ?_
   exact ⟨_,rfl,λ_=>(UY hx ty h1 h2 _ _ (k9 _) hq).mono λ_ _ ⟨h,h'⟩=>h ▸ h',λh=>by cases h⟩
  .have:=rR hw
   omega
 |succ d ih =>
  rintro hd d8 want q hq rfl;have hz:=HX (d:=d+1) V;refine Tq.go 12 ?_;refine gr ?_;refine Ex.test (Rn.text ?_);refine gr ?_;refine fk (h1:=λhw=>?_) (h2:=λhw=>?_)
  .have:=kM hw
   omega
  refine gr ?_;refine nx λr q1 hq1 _ _=>?_
  refine gr ?_;refine ⟨_,rfl,λ_=>(UY hx ty h1 h2 _ _ hz.1 hq1).mono λ_ _ ⟨h,h'⟩=>h ▸ h',λ_=>?_⟩
  repeat' (first|refine bk Z [17,18,8,10] ?_|refine gx ?_|fail)
  refine nx λr q2 lJ r0 r1=>?_
  repeat' (first|refine Ii (h2:=?_)|refine gx ?_|fail)
  refine Ex.DO (λst=>∃(op:Int) (q:Nat),q<=4 * O xs/\st=⟨[.ptr 1 0,.d (Z ((d+1:Nat)+1)),.d (ints ty),.d (Z want),.own 5 0 [],.any,.any,.d (Z want),.d (Z want),.d (Z want),.d (Z op),.any,.any,.any,.any,.any],[o0,tp xs q]⟩) ?_ ?_
  .refine te trivial ?_ ?_
   .repeat' (first|refine bk Z [3,4,5,6,7,9,11,12,13,14,15,16,17,18] ?_|refine gx ?_|fail)
    refine nx λr q3 oK r0 r1=>?_
    repeat' (first|refine Ii (h2:=?_)|refine gx ?_|fail)
    exact ⟨_,q3,oK,rfl⟩
   .refine gr ?_
    exact ⟨_,q2,lJ,rfl⟩
  rintro _ ⟨op,q3,oK,rfl⟩;refine gr ?_;refine Ex.Wn (λst=>∃(a b:Int) (q:Nat) (w:c7),q<=4 * O xs/\st=⟨t93 d ty want op a b w,[o0,tp xs q]⟩) ?_ ?_
  .refine te trivial ?_ (te trivial ?_ (te trivial ?_ (Ex.seq ?_)))
   .refine gr ?_
    exact ⟨1,_,q3,_,oK,rfl⟩
   .refine gr ?_
    exact ⟨_,1,q3,_,oK,rfl⟩
   .refine gr ?_
    exact ⟨2,_,q3,_,oK,rfl⟩
   .refine Ex.DO (λst=>∃t,st=⟨t93 d ty want op want want (.d (.bool t)),[o0,tp xs q3]⟩) ?_ ?_
    .refine gr ?_
     refine Ex.cond rfl (λ_=>Ex.skip ⟨_,rfl⟩) (λ_=>?_);refine gr ?_;refine Ex.cond rfl (λ_=>Ex.skip ⟨_,rfl⟩) (λ_=>?_);refine gr ?_;exact ⟨_,rfl⟩
    .rintro _ ⟨t,rfl⟩
     unfold t93;refine Ex.cond rfl (λ_=>?_) (λ_=>Ex.skip ⟨_,_,q3,_,oK,rfl⟩);refine gr ?_;refine nx λr q4 vW r0 r1=>?_
     refine gr ?_;exact ⟨_,_,q4,_,vW,rfl⟩
  rintro _ ⟨a,b,q4,w,vW,rfl⟩;unfold t93
  repeat' (first|refine Ry.pure (v:=B9 1 (λn=>[Z n]) [a,b,want]) (rs:=[]) rfl (by rfl) ?_|refine oN (enc:=X0.enc) ⟨op,0,0,[],0⟩ ?_|refine gx ?_|fail)
  refine Ex.M4 (λk T' H' =>∃(i q:Nat) (e:List X0),q<=4 * O xs/\i+k=3/\O e<=1+i * ZW d/\T' =[.ptr 1 0,.d (Z ((d+1:Nat)+1)),.d (ints ty),.any,.any,.any,.any,.any,.any,.any,.d (Z op),B9 5 X0.enc e,B9 1 (λn=>[Z n]) [a,b,want],.d (Z i),.any,.any]/\H' =[o0,tp xs q]) ?_ (k:=3) ⟨0,q4,[⟨op,0,0,[],0⟩],vW,V,U,rfl,rfl⟩;rintro k _ _ ⟨i,q5,e,Bl,hk,he,rfl,rfl⟩;have ha:=aj5 op;have Jt:ZW (d+1)=1+3 * ZW d:=rfl;have hz3:i * ZW d<=3 * ZW d:=I8 _ V;refine Ex.seq ?_;refine tc (F0 i (nA op)) (Pj op) (λh=>?_) (λh=>?_)
  .have h:=C8 h
   repeat' (first|refine Ii (h2:=?_)|refine gx ?_|fail)
   refine tq (ih V ((d+1:Nat)+1 - 1) _ q5 Bl V) ?_;rintro _ q6 OP ⟨e2,he2,rfl|rfl⟩
   all_goals
    refine gr ?_;exact kk ⟨i+1,q6,e++e2,OP,V,by rw [l5,Nat.succ_mul];omega,rfl,rfl⟩
  .refine gr ?_
   exact ⟨_,q5,rfl,Bl,e,V,.inr rfl⟩
end
def p41 (s:K0)(hs:O s<=1000){n:Int}(hn:0<=n)(h2:n<=1000000):∃c,Pf A 41 [.d (.str s),.d (Z n)] (.d (.str (s++[c]))):=by
 obtain ⟨m,hm,m0,m1⟩:∃m:Int,M1 .rem (Z n) (Z 10)=J (.int .i64 m)/\0<=m/\m<10 :=
  ⟨n.tmod 10,by simp [M1,Z5,cw,Z],Int.tmod_nonneg _ hn,Int.tmod_lt_of_pos _ V⟩
 have hw:IntKind.wrap .u8 (48+m)=48+m:=by
  have:m=0\/m=1\/m=2\/m=3\/m=4\/m=5\/m=6\/m=7\/m=8\/m=9:=V
  rcases this with rfl|rfl|rfl|rfl|rfl|rfl|rfl|rfl|rfl|rfl<;>rfl
 refine ⟨UInt8.ofNat (48+m).toNat,?_⟩;have hb:M1 .add (.str s) (.str [UInt8.ofNat (48+m).toNat])=J (.str (s++[UInt8.ofNat (48+m).toNat])):=by simp [M1,vZ];omega
 refine Pf.go 1 ?_
 repeat' (first|refine bq hm ?_|refine ci hw ?_|refine Ry.pure (v:= .d (.str [UInt8.ofNat (48+m).toNat])) (rs:=[]) rfl (by rfl) ?_|refine bq hb ?_|refine gx ?_|fail)
 exact ⟨_,rfl,rfl⟩
section
variable {xs:List Int} {o0:x4} {q:Nat} (hx:O xs<=35184372088832) (hq:q<=4 * O xs)
include hx hq
def q94 (ty:List Int)(h1:1<=O ty)(h2:O ty<=100000)(n:Int)(hn:1<=n/\n<=10):Tq xs o0 l1 94 [.ptr 1 0,.d (ints ty),.d (Z n),.d (Z 0)] q λv=>∃l:List zW,v= .d (y6 zW.enc l)/\O l<=n/\∀x∈l,O x.expr<=100:=by
 refine Tq.go 3 ?_;refine gr ?_;refine nx λr q1 hq1 r0 r1=>?_
 refine gr ?_;refine Ex.M4 (λk T' H' =>∃(m:Int) (q:Nat) (l:List zW),q<=4 * O xs/\m=k/\O l+k<=n/\(∀x∈l,O x.expr<=100)/\T' =[.ptr 1 0,.d (ints ty),.any,.d (Z 0),.any,B9 2 zW.enc l,.d (Z m)]/\H' =[o0,tp xs q]) ?_ (k:=(1+r).toNat) ⟨1+r,q1,[],hq1,V,D,U,rfl,rfl⟩;rintro k _ _ ⟨m,q2,l,lJ,hm,hl,hle,rfl,rfl⟩;refine Ex.seq ?_;refine tl 0 m (λh=>?_) (λh=>?_)
 .obtain ⟨c,p41⟩:=p41 [120] (by decide) (n:=0+O l) V V
  refine gc p41 ?_;refine nx λr2 q3 oK s0 s1=>?_
  refine gr ?_;refine nx λr3 q4 vW t0 t1=>?_
  refine gr ?_;refine tq (q93 hx ty h1 h2 r2.toNat V (1+r2) _ _ vW V) ?_;have hz:=HX (d:=r2.toNat) V;rintro _ q5 Bl ⟨e,he,rfl|rfl⟩
  all_goals
   repeat' (first|refine oN (enc:=zW.enc) ⟨[120]++[c],e⟩ ?_|refine Yg (enc:=zW.enc) (ys:=[⟨[120]++[c],e⟩]) (h2:=?_)|refine gx ?_|fail)
   refine kk ⟨m - 1,q5,l++[⟨[120]++[c],e⟩],Bl,V,D,?_,rfl,rfl⟩;intro x hx;simp only [N9,List.mem_singleton] at hx
   rcases hx with hx|rfl
   .exact hle x hx
   .simp only;omega
 .refine gr ?_
  exact ⟨_,q2,rfl,lJ,l,rfl,V,hle⟩
end
end Go.Proofs.YtibjocmpkoepoaaGreat
namespace Go.A5
theorem GH :∀l:List Data,A8 (l.map .d)=0
 |[]=>rfl
 |_::l=>by simp [A8,c7.J4,GH l]
end Go.A5
namespace Go.A5.S
def DE {A:Prog}{l:J2}{b:Nat}{dr:Bool}{j8 ops:List o3}{T:List c7}{H:j9}{n:Nat}{rl:List c7}{l6:List Touch}{Q:List c7->j9->List c7->Prop}{x:y4}{u:List Nat}{id o m:Nat}{vs ws:List c7}(hr:rd H id o m=J vs)(hv:vs.map c7.K9=ws)(h2:Ry A l b dr j8 ops T H (n+1) (.agg ws::rl) l6 Q)(hx:rq T n rl x= .ptr id o:=by rfl) :
  Ry A l b dr j8 (⟨.load (J m) x,K,K,u⟩::ops) T H n rl l6 Q:=Ry.pure (rs:=[id]) rfl (by simp [k8,hx,hr,hv]) h2
end Go.A5.S
namespace Go.Proofs.YtibjocmpkoepoaaGreat
open Go.A5 Go.A5.S
attribute [local irreducible] Rx Ry Rn Ex Pf Rl
structure az5 (v:Vw):Prop where
 on:O v.on<=100
 wh:O v.wh<=100
 items:O v.items<=100
 JC:∀x,x∈v.items->O x.expr<=100
 I6:O v.I6<=100
 TG:∀x,x∈v.I6->O x.expr<=100
def aB0 (p:Int×Int):List A5.Data:=[Z p.1,Z p.2]
def YY {α:Type}(enc:α->List A5.Data)(l:List α)(w:c7):Prop:=w.K9= .d (y6 enc l)/\w.J4=0
def vL (nm:K0)(kd:Int)(lf rt:K0)(on:List (Int×Int))(w5 w6:c7)(ds:Bool)(ag:List zA):List c7:=[.d (.str nm),.d (Z kd),.d (.str lf),.d (.str rt),B9 2 aB0 on,w5,w6,.d (.bool ds),B9 3 zA.enc ag]
def vO (nm:K0)(kd:Int)(lf rt:K0)(on:List (Int×Int))(w5 w6:c7)(ds:Bool)(ag:List zA):x4:= .cells (vL nm kd lf rt on w5 w6 ds ag)
def t38 (c:p9)(w6 w7 w8 w9 xb Mt Mu Mv:c7):List c7:=[.ptr 1 0,cat c,.d (y6 encS (p9.sn c)),.ptr 2 0,.ptr 3 0,.ptr 4 0,w6,w7,w8,w9,xb,Mt,Mu,Mv]
def u38 (ins:List Int)(m:Int)(Mu Mv:c7):List c7:=[.ptr 1 0,.any,.any,.any,.ptr 3 0,.ptr 4 0,.any,B9 1 (λn=>[Z n]) ins,.any,.any,.any,.d (Z m),Mu,Mv]
def z9:x4:= .cells [.d (.str []),.d (Z 0),.d (.str []),.d (.str []),.own 2 0 [],.own 5 0 [],.own 2 0 [],.d (.bool F),.own 3 0 []]
def NS {nm lf rt:K0}{kd:Int}{on:List (Int×Int)}{wh:List X0}{it:List zW}{w5 w6:c7}{ds:Bool}{ag:List zA}(h5:YY X0.enc wh w5)(h6:YY zW.enc it w6):(vL nm kd lf rt on w5 w6 ds ag).map c7.K9=(Vw.enc ⟨nm,kd,lf,rt,on,wh,it,ds,ag⟩).map .d:=by
 simp only [vL,G4,List.map_nil,h5.1,h6.1];rfl
def Wr {c:p9}(hs:G8 c)(hv:F1 c=W){s:K0}(h:s∈p9.sn c):∃(n:Int) (ty:List Int),(1<=O ty/\O ty<=8)/\Pf A 86 [cat c,.d (.str s)] (.d (Z n))/\Pf A 20 [cat c,.d (Z n)] (.d (ints ty)):=by
 obtain ⟨i,e,hi⟩:=Yw hv h;have p:=ar4 c hs s;rw [e] at p;have g:=jE hv (i+1) i V hi;exact ⟨_,_,⟨g.1,g.2.1⟩,p,aL4 c hs i (UQ hv hi)⟩
section
variable {xs:List Int} {o0:x4} {q:Nat} (hx:O xs<=35184372088832) (hq:q<=4 * O xs)
include hx hq
set_option maxHeartbeats 4000000 in
def q38 (c:p9)(hs:G8 c)(hv:F1 c=W)(hn:1<=O c.j7):Tq xs o0 l1 38 [.ptr 1 0,cat c,.d (y6 encS (p9.sn c))] q λv=>∃w:Vw,v= .agg (w.enc.map .d)/\az5 w:=by
 have DC:=hs.sm.iC;have xR:=Z6 c;unfold p9.ns at xR;obtain ⟨f0,f1,_⟩:=DC;obtain ⟨nm,pn⟩:=p41 [118] (by decide) (n:=O c.views) V V;refine Tq.go 11 ?_;refine gr ?_;refine Ex.region (rg 1 (h:=?_));refine gm ?_;refine yl pn ?_;refine yp _ (pBk Z [0,0,0,1,1,2]) ?_;refine gm ?_;refine lx λr q1 hq1 r0 r1=>?_
 refine gm ?_;refine lx λr2 q2 lJ s0 s1=>?_
 refine gm ?_;obtain ⟨kd,hkd⟩:∃kd,Y [(0:Int),0,0,1,1,2] r.toNat=kd:=⟨_,rfl⟩;have hlf:=H6 (show r2.toNat<O (p9.sn c) by omega);obtain ⟨lf,hle⟩:∃lf,Y (p9.sn c) r2.toNat=lf:=⟨_,rfl⟩;rw [hkd,hle];rw [hle] at hlf;refine Ex.nS (t38 c .any .any .any .any .any .any .any .any) [o0,tp xs q2,.cells (c.enc.map .d),z9,vO ([118]++[nm]) kd lf [] [] (.own 5 0 []) (.own 2 0 []) F []] ?_;obtain ⟨nm,hnm⟩:∃n,[118]++[nm]=n:=⟨_,rfl⟩;rw [hnm];refine Ex.seq ?_;refine Ex.block ?_;refine Ex.aG3 (λst=>∃(rt:K0) (q:Nat),q<=4 * O xs/\(rt=[]\/rt∈p9.sn c)/\st=⟨t38 c .any .any .any .any .any .any .any .any,[o0,tp xs q,.cells (c.enc.map .d),z9,vO nm kd lf rt [] (.own 5 0 []) (.own 2 0 []) F []]⟩) ?_ ?_
 .unfold t38 vO vL
  refine te trivial ?_ ?_
  .repeat' (first|refine DE (vs:=vL nm kd lf _ [] (.own 5 0 []) (.own 2 0 []) F []) rfl (NS (wh:=[]) (it:=[]) ⟨rfl,rfl⟩ ⟨rfl,rfl⟩) ?_|refine nx (λ_ _ _ _ _=>?_)|refine Ii (h2:=?_)|refine eN ?_|refine gx ?_|fail)
   exact ⟨_,_,rfl,by assumption,_,rfl,U,U,U,U,U,U⟩
  refine tt (λq3 oK=>?_) λq3 oK=>?_
  .repeat' (first|refine nx (λ_ _ _ _ _=>?_)|refine Ii (h2:=?_)|refine eN ?_|refine gx ?_|fail)
   exact ⟨_,_,by assumption,.inr (H6 V),rfl⟩
  refine tt (λq4 vW=>?_) λq4 vW=>?_
  .refine Ex.region (rg 0 (h:=?_))
   refine gm ?_;refine lx λr5 q5 Bl t0 t1=>?_
   refine gm ?_;exact ⟨_,_,by assumption,.inr (List.mem_append_left _ (List.mem_map_of_mem (H6 V))),rfl⟩
  .exact Ex.skip ⟨_,_,vW,.inl rfl,rfl⟩
 rintro _ ⟨rt,q3,oK,UH,rfl⟩;obtain ⟨n1,ty,⟨ty0,ty1⟩,pl1,pl2⟩:=Wr hs hv hlf;unfold t38 vO vL;refine gc (And.intro pl1 pl2) ?_;refine Ex.join (λst=>∃(ins:List Int) (on:List (Int×Int)) (w8 w9 xb:c7) (q:Nat),q<=4 * O xs/\1<=O ins/\O ins<=16/\O on<=1/\st=⟨t38 c (.d (ints ty)) (B9 1 (λn=>[Z n]) ins) w8 w9 xb .any .any .any,[o0,tp xs q,.cells (c.enc.map .d),z9,vO nm kd lf rt on (.own 5 0 []) (.own 2 0 []) F []]⟩) ?_ ?_
 .rcases UH with rfl|UH
  .refine tc F trivial (λh=>by cases h) (λ_=>?_)
   exact Ex.skip ⟨ty,[],_,_,_,q3,oK,ty0,V,U,rfl⟩
  refine te trivial ?_ (Ex.skip ⟨ty,[],_,_,_,q3,oK,ty0,V,U,rfl⟩);obtain ⟨n2,ty2,⟨tz0,tz1⟩,pr1,pr2⟩:=Wr hs hv UH
  repeat' (first|refine cl (pr1) ?_|refine cl (pr2) ?_|refine nx (λ_ _ _ _ _=>?_)|refine Ii (h2:=?_)|refine eN ?_|refine gx ?_|fail)
  refine tt (λq4 vW=>?_) λq4 vW=>?_
  .repeat' (first|refine oN (enc:=aB0) (_,_) ?_|refine Ik (h2:=?_)|refine gx ?_|fail)
   exact ⟨ty++ty2,[(_,_)],_,_,_,q4,vW,D,D,U,rfl⟩
  .exact Ex.skip ⟨ty++ty2,[],_,_,_,q4,vW,D,D,U,rfl⟩
 rintro _ ⟨ins,on,w8,w9,xb,q4,vW,i0,i1,ho,rfl⟩;refine Ex.seq ?_;refine Ex.join (λst=>∃(e:List X0) (w5:c7) (q:Nat),q<=4 * O xs/\O e<=100/\YY X0.enc e w5/\st=⟨t38 c (.d (ints ty)) (B9 1 (λn=>[Z n]) ins) w8 w9 xb .any .any .any,[o0,tp xs q,.cells (c.enc.map .d),z9,vO nm kd lf rt on w5 (.own 2 0 []) F []]⟩) ?_ ?_
 .unfold t38 vO vL
  refine tt (λq5 Bl=>?_) λq5 Bl=>Ex.skip ⟨[],_,q5,Bl,U,⟨rfl,rfl⟩,rfl⟩
  refine gr ?_;refine nx λr q6 OP r0 r1=>?_
  refine gr ?_;refine tq (q93 hx ins i0 V (1+r.toNat) V (2+r) _ _ OP V) ?_;have hz:=HX (d:=1+r.toNat) V;rintro _ q7 Dh ⟨e,he,rfl|rfl⟩
  all_goals
   repeat' (first|refine Ik (h2:=?_)|refine gx ?_|fail)
   exact ⟨e,_,q7,Dh,V,⟨rfl,rfl⟩,rfl⟩
 rintro _ ⟨wh,w5,q5,Bl,hwh,h5,rfl⟩;unfold t38 vO vL;refine Ex.seq ?_;refine te trivial ?_ ?_
 .refine gr ?_
  refine tq (q94 hx Bl ins i0 V 3 V) ?_;rintro _ q6 OP ⟨it,rfl,hi,hie⟩
  repeat' (first|refine DE (vs:=vL nm kd lf rt on w5 (.d (y6 zW.enc it)) _ []) rfl (NS (it:=it) h5 ⟨rfl,rfl⟩) ?_|refine nx (λ_ _ _ _ _=>?_)|refine Ii (h2:=?_)|refine eN ?_|refine gx ?_|fail)
  exact ⟨_,_,rfl,by assumption,_,rfl,by simp only;omega,hwh,by simp only;omega,λx h=>hie x h,U,U⟩
 refine Ex.skip ?_;refine Ex.seq ?_;refine Ex.join (λst=>∃(it:List zW) (w6:c7) (q:Nat),q<=4 * O xs/\O it<=100/\(∀x∈it,O x.expr<=100)/\YY zW.enc it w6/\st=⟨t38 c (.d (ints ty)) (B9 1 (λn=>[Z n]) ins) w8 w9 xb .any .any .any,[o0,tp xs q,.cells (c.enc.map .d),z9,vO nm kd lf rt on w5 w6 F []]⟩) ?_ ?_
 .refine tt (λq6 OP=>?_) λq6 OP=>Ex.skip ⟨[],_,q6,OP,U,U,⟨rfl,rfl⟩,rfl⟩
  refine gr ?_;refine tq (q94 hx OP ins i0 V 2 V) ?_;rintro _ q7 Dh ⟨it,rfl,hi,hie⟩;refine gr ?_;exact ⟨it,_,q7,Dh,V,hie,⟨rfl,rfl⟩,rfl⟩
 rintro _ ⟨it,w6,q6,OP,hi,hie,h6,rfl⟩;unfold t38;refine gr ?_;refine nx λr q7 Dh r0 r1=>?_
 refine gr ?_;refine Ex.S4 (λk T' H' =>∃(m:Int) (q:Nat) (ag:List zA),q<=4 * O xs/\m=k/\O ag+k<=3/\(∀x∈ag,O x.expr<=100)/\T' =u38 ins m .any .any/\H' =[o0,tp xs q,.cells (c.enc.map .d),z9,vO nm kd lf rt on w5 w6 F ag]) ?_ (k:=(1+r).toNat) ⟨1+r,q7,[],Dh,V,D,U,rfl,rfl⟩;rintro k _ _ ⟨m,q8,ag,Tp,hm,hl,hae,rfl,rfl⟩;unfold u38 vO vL;refine Ex.seq ?_;refine tl 0 m (λh=>?_) (λh=>?_)
 .obtain ⟨c1,pn⟩:=p41 [121] (by decide) (n:=O ag) V V
  obtain ⟨nn,Hl⟩:∃n,[121]++[c1]=n:=⟨_,rfl⟩;rw [Hl] at pn;refine gc pn ?_;refine nx λf q9 hq9 _ _=>?_
  repeat' (first|refine Ea (cs:=[.d (.str nn),.d (Z f),.own 5 0 []]) ?_|refine gx ?_|fail)
  refine Ex.join (λst=>∃(f:Int) (q:Nat),q<=4 * O xs/\st=⟨u38 ins m (.ptr 5 0) .any,[o0,tp xs q,.cells (c.enc.map .d),z9,vO nm kd lf rt on w5 w6 F ag,.cells [.d (.str nn),.d (Z f),.own 5 0 []]]⟩) ?_ ?_
  .refine tt (λq9 hq9=>?_) λq9 hq9=>Ex.skip ⟨_,q9,hq9,rfl⟩
   refine gr ?_;exact ⟨0,q9,hq9,rfl⟩
  rintro _ ⟨f,q9,hq9,rfl⟩;unfold u38 vO vL;refine Ex.seq ?_;refine Ex.join (λst=>∃(e:List X0) (w2 Mv:c7) (q:Nat),q<=4 * O xs/\O e<=100/\YY X0.enc e w2/\st=⟨u38 ins m (.ptr 5 0) Mv,[o0,tp xs q,.cells (c.enc.map .d),z9,vO nm kd lf rt on w5 w6 F ag,.cells [.d (.str nn),.d (Z f),w2]]⟩) ?_ ?_
  .refine te trivial ?_ (Ex.skip ⟨[],_,_,q9,hq9,U,⟨rfl,rfl⟩,rfl⟩)
   refine gr ?_;refine nx λt q10 aE3 t0 t1=>?_
   refine gr ?_;refine Ex.join (λst=>∃t:Int,st=⟨u38 ins m (.ptr 5 0) (.d (Z t)),[o0,tp xs q10,.cells (c.enc.map .d),z9,vO nm kd lf rt on w5 w6 F ag,.cells [.d (.str nn),.d (Z f),.own 5 0 []]]⟩) ?_ ?_
   .refine te trivial ?_ (Ex.skip ⟨_,rfl⟩)
    refine gr ?_;exact ⟨1,rfl⟩
   rintro _ ⟨t,rfl⟩;unfold u38 vO vL;refine gr ?_;refine nx λr q11 bk4 r0 r1=>?_
   refine gr ?_;refine tq (q93 hx ins i0 V r.toNat V (1+r) _ _ bk4 V) ?_;have hz:=HX (d:=r.toNat) V;rintro _ q12 bk5 ⟨e,he,rfl|rfl⟩
   all_goals
    repeat' (first|refine Ik (h2:=?_)|refine gx ?_|fail)
    exact ⟨e,_,_,q12,bk5,V,⟨rfl,rfl⟩,rfl⟩
  rintro _ ⟨e,w2,Mv,q10,aE3,he,h2,rfl⟩;unfold u38 vO vL;have hv:[c7.d (.str nn),.d (Z f),w2].map c7.K9=(zA.enc ⟨nn,f,e⟩).map .d:=by
   simp only [G4,List.map_nil,h2.1];rfl
  repeat' (first|refine DE (vs:=[.d (.str nn),.d (Z f),w2]) rfl hv ?_|refine oN (enc:=zA.enc) ⟨nn,f,e⟩ ?_|refine acN (enc:=zA.enc) (xs:=ag) ⟨nn,f,e⟩ (at1 V (by decide)) (h2:=?_)|refine Ik (h2:=?_)|refine gx ?_|fail)
  refine kk ⟨_,_,G5 (j6 rfl) ?_,m - 1,q10,ag++[⟨nn,f,e⟩],aE3,V,D,?_,rfl,rfl⟩
  .show F3 [.cells (c.enc.map .d),z9,vO nm kd lf rt on w5 w6 F _]<=5
   simp [F3,vO,vL,z9,x4.J4,A8,c7.J4,h5.2,h6.2,GH,B9]
  .intro x hx
   rcases N9.1 hx with hx|hx
   .exact hae x hx
   .rw [List.mem_singleton] at hx
    rw [hx];exact he
 .repeat' (first|refine DE (vs:=vL nm kd lf rt on w5 w6 F ag) rfl (NS h5 h6) ?_|refine gx ?_|fail)
  exact ⟨_,q8,rfl,Tp,⟨nm,kd,lf,rt,on,wh,it,F,ag⟩,rfl,by simp only;omega,hwh,hi,hie,by simp only;omega,hae⟩
end
structure az4 (t:fR):Prop where
 n:O t.o7<=100
 o:∀x,x∈t.o7->O x.D6<=200
structure me (c:p9)(a b n:Nat):Prop where
 tl:O c.j7<=a
 vl:O c.views<=b
 ts:∀x,x∈c.j7->az4 x
 vs:∀x,x∈c.views->az5 x
 il:O c.idxs<=n
 sl:O c.J7<=n
 cl:O c.L0<=n
 rl:O c.M7<=n
 ml:O c.O0<=n
 bl:O c.Q3<=n
 bk:∀x,x∈c.Q3->O x.tables<=100
def me.small {c:p9}{a b n:Nat}(h:me c a b n)(ha:a<=100)(hb:b<=100)(hn:n<=100):G8 c:=by
 obtain ⟨h1,h2,h3,h4,h5,h6,h7,h8,h9,h10,h11⟩:=h;refine ⟨⟨⟨V,V,V,V,V,V,V,V⟩,?_,?_⟩,?_,?_,?_,?_,?_,?_,?_⟩
 .intro k hk;have:=(h3 _ (H6 hk)).n;omega
 .intro k i hk hi;have:=(h3 _ (H6 hk)).o _ (H6 hi);omega
 .intro k hk;have:=(h4 _ (H6 hk)).items;omega
 .intro k hk;have:=(h4 _ (H6 hk)).I6;omega
 .intro k hk;have:=(h4 _ (H6 hk)).on;omega
 .intro k hk;have:=(h4 _ (H6 hk)).wh;omega
 .intro k i hk hi;have:=(h4 _ (H6 hk)).JC _ (H6 hi);omega
 .intro k i hk hi;have:=(h4 _ (H6 hk)).TG _ (H6 hi);omega
 .intro k hk;have:=h11 _ (H6 hk);omega
def uE {α:Type}{P:α->Prop}{l:List α}{a:α}(h:∀x,x∈l->P x)(ha:P a):∀x,x∈l++[a]->P x:=λx hx=>by
 rcases N9.1 hx with hx|hx
 .exact h x hx
 .rw [List.mem_singleton.1 hx]
  exact ha
def aL3 (c:p9)(hf:c.iC):Pf A 39 [cat c] (.d (y6 encS (p9.sn c))):=by
 obtain ⟨f0,f1,_⟩:=hf;refine Pf.gr 5 ?_;refine Ex.fh (λk T H=>∃(i:Nat) (acc:List K0) (v0 v2 w5:c7),T=[v0,.ptr 0 0,v2,B9 1 encS acc,.d (Z i),w5]/\H=[.cells (c.enc.map .d)]/\i+k=O c.j7/\acc=(c.j7.take i).map fR.name) ?_ (k:=O c.j7) ⟨0,[],_,_,_,rfl,rfl,U,U⟩;rintro k _ _ ⟨i,acc,v0,v2,w5,rfl,rfl,hk,hacc⟩;have hl:O acc=i:=by rw [hacc];simp;omega
 refine Ex.nT ?_
 repeat' (first|refine gy ?_|refine ft (λht=>?_) λht=>?_|refine ⟨_,rfl,?_⟩|fail)
 .have h1:=C8 ht
  refine kk ⟨i+1,acc++[(Y c.j7 i).name],_,_,_,rfl,rfl,V,?_⟩;rw [H8 V,hacc];simp
 have h1:=D4 ht;rw [A4 V] at hacc;clear ht h1 hk hl;subst hacc;refine Ex.fh (λk T H=>∃(i:Nat) (acc:List K0) (v0 v2 w4:c7),T=[v0,.ptr 0 0,v2,B9 1 encS acc,w4,.d (Z i)]/\H=[.cells (c.enc.map .d)]/\i+k=O c.views/\acc=c.j7.map fR.name++(c.views.take i).map Vw.name) ?_ (k:=O c.views) ⟨0,c.j7.map fR.name,_,_,_,rfl,rfl,U,U⟩;rintro k _ _ ⟨i,acc,v0,v2,w4,rfl,rfl,hk,hacc⟩;have hl:O acc=O c.j7+i:=by rw [hacc];simp;omega
 refine Ex.nT ?_
 repeat' (first|refine gy ?_|refine ft (λht=>?_) λht=>?_|refine ⟨_,rfl,?_⟩|fail)
 .have h1:=C8 ht
  refine kk ⟨i+1,acc++[(Y c.views i).name],_,_,_,rfl,rfl,V,?_⟩;rw [H8 V,hacc];simp
 have h1:=D4 ht;rw [A4 V] at hacc;clear ht h1 hk hl;subst hacc;simp [j4,y6,B9,p9.sn]
def z8:x4:= .cells [.own 4 0 [],.own 9 0 [],.own 3 0 [],.own 6 0 [],.own 4 0 [],.own 3 0 [],.own 2 0 [],.own 3 0 []]
section
variable {xs:List Int} {o0:x4} {q:Nat} (hx:O xs<=35184372088832) (hq:q<=4 * O xs)
include hx hq
set_option maxHeartbeats 4000000 in
def q13 {c:p9}(hv:F1 c=W){a b n:Nat}(hs:me c a b n)(hab:a<=50/\b<=50/\n<=50)(h1:1<=O c.j7)(m:Nat)(hm:m<=20) :
  Tq xs o0 l1 13 [.ptr 1 0,cat c,.d (Z m)] q λv=>∃c',v=cat c' /\F1 c' =W/\me c' a (b+m) n/\c'.j7=c.j7:=by
 refine Tq.go 4 ?_;refine gr ?_;refine Ex.S4 (λk T' H' =>∃(i:Nat) (q:Nat) (c' :p9),q<=4 * O xs/\i+k=m/\F1 c' =W/\me c' a (b+i) n/\c'.j7=c.j7/\T' =[.ptr 1 0,.any,.d (Z m),.ptr 2 0,.ptr 3 0,.d (Z i),.any]/\H' =[o0,tp xs q,.cells (c'.enc.map .d),z8]) ?_ (k:=m) ⟨0,q,c,hq,V,hv,hs,rfl,rfl,rfl⟩;rintro k _ _ ⟨i,q1,c',hq1,hk,YS,hs',ht,rfl,rfl⟩;refine Ex.seq ?_;have Ts:=hs'.small V V V;have hvl:=hs'.vl;refine tl i m (λh=>?_) (λh=>?_)
 .repeat' (first|refine cl (aL3 c' Ts.sm.iC) ?_|refine eN ?_|refine gx ?_|fail)
  refine tq (q38 hx hq1 c' Ts YS (by rw [ht];exact h1)) ?_;rintro _ q2 lJ ⟨w,rfl,hw⟩
  repeat' (first|refine oN (enc:=Vw.enc) w ?_|refine XN (enc:=Vw.enc) (ys:=[w]) (h2:=?_)|refine Ik (h2:=?_)|refine gx ?_|fail)
  obtain ⟨d,hd⟩:∃d:p9,{ c' with views:=c'.views++[w] }=d:=⟨_,rfl⟩;have hds:me d a (b+(i+1)) n:=by
   subst hd;exact { hs' with vl:=D,vs:=uE hs'.vs hw }
  have hdt:d.j7=c.j7:=by subst hd;exact ht
  refine Ex.test (Rn.text ?_)
  repeat' (first|refine DE (vs:=(c'.enc.map .d).set 1 (B9 9 Vw.enc (c'.views++[w]))) (ws:=d.enc.map .d) rfl (hd ▸ rfl) ?_|refine cl (Nv d (hds.small V V V)) ?_|refine gx ?_|fail)
  refine ⟨_,rfl,λh5=>?_,λh5=>?_⟩
  .repeat' (first|refine DE (vs:=(c'.enc.map .d).set 1 (B9 9 Vw.enc (c'.views++[w]))) (ws:=d.enc.map .d) rfl (hd ▸ rfl) ?_|refine gx ?_|fail)
   exact kk ⟨_,_,G5 (j6 rfl) (j6 rfl),i+1,q2,d,lJ,V,h5,hds,hdt,rfl,rfl⟩
  .refine gr ?_
   exact kk ⟨_,_,G5 (j6 rfl) (j6 rfl),i+1,q2,c',lJ,V,YS,{ hs' with vl:=by omega },ht,rfl,rfl⟩
 .refine gr ?_
  exact ⟨_,q1,rfl,hq1,c',rfl,YS,{ hs' with vl:=by omega },ht⟩
end
end Go.Proofs.YtibjocmpkoepoaaGreat
namespace Go.A5
def Ex.blk {A:Prog}{l:J2}{b id:Nat}{c:p7}{st:St}{R:J6->St->Prop}{go:St->Prop}(P:St->Prop)(h1:Ex A l b c st λx s=>(x= .normal\/x= .exit id)/\P s)(h2:∀s,P s->go s):Ex A l b c st (qZ id (oI R go)):=by
 refine h1.mono λx s h=>?_
 obtain ⟨rfl|rfl,h⟩:=h
 .exact h2 s h
 .simp only [qZ,if_true]
  exact h2 s h
def jr (p:U4×c7):List c7:=[.d (.str p.1.name),.d (Z p.1.type),.d (.str p.1.space),.d (.str p.1.refs),p.2,.d (Z p.1.fc),.d (Z p.1.kA)]
def cO (l:List (U4×c7)):x4:= .cells (l.flatMap jr)
theorem On:∀{l:List (U4×c7)} {i k:Nat},i<O l->k<7->(l.flatMap jr)[0+i * 7+k]? =(jr (Y l i))[k]? /\∀w p,(jr (Y l i)).set k w=jr p->(l.flatMap jr).set (0+i * 7+k) w=(l.set i p).flatMap jr
 |a::l,0,k,_,hk=>by
  have hl:O (jr a)=7:=rfl;refine ⟨?_,λw p hp=>?_⟩
  .rw [T8,O7,y8 V]
   simp
  .rw [T8] at hp
   rw [O7,List.set_append_left _ _ V,o4,O7,<- hp];simp
 |a::l,i+1,k,hi,hk=>by
  have hl:O (jr a)=7:=rfl;have ih:=On (l:=l) (i:=i) (k:=k) (by simpa using hi) hk;have e:0+(i+1) * 7+k=O (jr a)+(0+i * 7+k):=V
  refine ⟨?_,λw p hp=>?_⟩
  .rw [gp,O7,e,x7 V,Nat.add_sub_cancel_left]
   exact ih.1
  .rw [gp] at hp
   rw [O7,e,List.set_append_right _ _ V,Nat.add_sub_cancel_left,ih.2 w p hp];rfl
 |[],_,_,h,_=>by simp at h
def MH (l:List (U4×c7)):O (l.flatMap jr)=O l * 7:=by
 induction l with
 |nil=>rfl
 |cons a l ih=>rw [O7,l5,ih,o8,show O (jr a)=7 from rfl];omega
def Oo {H:j9}{id i k:Nat}{l:List (U4×c7)}{v:c7}(hi:i<O l)(hO:H[id]? =J (cO l))(hk:k<7)(h:(jr (Y l i))[k]? =J v):rd H id (0+i * 7+k) 1=J [v]:=by
 have h1:=(On hi hk).1.trans h;have h2:=MH l;obtain ⟨h3,h4⟩:=List.getElem?_eq_some_iff.1 h1;simp only [rd,hO,cO];rw [if_pos V,List.drop_eq_getElem_cons h3,h4];rfl
def Ee {H:j9}{id i k:Nat}{l:List (U4×c7)}{w:c7}(p:U4×c7)(hi:i<O l)(hO:H[id]? =J (cO l))(hk:k<7)(hp:(jr (Y l i)).set k w=jr p):wr H id (0+i * 7+k) [w]=J (H.set id (cO (l.set i p))):=by
 have h2:=MH l;have h3:0+i * 7+k<O (l.flatMap jr):=V
 have e:splice (l.flatMap jr) (0+i * 7+k) [w]=(l.flatMap jr).set (0+i * 7+k) w:=by
  simp only [splice,E4];rw [P6,if_pos h3];simp
 simp only [wr,hO,cO,E4,e,(On hi hk).2 w p hp];rw [if_pos V]
def AijQ {α:Type} [Inhabited α] {l:List α}{i:Nat}{p:α}(h:i<O l):Y (l.set i p) i=p:=by rw [F9 (by simpa using h)];simp
namespace S
section
variable {A:Prog} {l:J2} {b:Nat} {dr:Bool} {j8 ops:List o3} {T:List c7} {H:j9} {n:Nat} {rl:List c7} {l6:List Touch} {Q:List c7->j9->List c7->Prop}
def lpW {x:y4}{u:List Nat}{id o:Nat}{v w:c7}(hr:rd H id o 1=J [v])(hv:v.K9=w)(h2:Ry A l b dr j8 ops T H (n+1) (w::rl) l6 Q)(hx:rq T n rl x= .ptr id o:=by rfl):Ry A l b dr j8 (⟨.load K x,K,K,u⟩::ops) T H n rl l6 Q :=
 Ry.pure (rs:=[id]) rfl (by simp only [k8,hx,hr,hv]) h2
def ixS {x y:y4}{u:List Nat}{id lo len sz i:Nat}(h2:Ry A l b dr j8 ops T H (n+1) (.ptr id (lo+i * sz)::rl) l6 Q)(hx:rq T n rl x= .s6 id sz lo len:=by rfl)(hy:rq T n rl y= .d (.int .i64 (i:Int)):=by rfl)(h:i<len:=by omega):Ry A l b dr j8 (⟨.L2 sz x y,K,K,u⟩::ops) T H n rl l6 Q :=
 Ry.pure (rs:=[]) rfl (SE hx hy h) h2
def lnS {x:y4}{u:List Nat}{id sz lo len:Nat}(h2:Ry A l b dr j8 ops T H (n+1) (.d (.int .i64 (len:Int))::rl) l6 Q)(hx:rq T n rl x= .s6 id sz lo len:=by rfl):Ry A l b dr j8 (⟨.len x,K,K,u⟩::ops) T H n rl l6 Q :=
 Ry.pure (rs:=[]) rfl (by simp only [k8,hx,i64]) h2
def lcO {x:y4}{u:List Nat}{id i k:Nat}{c:List (U4×c7)}{v w:c7}(hx:rq T n rl x= .ptr id (0+i * 7+k):=by rfl)(hO:H[id]? =J (cO c):=by rfl)(hi:i<O c:=by omega)(hk:k<7:=by decide)(h:(jr (Y c i))[k]? =J v:=by rfl)(hv:v.K9=w:=by rfl)
  (h2:Ry A l b dr j8 ops T H (n+1) (w::rl) l6 Q):Ry A l b dr j8 (⟨.load K x,K,K,u⟩::ops) T H n rl l6 Q:=lpW (Oo hi hO hk h) hv h2 hx
def ZQ {id off j z n0:Nat}{y:y4}{u:List Nat}{cs:List Data}{H1 H2:j9}{r2:List c7}(hw:wr H id off [.own z n0 cs]=J H1)(hy:rq T n rl y= .ptr id off:=by rfl)(hj:lk n rl j=J (.own z n0 cs):=by rfl)(hjb:Nat.ble (j+1) n=W:=by rfl)(hl:l.may id=W:=by rfl)
  (hH:H1=H2:=by simp only [o4,o6]<;>rfl) (hS:rl.set (n - (j+1)) (.d (.slice n0 cs))=r2:=by simp only [N6,Nat.reduceSub,o4,o6]<;>rfl)
  (h2:Ry A l b F j8 ops T H2 (n+1) (.any::r2) (.obj id::l6) Q):Ry A l b F j8 (⟨.store 1 y (.loc j),K,K,u⟩::ops) T H n rl l6 Q:=λhn=>by
 subst hH hS;have hjl:rl.reverse[j]? =J (.own z n0 cs):=by rw [dD hn];exact hj
 have hL:∀r:List c7,(rl.reverse++ .any::r)[j]? =J (.own z n0 cs):=λr=>lM hjl _
 have hjn:j<O rl.reverse:=by have:=j6 hjb;rw [List.length_reverse,hn];omega
 have h3:∀r:List c7,(rl.reverse++ .any::r).set j (.d (.slice n0 cs))=rl.reverse.set j (.d (.slice n0 cs))++ .any::r:=λr=>List.set_append_left _ _ hjn
 have hlen:O (rl.reverse.set j (.d (.slice n0 cs)))=O rl.reverse:=U
 have h4:∀r:List c7,(rl.reverse.set j (.d (.slice n0 cs))++ .any::r).set (O rl.reverse) .any=rl.reverse.set j (.d (.slice n0 cs))++ .any::r:=λr=>by rw [<- hlen];exact K4 _ _ _ _
 have XP :=h2.to (by simp [hn]);rw [<- Al hn hjb] at XP;refine Rx.stepT (N1:=0) (rs:=[]) hlen (λk _=>?_) XP;have hl' :(K7 A k l b).lim.may id=W:=hl;have hx:A5.F6 ⟨T,H,rl.reverse++ .any::c8 (O ops) .any,l6⟩ (.loc j)=(.own z n0 cs,⟨T,H,rl.reverse.set j (.d (.slice n0 cs))++ .any::c8 (O ops) .any,l6⟩):=by
  simp only [A5.F6,hL,h3]
 have hb0:A8 [c7.own z n0 cs]<=id+1:=s9 _;have hc1:(c7.own z n0 cs).cells? =J [.own z n0 cs]:=rfl;simp only [y3,y9,B8,s8.B7,if_true,D3,Q0 hn,hy,S6,hx,hc1,E4,hl',hb0,true_or,and_self,hw,put,h4,s7,E2]
def at5 {id off:Nat}{x y:y4}{u:List Nat}{v:c7}{H1 H2:j9}(hw:wr H id off [v]=J H1)(hy:rq T n rl y= .ptr id off:=by rfl)(hx:Oq T n rl x v:=by exact ⟨rfl,rfl⟩)(hc:v.cells? =J [v]:=by rfl)(hl:l.may id=W:=by rfl)(hb:v.J4<=id+1:=by exact s9 _)
  (hH:H1=H2:=by simp only [o4,o6]<;>rfl) (h2:Ry A l b F j8 ops T H2 (n+1) (.any::rl) (.obj id::l6) Q):Ry A l b F j8 (⟨.store 1 y x,K,K,u⟩::ops) T H n rl l6 Q :=
 mS hy hx hc rfl hl (by simpa [A8] using hb) (hH ▸ hw) h2
def ctT {f:FuncId}{xs:List y4}{u:List Nat}{v:c7}{args T2:List c7}{m s:Nat}{H0 HD H1 H2:j9}{l2:J2}(hc:Pm A f args H0 l2 v H1)(Na:O H1=m)(iP:F3 ((H.take m).drop l.strict)<=m)(hcl:E6 H l.strict 8 (A8 args)=m)
  (MZ:H.take m=H0) (hle:m<=O H) (ov:(⟨l.Mo,l.Mn,m,B5 H l.strict m⟩:J2)=l2) (ha:xs.map (rq T n rl)=args) (iD:A.prom f=F) (hm:A.mode f=0) (hD:H.drop m=HD) (hA:H1++HD=H2) (hv:v.K9=v) (hs:s<O T) (hT:T.set s v=T2)
  (h2:Ry A l b F j8 ops T2 H2 (n+1) (v::rl) (.slot s:: .below m::l6) Q):Ry A l b F j8 (⟨.call f xs,J s,K,u⟩::ops) T H n rl l6 Q:=λhn=>by
 obtain ⟨d7,hc⟩:=hc;subst MZ hD hA hT;refine Rx.stepT (N1:=d7) (rs:=[]) rfl (λk hk=>?_) (h2.to hn);have h3:C9 (K7 A k l b) (O rl.reverse) f args ⟨T,H,rl.reverse++ .any::c8 (O ops) .any,l6⟩=J (put ⟨T,H1++H.drop m,rl.reverse++ .any::c8 (O ops) .any,.below m::l6⟩ (O rl.reverse) v) :=
  mz iD hm hcl hle iP ov (hc k hk) Na
 have h4:∀r:List c7,(rl.reverse++v::r)[O rl.reverse]? =J v:=λr=>U
 have h5:∀r,A5.F6 ⟨T,H1++H.drop m,rl.reverse++v::r,.below m::l6⟩ (.loc (O rl.reverse))=(v,⟨T,H1++H.drop m,rl.reverse++v::r,.below m::l6⟩):=λr=>by
  simp only [A5.F6,h4];split
  .rename_i heq;cases heq;simp [c7.K9] at hv
  .rename_i heq;cases heq;simp [c7.K9] at hv
  .simp [A5.G7,hv]
 simp only [y3,y9,B8,s8.B7,if_true,D3,cQ hn,ha,h3,s7,E2,put,K4,hs,h5]
def tS {c:y4}{d e:p7}{Q:J6->St->Prop}(x y:Int)(h2:x<y->Ex A l b d ⟨T,H⟩ Q)(h3:y<=x->Ex A l b e ⟨T,H⟩ Q)
  (h:Rn A l b ops F T H λT' H' L=>T' =T/\H' =H/\∃t',G7 T' L c= .d (.bool t')/\t' =F0 x y:=by refine Rn.text ?_;(repeat' (first|refine lnS ?_|refine gx ?_|refine ⟨rfl,rfl,_,rfl,?_⟩|fail));rfl) :
  Ex A l b (.test ops F c d e) ⟨T,H⟩ Q:=Ex.gw (F0 x y) h (λh=>h2 (C8 h)) λh=>h3 (D4 h)
end
end S
end Go.A5
namespace Go.Proofs.YtibjocmpkoepoaaGreat
open Go.A5 Go.A5.S
attribute [local irreducible] Rx Ry Rn Ex Pf Rl
def Mm (n:Int):List A5.Data:=[Z n]
def p97 (l:List Int)(hl:O l<=1000)(m:Int):∃v,(∃k:List Int,O k<=O l+1/\(v=B9 1 Mm k\/v= .d (y6 Mm k)))/\Pf A 97 [.d (y6 Mm l),.d (Z m)] v:=by
 refine Pe.go 2 ?_;refine gr ?_;refine Ex.M4 (λk T H=>∃i:Nat,i+k=O l/\T=[.d (y6 Mm l),.d (Z m),.any,.d (Z i)]/\H=[]) ?_ (k:=O l) ⟨0,V,rfl,rfl⟩;rintro k _ _ ⟨i,hk,rfl,rfl⟩;refine Ex.seq ?_;refine tc (F0 i (O l)&&F0 (Y l i) m) trivial (λh=>?_) (λh=>?_)
 .have h:=C8 (c9 _ _ ▸ h).1
  refine gr ?_;exact kk ⟨i+1,V,rfl,rfl⟩
 .refine gr ?_
  refine te trivial ?_ ?_
  .refine gr ?_
   exact ⟨_,rfl,l,V,.inr rfl⟩
  .refine gr ?_
   exact ⟨_,rfl,l.take i++[m]++l.drop i,D,.inl rfl⟩
def h6 (o0:x4)(xs:List Int)(q:Nat)(X3 X4:x4)(l:List (U4×c7)):j9:=[o0,tp xs q,z8,X3,X4,cO l]
def tA (nm:K0)(n:Nat)(er rt:Int):List c7:=[.d (.str nm),.s6 5 7 0 n,.d (Z er),.d (Z rt)]
set_option maxHeartbeats 1000000 in
def p96 {o0:x4}{xs:List Int}{q:Nat}{X3 X4:x4}(l:List (U4×c7))(hl:O l<=100)(nm:K0)(er rt:Int):∃k:List Int,O k<=O l/\Pm A 96 [.agg (tA nm (O l) er rt)] (h6 o0 xs q X3 X4 l) ⟨0,6,6,2⟩ (.d (y6 Mm k)) (h6 o0 xs q X3 X4 l):=by
 have key:Pq A 96 [.agg (tA nm (O l) er rt)] (h6 o0 xs q X3 X4 l) ⟨0,6,6,2⟩ λv H=>∃k:List Int,O k<=O l/\v= .d (y6 Mm k)/\H=h6 o0 xs q X3 X4 l:=by
  unfold h6 tA;refine Pq.go (b:=6) 4 ?_;refine gr ?_;refine Ex.M4 (λk T H=>∃(i:Nat) (a:List Int),i+k=O l/\O a<=i/\T=[.any,.ptr 6 0,.any,B9 1 Mm a,.d (Z i)]/\H=h6 o0 xs q X3 X4 l++[.cells (tA nm (O l) er rt)]) ?_ (k:=O l) ⟨0,[],V,U,rfl,rfl⟩;rintro k _ _ ⟨i,a,hk,ha,rfl,rfl⟩;unfold h6 tA;refine Ex.seq ?_;refine tS i (O l) (λh=>?_) (λh=>?_)
  .refine gr ?_
   refine Ex.KI (Rn.text ?_) ?_ ?_
   .repeat' (first|refine ixS ?_|refine lcO (h2:=?_)|refine gx ?_|refine fq (λhw=>?_) λhw=>?_|refine ⟨rfl,rfl,_,rfl,?_⟩|refine ⟨rfl,rfl⟩|fail)
    all_goals exact ⟨rfl,rfl,_,rfl⟩
   .refine gr ?_
    exact kk ⟨i+1,a++[(i:Int)],V,D,rfl,rfl⟩
   .refine gr ?_
    exact kk ⟨i+1,a,V,V,rfl,rfl⟩
  .refine gr ?_
   exact ⟨_,_,rfl,a,V,rfl,rfl⟩
 obtain ⟨_,_,⟨k,hk,rfl,rfl⟩,p⟩:=key;exact ⟨k,hk,p⟩
end Go.Proofs.YtibjocmpkoepoaaGreat
namespace Go.A5
section
variable {A:Prog} {l:J2} {b:Nat} {j8 ops:List o3} {T:List c7} {H:j9} {n:Nat} {rl:List c7} {l6:List Touch} {na:Nat} {lg:List gC} {Q:List c7->j9->List c7->Prop}
def Rl.aO6 {i:o3}{T' rl' :List c7}{H' :j9}{v:c7}{aY :List Touch}{rs:List Nat}{e:gC}(hu:j8.any (λa=>a.cR.contains n)=F)(hlen:O rl'=O rl)
  (h:O rl=n->∀k,y3 (K7 A k l b) j8 (if i.op.y7 then J na else K) n i ⟨T,H,rl.reverse++ .any::c8 (O ops) .any,l6⟩=J (⟨T',H',rl'.reverse++v::c8 (O ops) .any,aY⟩,rs))
  (he:O rl=n->∀k,Y9 (K7 A k l b) i (if i.op.y7 then J na else K) ⟨T,H,rl.reverse++ .any::c8 (O ops) .any,l6⟩ ⟨T',H',rl'.reverse++v::c8 (O ops) .any,aY⟩ rs=e)
  (h2:Rl A l b j8 ops T' H' (n+1) (v::rl') aY (if i.op.y7 then na+1 else na) (e::lg) Q):Rl A l b j8 (i::ops) T H n rl l6 na lg Q:=λhn=>by
 obtain ⟨r,N,hq,h2⟩:=h2 (by simp [hn,hlen]);refine ⟨r,N,hq,λk hkk=>?_⟩;obtain ⟨Zb,e1,e2⟩:=h2 k hkk;have h4:=h hn k;have e1' :Q1 (K7 A k l b) j8 ops (n+1) (if i.op.y7 then na+1 else na) ⟨T',H',rl'.reverse++v::c8 (O ops) .any,aY⟩=J (r,Zb):=by simpa using e1
 have hf:∀st,j8.any (λa=>a.cR.contains n&& !calm st i.op a)=F:=λst=>by
  rw [List.any_eq_false] at hu ⊢;intro a ha;have:=hu a ha;simp only [Bool.not_eq_true] at this;rw [this];simp
 refine ⟨e::Zb,?_,by simpa using e2⟩;simp only [Q1,o8,O8,ja,hf,Bool.and_false,j5,if_false,h4,e1',he hn k]
namespace S
def lAk {x y:y4}{u:List Nat}{sz bytes id len m k2 DH :Nat}{old cs T2 rl2:List c7}{H2:j9}(hx:rq T n rl x= .s6 id sz 0 len:=by rfl)(ho:H[id]? =J (.cells old):=by rfl)(hr:roomFor (len+m) bytes=W)(hc:C7 H sz (rq T n rl y)=J (m,cs))(hol:len * sz=O old)(hone:cs.all c7.one=W)(hbc:A8 cs=0)
  (hid:Nat.ble l.base id=W:=by rfl) (Uz:Nat.ble b id=W:=by rfl) (hl:l.may id=W:=by rfl) (hsz:Nat.ble 1 sz=W:=by rfl) (hu:j8.any (λa=>a.cR.contains n)=F:=by rfl)
  (hT:O6 id T=T2:=by rfl) (hL:O6 id rl=rl2:=by rfl) (hH:(H.take l.base++(H.drop l.base).map (x4.kill id)).set id (.cells (O6 id old++cs))=H2:=by rfl)
  (hk2:len+m=k2:=by rfl) (hna:na+1=DH :=by rfl) (h2:Rl A l b j8 ops T2 H2 (n+1) (.s6 id sz 0 k2::rl2) (.obj id::l6) DH (⟨[],[.obj na,.obj id],0,na⟩::lg) Q):Rl A l b j8 (⟨.append sz bytes W x y,K,K,u⟩::ops) T H n rl l6 na lg Q:=by
 subst hT hH hL hk2 hna;have hid:=j6 hid;have Uz:=j6 Uz;have hsz:0<sz:=j6 hsz;refine Rl.aO6 (rs:=[]) hu (by simp [S2]) (λhn k=>?_) (λhn k=>?_) h2
 .have hl' :(K7 A k l b).lim.may id=W:=hl
  have he:(K7 A k l b).lim.base<=id/\(K7 A k l b).entry<=id/\(K7 A k l b).lim.may id=W:=⟨hid,Uz,hl'⟩;have hk:A8 cs<=id:=V
  have hn2:O (O6 id rl)=n:=by rw [S2];exact hn
  have h5:X8 (K7 A k l b) n sz bytes ⟨T,H,rl.reverse++ .any::c8 (O ops) .any,l6⟩ id 0 len (rq T n rl y)=J (put ⟨O6 id T,(H.take l.base++(H.drop l.base).map (x4.kill id)).set id (.cells (O6 id old++cs)),(O6 id rl).reverse++ .any::c8 (O ops) .any,.obj id::l6⟩ n (.s6 id sz 0 (len+m))):=by
   simp only [X8,he,and_self,if_true,ho,hc,hol,hr,hk,hone,hsz,Sm];rfl
  simp only [s8.y7,if_true,y3,y9,B8,s8.B7,D3,Q0 hn,hx,h5,s7,V4,put,oy hn2]
 .have:O l6+1 - O l6=1:=V
  simp [Y9,bw,s8.y7,J1,this]
def lAz {sz bytes j j2 id off m DH :Nat}{y:y4}{u:List Nat}{a:o3}{cs l0:List c7}{H2:j9}(hc:C7 H sz (rq T n rl y)=J (m,cs))(aQ:roomFor m bytes=W/\0<sz)(hm:m≠0)(hL:lk n rl j=J (.d (.slice 0 [])):=by rfl)(ha:j8[j]? =J a:=by rfl)(hz:a.op= .load K (.loc j2):=by rfl)(hp:lk n rl j2=J (.ptr id off):=by rfl)(ht:l6.any (Touch.aO id off)=F:=by rfl)(hmay:l.may id=W:=by rfl)
  (hO:H[id]? =J (.cells l0):=by rfl) (h0:l0[off]? =J .N7:=by rfl) (hH:H.set na (.cells cs)=H2:=by simp only [o4,o6]<;>rfl) (hna:na+1=DH :=by rfl)
  (h2:Rl A l b j8 ops T H2 (n+1) (.s6 na sz 0 m::rl) l6 DH (⟨[],[.obj na],0,na⟩::lg) Q):Rl A l b j8 (⟨.append sz bytes W (.loc j) y,K,K,u⟩::ops) T H n rl l6 na lg Q:=by
 subst hH hna;have XY:∀{i v},O rl=n->lk n rl i=J v->(rl.reverse++ .any::c8 (O ops) .any)[i]? =J v:=λhn h=>lM (by rw [dD hn];exact h) _
 have hx:O rl=n->A5.G7 T (rl.reverse++ .any::c8 (O ops) .any) (.loc j)= .d (.slice 0 []):=λhn=>by
  simp only [A5.G7,List.getD_eq_getElem?_getD,XY hn hL];rfl
 have hnil:O rl=n->∀k,isNil (K7 A k l b).lim j8 ⟨T,H,rl.reverse++ .any::c8 (O ops) .any,l6⟩ (.loc j)=W:=λhn k=>by
  have Jo :(K7 A k l b).lim.may id=W:=hmay;simp only [isNil,XY hn hL,ha,hz,iS,bU,XY hn hp,ht,Jo,hO,h0];rfl
 have hk:∀L,O rl=n->L=rl.reverse++ .any::c8 (O ops) .any->G9 ⟨T,H,L,l6⟩ (.append sz bytes W (.loc j) y)=F:=λL hn e=>by
  subst e;simp only [G9,hx hn]
 intro hn;obtain ⟨r,N,hq,h2⟩:=h2 (by simp [hn]);refine ⟨r,N,hq,λk hkk=>?_⟩;obtain ⟨Zb,e1,e2⟩:=h2 k hkk;have e1' :Q1 (K7 A k l b) j8 ops (n+1) (na+1) ⟨T,H.set na (.cells cs),rl.reverse++ .s6 na sz 0 m::c8 (O ops) .any,l6⟩=J (r,Zb):=by simpa using e1
 have h4:y3 (K7 A k l b) j8 (J na) n ⟨.append sz bytes W (.loc j) y,K,K,u⟩ ⟨T,H,rl.reverse++ .any::c8 (O ops) .any,l6⟩=J (⟨T,H.set na (.cells cs),rl.reverse++ .s6 na sz 0 m::c8 (O ops) .any,l6⟩,[]):=by
  simp only [y3,y9,B8,s8.B7,if_true,D3,hx hn,Q0 hn,L8,hc,hnil hn k,aQ,and_self,hm,if_false,E1,newId,Option.getD_some,put,oy hn,s7,V4]
 refine ⟨⟨[],[.obj na],0,na⟩::Zb,?_,by simpa using e2⟩;simp only [Q1,o8,O8,ja,hk _ hn rfl,Bool.false_and,j5,if_false,s8.y7,if_true,h4,e1'];simp [Y9,bw,J1]
def lC2 {f:FuncId}{xs:List y4}{u:List Nat}{v:c7}{args:List c7}{m nn:Nat}{H0 H1 H2:j9}{l2:J2}(hc:Pm A f args H0 l2 v H1)(Na:O H1=nn)(iP:F3 ((H.take nn).drop l.strict)<=nn)(hcl:E6 H l.strict 8 (A8 args)=nn)(hmn:m<=nn)(hm' :(args.headD .any).J4=m)
  (MZ:H.take nn=H0) (hle:nn<=O H) (ov:l.jR m nn nn (B5 H l.strict nn)=l2) (hD:H1.take m++H.drop m=H2:=by simp only [List.take_succ_cons,List.take_zero,List.drop_succ_cons,List.drop_zero,x6,y5]<;>rfl)
  (h2:Rl A l b j8 ops T H2 (n+1) (v::rl) (.below m::l6) na (⟨[],[.below m],nn,0⟩::lg) Q) (ha:xs.map (rq T n rl)=args:=by rfl) (iD:A.prom f=F:=by rfl) (hm:A.mode f=2:=by rfl):Rl A l b j8 (⟨.call f xs,K,K,u⟩::ops) T H n rl l6 na lg Q:=by
 obtain ⟨d7,hc⟩:=hc;subst MZ hD ov hm';have Sg :∀k,(K7 A k l b).prom f=F:=λ_=>iD
 have hmo:∀k,(K7 A k l b).mode f=2:=λ_=>hm
 have YE :∀k,E6 H (K7 A k l b).lim.strict 8 (A8 args)=nn:=λ_=>hcl
 refine Rl.step (N1:=d7) (rs:=[]) (λ_=>rfl) (λhn k hk=>?_) (λhn k=>?_) h2
 .have Jj:(K7 A k l b).cf f args (H.take nn) ((K7 A k l b).lim.jR (args.headD .any).J4 nn nn (B5 H (K7 A k l b).lim.strict nn))=J (v,H1):=hc k hk
  have bh9 :F3 ((H.take nn).drop (K7 A k l b).lim.strict)<=nn:=iP;have h3:C9 (K7 A k l b) n f args ⟨T,H,rl.reverse++ .any::c8 (O ops) .any,l6⟩=J (put ⟨T,H1.take (args.headD .any).J4++H.drop (args.headD .any).J4,rl.reverse++ .any::c8 (O ops) .any,.below (args.headD .any).J4::l6⟩ n v):=by
   simp only [C9,Sg,hmo,YE,hle,bh9,Jj,Na,hmn,and_self,if_true,j5,if_false]
  simp only [s8.y7,j5,if_false,y3,y9,B8,s8.B7,if_true,D3,cQ hn,ha,h3,s7,E2,put,oy hn]
 .simp [Y9,bw,J1,s8.y7,Sg,cQ hn,ha,YE]
end S
end
end Go.A5
namespace Go.Proofs.YtibjocmpkoepoaaGreat
open Go.A5 Go.A5.S
attribute [local irreducible] Rx Ry Rn Ex Pf Rl
def xL (nm:K0)(ty:Int)(ns rf:K0):x4:= .cells [.d (.str nm),.d (Z ty),.d (.str ns),.d (.str rf),.own 1 0 [],.d (Z 0),.d (Z 0)]
def t42 (c:p9)(ts:List c7)(i p:Nat)(w7 w8:c7):List c7:=[.ptr 1 0,cat c,.agg ts,.d (Z i),.ptr p 0,.ptr (p+2) 0,.ptr (p+3) 0,w7,w8]
def z7:x4:= .cells [.d (.str []),.d (Z 0),.d (.str []),.d (.str []),.own 1 0 [],.d (Z 0),.d (Z 0)]
def k42 (c:p9)(ts:List c7)(nm:K0)(ty:Int)(ns rf:K0):j9:=[.cells (c.enc.map .d),.cells ts,z7,xL nm ty ns rf]
def bw3 {r:Int}(h0:0<=r)(h1:r<4):∃t:Int,M1 .quo (Z r) (Z 3)=J (.int .i64 t)/\0<=t/\t<=1:=by
 have:r=0\/r=1\/r=2\/r=3:=V
 rcases this with rfl|rfl|rfl|rfl
 .exact ⟨0,rfl,by decide,by decide⟩
 .exact ⟨0,rfl,by decide,by decide⟩
 .exact ⟨0,rfl,by decide,by decide⟩
 .exact ⟨1,rfl,by decide,by decide⟩
section
variable {xs:List Int} {o0:x4} {q:Nat} (hx:O xs<=35184372088832) (hq:q<=4 * O xs)
include hx hq
set_option maxHeartbeats 4000000 in
def p42 (c:p9)(hc:O c.j7<=1000)(hc1:∀t,t∈c.j7->1<=O t.o7)(i:Nat)(hi:i<=1000)(p:Nat)(HD:j9)(ts:List c7)(hp:(p=2/\HD=[]/\∃a b c d,ts=[.d a,.d b,.d c,.d d])\/(p=6/\∃X2 X3 X4 X5 a m b c,HD=[X2,X3,X4,X5]/\ts=[.d a,.s6 5 7 0 m,.d b,.d c])) :
  ∃(x:U4) (q' :Nat),x.D6=[]/\q' <=4 * O xs/\Pm A 42 [.ptr 1 0,cat c,.agg ts,.d (Z i)] (o0::tp xs q::HD) ⟨2,p,p,2⟩ (.agg (x.enc.map .d)) (o0::tp xs q' ::HD):=by
 obtain ⟨nm,pn⟩:=p41 [99] (by decide) (n:=i) V V;have key:Pq A 42 [.ptr 1 0,cat c,.agg ts,.d (Z i)] (o0::tp xs q::HD) ⟨2,p,p,2⟩ λv H=>∃(x:U4) (q' :Nat),x.D6=[]/\q' <=4 * O xs/\v= .agg (x.enc.map .d)/\H=o0::tp xs q' ::HD:=by
  rcases hp with ⟨hp,hD,a1,a2,a3,a4,ht⟩|⟨hp,X2,X3,X4,X5,a1,m,a3,a4,hD,ht⟩
  all_goals
   refine Pq.go (b:=p) 5 ?_ (hb:=by rw [hp,hD];rfl);rw [hp,hD,ht];refine gc pn ?_;refine nx λr q1 hq1 r0 r1=>?_
   repeat' (first|refine Ea (cs:=[.d (.str ([99]++[nm])),.d (Z (1+r)),.d (.str []),.d (.str []),.own 1 0 [],.d (Z 0),.d (Z 0)]) ?_|refine gx ?_|fail)
   refine Ex.join (λst=>∃(ty:Int) (q:Nat),q<=4 * O xs/\1<=ty/\ty<=2/\st=⟨t42 c ts i p .any .any,o0::tp xs q::(HD++k42 c ts ([99]++[nm]) ty [] [])⟩) ?_ ?_
   .refine te trivial ?_ (Ex.skip ⟨1+r,q1,hq1,V,V,by rw [hp,hD,ht];rfl⟩)
    refine gr ?_;refine nx λr2 q2 lJ s0 s1=>?_
    obtain ⟨t,e,t0,t1⟩:=bw3 s0 s1
    repeat' (first|refine bq e ?_|refine gx ?_|fail)
    exact ⟨1+t,q2,lJ,V,V,by rw [hp,hD,ht];rfl⟩
   rintro _ ⟨ty,q2,lJ,ty0,ty1,rfl⟩;unfold t42 k42;rw [hp,hD,ht];simp only [x6,y5,N6];refine gr ?_;refine nx λr2 q3 oK s0 s1=>?_
   refine gr ?_;refine Ex.Wn (λst=>∃(ty:Int) (ns rf:K0) (w8:c7) (q:Nat) (X:j9),q<=4 * O xs/\st=⟨t42 c ts i p (.d (Z r2)) w8,o0::tp xs q::(HD++k42 c ts ([99]++[nm]) ty ns rf++X)⟩) ?_ ?_
   .refine te trivial ?_ ?_
    .repeat' (first|refine bk .str [[112,101,114,115,111,110],[109,97,105,108]] ?_|refine Ii (h2:=?_)|refine gx ?_|fail)
     exact ⟨ty,_,[],_,q3,[],oK,by rw [hp,hD,ht];rfl⟩
    refine tc (aH r2 2&&(F0 0 (O c.j7)&&F0 0 i)) trivial (λh=>?_) (λh=>?_)
    .have h0:0<O c.j7:=by
      have:=C8 (c9 _ _ ▸ (c9 _ _ ▸ h).2).1;omega
     refine Ex.seq ?_;refine Ex.region (rg 1 (h:=?_));refine gm ?_;refine lx λr3 q4 vW t0 t1=>?_
     have h1:=hc1 _ (H6 (show r3.toNat<O c.j7 by omega));obtain ⟨t,hte⟩:∃t,Y c.j7 r3.toNat=t:=⟨_,rfl⟩;rw [hte] at h1;refine gm ?_;rw [hte];refine yp _ (Vq (cs:=t.enc) rfl rfl) ?_;refine gm ?_;refine Ex.region (rg 0 (h:=?_));refine gm ?_;exact ⟨(Y t.o7 0).type,[],t.name,_,q4,[.cells (t.enc.map .d)],vW,by rw [hp,hD,ht];rfl⟩
    .exact Ex.skip ⟨ty,[],[],_,q3,[],oK,by rw [hp,hD,ht];rfl⟩
   rintro _ ⟨ty,ns,rf,w8,q4,X,vW,rfl⟩;unfold t42 k42;rw [hp,hD,ht];simp only [x6,y5,N6]
   repeat' (first|refine DE (ws:=(U4.enc ⟨[99]++[nm],ty,ns,rf,[],0,0⟩).map .d) rfl rfl ?_|refine gx ?_|fail)
   exact ⟨_,_,rfl,_,q4,rfl,vW,rfl,rfl⟩
 obtain ⟨_,_,⟨x,q',h1,h2,rfl,rfl⟩,p⟩:=key;exact ⟨x,q',h1,h2,p⟩
end
end Go.Proofs.YtibjocmpkoepoaaGreat
namespace Go.A5
def bC (l:List c7):(x4.cells l).J4=A8 l:=rfl
end Go.A5
namespace Go.A5.S
section
variable {A:Prog} {l:J2} {b:Nat} {dr:Bool} {j8 ops:List o3} {T:List c7} {H:j9} {n:Nat} {rl:List c7} {l6:List Touch} {Q:List c7->j9->List c7->Prop}
def acO {i j k id len m:Nat}{c:List (U4×c7)}{x:U4}{cells new:List Data}{y:y4}{u u' :List Nat}{d' :Option Nat}{g' :Option (Nat×Bool)}{n' :Nat}{cs' :List Data}{H2:j9}(hn:Y c i=(x,.own 1 len cells))(hi:i<O c)(hr:roomFor (len+m) 8=W)(hy:rq T n rl y= .d (.slice m new):=by rfl)(hm:O new=m * 1:=by rfl)
  (hj:lk n rl j=J (.d (.slice n' cs')):=by rfl) (ha:j8[j]? =J ⟨.load K (.loc k),d',g',u'⟩:=by rfl) (hk:lk n rl k=J (.ptr id (0+i * 7+4)):=by rfl) (ht:l6.any (Touch.aO id (0+i * 7+4))=F:=by rfl) (hl:l.may id=W:=by rfl) (ho:H[id]? =J (cO c):=by rfl)
  (hH:H.set id (cO (c.set i (x,.d (.slice len cells))))=H2:=by simp only [o4,o6]<;>rfl)
  (h2:Ry A l b dr j8 ops T H2 (n+1) (.own 1 (len+m) (cells++new)::rl) (.cell id (0+i * 7+4)::l6) Q):Ry A l b dr j8 (⟨.append 1 8 F (.loc j) y,K,K,u⟩::ops) T H n rl l6 Q:=by
 have h7:=On (l:=c) (k:=4) hi (by decide);refine Ry.Yh (cells:=cells) hj ha hk ht hl ho ?_ hy hm hr (by decide) ?_
 .rw [h7.1,hn]
  rfl
 .rw [h7.2 _ (x,.d (.slice len cells)) (by rw [hn];rfl)]
  subst hH;exact h2
end
end Go.A5.S
namespace Go.Proofs.YtibjocmpkoepoaaGreat
open Go.A5 Go.A5.S
attribute [local irreducible] Rx Ry Rn Ex Pf Rl
def wf (d9:Nat)(l:List (U4×c7)):Prop:=∀p,p∈l->YY Mm p.1.D6 p.2/\O p.1.D6<=d9
theorem wf.set {d9:Nat}{l:List (U4×c7)}(h:wf d9 l){i:Nat}(hi:i<O l){p:U4×c7}(hp:YY Mm p.1.D6 p.2)(hb:O p.1.D6<=d9):wf d9 (l.set i p)/\O (l.set i p)=O l/\Y (l.set i p) i=p :=
 ⟨λx hx=>(List.mem_or_eq_of_mem_set hx).elim (h x) λe=>e ▸ ⟨hp,hb⟩,U,AijQ hi⟩
theorem wf.mono {d9 C:Nat}{l:List (U4×c7)}(h:wf d9 l)(hb:d9<=C):wf C l:=λp hp=>⟨(h p hp).1,s5 (h p hp).2 hb⟩
theorem wf.J4 {d9:Nat}:∀{l:List (U4×c7)},wf d9 l->A8 (l.flatMap jr)=0
 |[],_=>rfl
 |p::l,h=>by
  have h1:=(h p U).1.2;have h2:=wf.J4 (l:=l) λx hx=>h x (by simp [hx])
  simp [jr,A8,c7.J4,h1,h2]
def tO (nm:K0)(n:Nat)(er rt:Int):x4:= .cells (tA nm n er rt)
def z4:x4:= .cells [.d (.str []),.N7,.d (Z 0),.d (Z 0)]
def XW (c:p9)(nm:K0)(n:Nat)(er rt:Int):j9:=[.cells (c.enc.map .d),tO nm n er rt,z4]
def t43 (L:List Int)(i:Int)(w8 w9 xb Mt Mu Mv:c7):List c7:=[.ptr 1 0,.any,.any,.ptr 6 0,.ptr 7 0,.ptr 8 0,.d (y6 Mm L),.d (Z i),w8,w9,xb,Mt,Mu,Mv]
def u43 (i:Int)(Mu Mv:c7):List c7:=[.any,.any,.any,.ptr 6 0,.ptr 7 0,.ptr 8 0,.any,.any,.any,.any,.any,.d (Z i),Mu,Mv]
section
variable {xs:List Int} {o0:x4} {q:Nat} (hx:O xs<=35184372088832) (hq:q<=4 * O xs)
include hx hq
set_option maxHeartbeats 8000000 in
def p43 (c:p9)(hc:O c.j7<=10)(hc1:∀t,t∈c.j7->1<=O t.o7)(X3:x4)(h3:X3.J4=0)(l:List (U4×c7))(hl:O l<=10)(hw:wf 2 l)(nm:K0)(er rt:Int) :
  ∃(er' :Int) (l' :List (U4×c7)) (q' :Nat),O l'=O l/\wf 102 l' /\q' <=4 * O xs/\Pm A 43 [.ptr 1 0,cat c,.agg (tA nm (O l) er rt)] (h6 o0 xs q X3 (tO nm (O l) er rt) l) ⟨0,0,6,2⟩ (.agg (tA nm (O l) er' rt)) (h6 o0 xs q' X3 (tO nm (O l) er rt) l'):=by
 have key:Pq A 43 [.ptr 1 0,cat c,.agg (tA nm (O l) er rt)] (h6 o0 xs q X3 (tO nm (O l) er rt) l) ⟨0,0,6,2⟩ λv H=>∃(er' :Int) (l' :List (U4×c7)) (q' :Nat),O l'=O l/\wf 102 l' /\q' <=4 * O xs/\v= .agg (tA nm (O l) er' rt)/\H=h6 o0 xs q' X3 (tO nm (O l) er rt) l' :=by
  obtain ⟨L,hL,p96⟩:=p96 (o0:=o0) (xs:=xs) (q:=q) (X3:=X3) (X4:=tO nm (O l) er rt) l V nm er rt;obtain ⟨er0,he0⟩:∃e,er=e:=⟨_,rfl⟩;rw [he0] at p96 ⊢;unfold h6 at p96 ⊢;unfold tO tA at p96 ⊢;refine Pq.go (b:=6) 11 ?_;refine gr ?_;have hb:F3 [z8,X3,x4.cells [.d (.str nm),.s6 5 7 0 (O l),.d (Z er),.d (Z rt)],cO l]<=6:=by simp [F3,bC,A8,c7.J4,z8,cO,hw.J4,h3]
  refine c1 p96 rfl ?_ (iP:=hb) (hcl:=K6 hb) (ov:=by simp [B5,ah,bC,A8,c7.J4,z8,h3]);refine gr ?_;refine Ex.M4 (λk T' H' =>∃(i q:Nat) (er:Int) (m:List (U4×c7)),q<=4 * O xs/\i+k=O l/\O m=O l/\wf 2 m/\T' =t43 L i .any .any .any .any .any .any/\H' =h6 o0 xs q X3 (tO nm (O l) er0 rt) m++XW c nm (O l) er rt) ?_ (k:=O l) ⟨0,q,er0,l,hq,V,rfl,hw,rfl,rfl⟩;rintro k _ _ ⟨i,q1,er,m,hq1,hk,hm,hw,rfl,rfl⟩;unfold t43 h6 XW tO tA;simp only [x6,y5];refine Ex.seq ?_;refine Ex.gw (F0 i (O l)&&F0 0 (O L)) (Rn.text ?_) (λh=>?_) (λh=>?_)
  .repeat' (first|refine lnS ?_|refine gx ?_|refine fq (λhw=>?_) λhw=>?_|refine ⟨rfl,rfl,_,rfl,?_⟩|refine ⟨rfl,rfl⟩|fail)
   all_goals exact cc
  .have hi:=C8 (c9 _ _ ▸ h).1
   have hL0:=C8 (c9 _ _ ▸ h).2;have hi' :i<O m:=V
   refine Ex.skip ?_;refine Ex.seq ?_;refine Ex.block ?_;refine Ex.blk (λst=>∃(q:Nat) (er:Int) (m:List (U4×c7)) (w8 w9 xb:c7),q<=4 * O xs/\O m=O l/\wf 2 m/\st=⟨t43 L i w8 w9 xb .any .any .any,h6 o0 xs q X3 (tO nm (O l) er0 rt) m++XW c nm (O l) er rt⟩) ?_ ?_
   .repeat' (first|refine ixS ?_|refine gx ?_|fail)
    refine nx λr q2 lJ _ _=>?_
    refine gr ?_;refine tt (λq3 oK=>?_) λq3 oK=>?_
    .exact Ex.exit ⟨.inr rfl,q3,er,m,_,_,_,oK,hm,hw,rfl⟩
    refine gr ?_;refine nx λr2 q4 vW r0 r1=>?_
    obtain ⟨a,ha⟩:∃a,Y L r2.toNat=a:=⟨_,rfl⟩;obtain ⟨w1,e1,n1⟩:=hw.set hi' (p:=({ (Y m i).1 with D6:=[a] },.own 1 1 [Z a])) ⟨rfl,rfl⟩ U
    repeat' (first|refine nx (λ_ _ _ _ _=>?_)|refine Ii (h2:=?_)|refine eN ?_|refine gx ?_|fail)
    rw [ha];refine ZQ (Ee (id:=5) (k:=4) ({ (Y m i).1 with D6:=[a] },.own 1 1 [Z a]) hi' rfl (by decide) rfl) (h2:=?_);obtain ⟨m1,Mp⟩:∃m1,m.set i ({ (Y m i).1 with D6:=[a] },.own 1 1 [Z a])=m1:=⟨_,rfl⟩;obtain ⟨x1,hx1⟩:∃x1:U4,{ (Y m i).1 with D6:=[a] }=x1:=⟨_,rfl⟩;rw [Mp] at w1 e1 n1 ⊢;rw [hx1] at n1;have hi1:i<O m1:=V
    refine gr ?_;refine nx λr3 q5 Bl r0 r1=>?_
    repeat' (first|refine nx (λ_ _ _ _ _=>?_)|refine Ii (h2:=?_)|refine eN ?_|refine gx ?_|fail)
    have g1:∀H:j9,H[5]? =J (cO m1)->rd H 5 (0+i * 7+4) 1=J [.own 1 1 [Z a]]:=λH hH=>Oo hi1 hH (by decide) (by rw [n1];rfl)
    refine Ex.join (λst=>∃(m:List (U4×c7)) (xb:c7),O m=O l/\wf 2 m/\st=⟨t43 L i (.ptr 5 (0+i * 7)) (.d (.bool (x5 r 0))) xb .any .any .any,h6 o0 xs q5 X3 (tO nm (O l) er0 rt) m++XW c nm (O l) er rt⟩) ?_ ?_
    .refine Ex.KI (Rn.text ?_) ?_ (Ex.skip ⟨m1,_,V,w1,rfl⟩)
     .repeat' (first|refine lpW (g1 _ rfl) rfl ?_|refine Ii (enc:=Mm) (xs:=[a]) (h2:=?_)|refine gx ?_|refine fq (λhw=>?_) λhw=>?_|refine ⟨rfl,rfl,_,rfl,?_⟩|refine ⟨rfl,rfl⟩|fail)
      all_goals exact ⟨rfl,rfl,_,rfl⟩
     .obtain ⟨o,ho⟩:∃o,Y L r3.toNat=o:=⟨_,rfl⟩
      rw [ho]
      repeat' (first|refine lpW (g1 _ rfl) rfl ?_|refine acO (m:=1) n1 hi1 (by decide) (h2:=?_)|refine gx ?_|fail)
      obtain ⟨w2,e2,n2⟩:=w1.set hi1 (p:=({ x1 with D6:=[a,o] },.own 1 2 [Z a,Z o])) ⟨rfl,rfl⟩ U;refine ZQ (Ee (id:=5) (k:=4) ({ x1 with D6:=[a,o] },.own 1 2 [Z a,Z o]) (by simpa using hi1) rfl (by decide) (by rw [AijQ hi1];rfl)) (h2:=?_);refine gr ?_;exact ⟨m1.set i ({ x1 with D6:=[a,o] },.own 1 2 [Z a,Z o]),_,V,w2,by rw [List.set_set];rfl⟩
    rintro _ ⟨m2,xb,hm2,w2,rfl⟩;unfold t43 h6 XW tO tA;simp only [x6,y5];have hi2:i<O m2:=V
    refine gr ?_;refine nx λr4 q6 OP r0 r1=>?_
    obtain ⟨w3,e3,n3⟩:=w2.set hi2 (p:=({ (Y m2 i).1 with fc:=r4 },(Y m2 i).2)) (w2 _ (H6 hi2)).1 (w2 _ (H6 hi2)).2
    repeat' (first|refine at5 (Ee (id:=5) (k:=5) (w:= .d (Z r4)) ({ (Y m2 i).1 with fc:=r4 },(Y m2 i).2) hi2 rfl (by decide) rfl) (h2:=?_)|refine gx ?_|fail)
    obtain ⟨m3,hm3⟩:∃m3,m2.set i ({ (Y m2 i).1 with fc:=r4 },(Y m2 i).2)=m3:=⟨_,rfl⟩;rw [hm3] at w3 e3 ⊢;have hi3:i<O m3:=V
    repeat' (first|refine bk Z [0,0,0,5,20] ?_|refine gx ?_|fail)
    refine nx λr5 q7 Dh r0 r1=>?_
    obtain ⟨d,hd⟩:∃d,Y [(0:Int),0,0,5,20] r5.toNat=d:=⟨_,rfl⟩;obtain ⟨w4,e4,n4⟩:=w3.set hi3 (p:=({ (Y m3 i).1 with kA:=d },(Y m3 i).2)) (w3 _ (H6 hi3)).1 (w3 _ (H6 hi3)).2;refine Ii (h2:=?_);rw [hd]
    repeat' (first|refine at5 (Ee (id:=5) (k:=6) (w:= .d (Z d)) ({ (Y m3 i).1 with kA:=d },(Y m3 i).2) hi3 rfl (by decide) rfl) (h2:=?_)|refine gx ?_|fail)
    refine te trivial ?_ (Ex.skip ⟨.inl rfl,q7,er,_,_,_,_,Dh,V,w4,rfl⟩);refine gr ?_;exact ⟨.inl rfl,q7,1,_,_,_,_,Dh,V,w4,rfl⟩
   rintro _ ⟨q5,er,m2,w8,w9,xb,Bl,hm2,w2,rfl⟩;unfold t43 h6 XW tO tA;simp only [x6,y5];refine gr ?_;exact kk ⟨i+1,q5,er,m2,Bl,V,hm2,w2,rfl,rfl⟩
  refine Ex.exit ?_;clear h hk;refine gr ?_;refine Ex.M4 (λk T' H' =>∃(i:Nat) (m:List (U4×c7)),i+k=O l/\O m=O l/\wf (2+i * O c.j7) m/\T' =u43 i .any .any/\H' =h6 o0 xs q1 X3 (tO nm (O l) er0 rt) m++XW c nm (O l) er rt) ?_ (k:=O l) ⟨0,m,V,hm,by simpa using hw,rfl,rfl⟩;clear hw hm;rintro k _ _ ⟨i,m,hk,hm,hw,rfl,rfl⟩;unfold u43 h6 XW tO tA;simp only [x6,y5];refine Ex.seq ?_;refine tS i (O l) (λh=>?_) (λh=>?_)
  .repeat' (first|refine ixS ?_|refine gx ?_|fail)
   refine Ex.M4 (λk T' H' =>∃(j:Nat) (m:List (U4×c7)),j+k=O c.j7/\O m=O l/\wf (2+i * O c.j7+j) m/\T' =u43 i (.ptr 5 (0+i * 7)) (.d (Z j))/\H' =h6 o0 xs q1 X3 (tO nm (O l) er0 rt) m++XW c nm (O l) er rt) ?_ (k:=O c.j7) ⟨0,m,V,hm,hw,rfl,rfl⟩;clear hw hm;rintro k2 _ _ ⟨j,m,hk2,hm,hw,rfl,rfl⟩;unfold u43 h6 XW tO tA;simp only [x6,y5];have hi:i<O m:=V
   refine Ex.seq ?_;refine tl j (O c.j7) (λh2=>?_) (λh2=>?_)
   .have h1:=hc1 _ (H6 (show j<O c.j7 by omega))
    refine gr ?_;refine Ex.KI (Rn.draw ?_) ?_ ?_
    .repeat' (first|refine lcO (h2:=?_)|refine gx ?_|refine fq (λhw=>?_) λhw=>?_|refine ⟨rfl,rfl,_,rfl,?_⟩|refine ⟨rfl,rfl⟩|fail)
     all_goals exact ⟨rfl,rfl,_,rfl⟩
    .have hwi:=hw _ (H6 hi)
     obtain ⟨v97,⟨ks,hks,e⟩,p97⟩:=p97 (Y m i).1.D6 (by have:=hwi.2;have:i * O c.j7<=10 * 10:=Nat.mul_le_mul V hc;omega) i;obtain ⟨w1,e1,n1⟩:=(hw.mono (show 2+i * O c.j7+j<=2+i * O c.j7+(j+1) by omega)).set hi (p:=({ (Y m i).1 with D6:=ks },v97)) (show YY Mm ks v97 from by rcases e with e|e<;>exact ⟨by rw [e];rfl,by rw [e];rfl⟩) (by simp only;omega)
     rcases e with rfl|rfl
     .repeat' (first|refine lpW (Oo (id:=5) (k:=4) hi rfl (by decide) rfl) hwi.1.1 ?_|refine cl (p97) ?_|refine ZQ (Ee (id:=5) (k:=4) ({ (Y m i).1 with D6:=ks },B9 1 Mm ks) hi rfl (by decide) rfl) (h2:=?_)|refine gx ?_|fail)
      exact ⟨k2 - 1,V,j+1,_,V,V,w1,rfl,rfl⟩
     .repeat' (first|refine lpW (Oo (id:=5) (k:=4) hi rfl (by decide) rfl) hwi.1.1 ?_|refine cl (p97) ?_|refine at5 (Ee (id:=5) (k:=4) (w:= .d (y6 Mm ks)) ({ (Y m i).1 with D6:=ks },.d (y6 Mm ks)) hi rfl (by decide) rfl) (h2:=?_)|refine gx ?_|fail)
      exact ⟨k2 - 1,V,j+1,_,V,V,w1,rfl,rfl⟩
    .refine gr ?_
     exact ⟨k2 - 1,V,j+1,m,V,hm,hw.mono V,rfl,rfl⟩
   .refine gr ?_
    exact kk ⟨i+1,m,V,hm,hw.mono (by rw [Nat.succ_mul];omega),rfl,rfl⟩
  .repeat' (first|refine DE (ws:=tA nm (O l) er rt) rfl rfl ?_|refine gx ?_|fail)
   refine soy rfl ⟨rfl,rfl⟩ rfl rfl rfl (.inl (show 6<=9 by decide)) rfl ?_;refine gr ?_;exact ⟨_,_,rfl,er,m,q1,hm,hw.mono (by have:i * O c.j7<=10 * 10:=Nat.mul_le_mul V hc;omega),hq1,rfl,rfl⟩
 obtain ⟨_,_,⟨er',l',q',h1,h2,h3,rfl,rfl⟩,p⟩:=key;exact ⟨er',l',q',h1,h2,h3,p⟩
end
end Go.Proofs.YtibjocmpkoepoaaGreat
namespace Go.A5
theorem OY (id:Nat):∀l:List Data,O6 id (l.map .d)=l.map .d
 |[]=>rfl
 |_::l=>by simp [O6,c7.kill,OY id l]
def Eg {mask:List Bool}{strict m:Nat}{T:List c7}{H:j9}(h:¬F3 ((H.take m).drop strict)<=m):clean mask strict m ⟨T,H⟩=⟨U7 mask T,H⟩:=by simp [clean,h]
namespace S
section
variable {ρ:y4->c7} {G:j9} {x y:y4}
def ar0 {id o m:Nat}{vs ws:List c7}(hx:ρ x= .ptr id o)(hr:rd G id o m=J vs)(hv:vs.map c7.K9=ws):k8 ρ G (.load (J m) x)=J (.agg ws,[id]):=by simp [k8,hx,hr,hv]
def br0 {id sz lo len:Nat}(hx:ρ x= .s6 id sz lo len):k8 ρ G (.len x)=J (.d (.int .i64 (len:Int)),[]):=by simp only [k8,hx,i64]
def pLs {m:Nat}{cs:List Data}(hx:ρ x= .d (.slice m cs)):k8 ρ G (.len x)=J (.d (.int .i64 (m:Int)),[]):=by simp only [k8,hx,i64]
def pOn {enc:List Data}{sz:Nat}{zero:List c7}(hx:ρ x= .agg (enc.map .d))(hc:O enc=sz)(hz:O zero=sz)(h0:0<sz):k8 ρ G (.J8 sz 1 zero [(0,sz,x)] F)=J (.own sz 1 enc,[]):=by
 have h1:Z7 zero [(0,sz,c7.agg (enc.map .d))]=J (enc.map .d):=by
  simp only [Z7,c7.cells?,ae5,if_true,A9,hc,hz,Nat.zero_add,k9,and_self,splice,List.take_zero,y5];rw [List.drop_eq_nil_of_le V];simp
 have h2:=(Oy (λd:Data=>d) enc).1;simp only [List.map_id'] at h2;simp [k8,hx,h1,h2,h0,hc]
end
end S
end Go.A5
namespace Go.Proofs.YtibjocmpkoepoaaGreat
open Go.A5 Go.A5.S
attribute [local irreducible] Rx Ry Rn Ex Pf Rl
def dO (cs:List U4):x4:= .cells ((cs.flatMap U4.enc).map .d)
structure CO (c:p9)(v:List c7):Prop where
 len:O v=8
 K9:v.map c7.K9=c.enc.map .d
 J4:A8 v=0
 kill:∀id,O6 id v=v
theorem CO.enc (c:p9):CO c (c.enc.map .d):=⟨rfl,rfl,rfl,λ_=>rfl⟩
def Dr:p9:=⟨[],[],[],[],[],[],[],[]⟩
def vz8:List c7:=[.own 4 0 [],.own 9 0 [],.own 3 0 [],.own 6 0 [],.own 4 0 [],.own 3 0 [],.own 2 0 [],.own 3 0 []]
def CO.zero:CO Dr vz8:=⟨rfl,rfl,rfl,λ_=>rfl⟩
def t14 (n i:Int)(w5 w6 w7:c7):List c7:=[.ptr 1 0,.d (Z n),.ptr 2 0,.ptr 3 0,.d (Z i),w5,w6,w7]
def k14 (o0:x4)(xs:List Int)(q:Nat)(v:List c7)(nm:K0)(er rt:Int):List U4->j9
 |[]=>[o0,tp xs q,z8,.cells v,.cells [.d (.str nm),.N7,.d (Z er),.d (Z rt)]]
 |x::r=>[o0,tp xs q,z8,.cells v,tO nm (O r+1) er rt,dO (x::r)]++c8 (O r) .dead
section
variable {xs:List Int} {o0:x4} {q:Nat} (hx:O xs<=35184372088832) (hq:q<=4 * O xs)
include hx hq
set_option maxHeartbeats 8000000 in
def bm6 (c:p9)(v:List c7)(hC:CO c v)(hc:O c.j7<=10)(hc1:∀t,t∈c.j7->1<=O t.o7)(n i:Int)(nm:K0)(er rt:Int)(d7:Nat)(hM:1<=d7)(hM2:d7<=4)(w7:c7) :
  Ex A l1 2 (match a14.body with| .seq _ (.seq _ (.seq (.seq _ (.block _ (.loop _ (.seq _ (.seq (.block _ (.seq _ (.seq (.seq _ (.block _ c)) _))) _))))) _))=>c|c=>c) ⟨t14 n i (.ptr 4 0) (.d (Z d7)) w7,k14 o0 xs q v nm er rt []⟩ λx s=>x= .exit 2/\∃(cs:List U4) (q:Nat),q<=4 * O xs/\O cs=d7/\(∀x,x∈cs->x.D6=[])/\s=⟨t14 n i (.ptr 4 0) (.d (Z 0)) .any,k14 o0 xs q v nm er rt cs⟩:=by
 show Ex A l1 2 (.loop _ _) _ _
 refine Ex.S4 (λk T' H' =>∃(m:Int) (q:Nat) (cs:List U4),m=k/\q<=4 * O xs/\O cs+k=d7/\(∀x,x∈cs->x.D6=[])/\T' =t14 n i (.ptr 4 0) (.d (Z m)) .any/\H' =k14 o0 xs q v nm er rt cs) ?_ (k:=d7) ⟨d7,q,[],rfl,hq,U,U,rfl,rfl⟩;rintro k _ _ ⟨m,q1,cs,hmk,hq1,hk,Ie,rfl,rfl⟩;unfold t14;refine Ex.seq ?_;refine tl 0 m (λh=>?_) (λh=>?_)
 .have hcs:O cs<=3:=V
  have hb:∀j,F3 [z8,x4.cells v,.cells [.d (.str nm),.s6 5 7 0 j,.d (Z er),.d (Z rt)]]=6:=λj=>by simp [F3,bC,A8,c7.J4,z8,hC.J4]
  match cs,hk,hcs,Ie with
  |[],hk,hcs,Ie =>
   obtain ⟨x,q2,hxo,lJ,p42⟩:=p42 hx hq1 c V hc1 0 V 2 [] [.d (.str nm),.d (.slice 0 []),.d (Z er),.d (Z rt)] (.inl ⟨rfl,rfl,_,_,_,_,rfl⟩);unfold k14;refine gr ?_;refine Ex.region (rg 1 (h:=?_));refine gm ?_;refine yp _ (ar0 rfl (ki rfl hC.len) hC.K9) ?_;refine yp _ (ar0 rfl rfl rfl) ?_;refine gm ?_;refine yp _ (pLs rfl) ?_;refine lC2 (m:=2) (nn:=2) p42 rfl (s9 _) rfl (by decide) rfl rfl U rfl (h2:=?_);refine yp _ (pOn rfl rfl rfl (by decide)) ?_;refine lAz rfl ⟨by decide,by decide⟩ (by decide) (h2:=?_);refine gl ?_;refine ys (H2:=[o0,tp xs q2,z8,.cells v,.cells [.d (.str nm),.s6 5 7 0 1,.d (Z er),.d (Z rt)],dO [x]]) rfl ⟨rfl,rfl⟩ rfl rfl rfl (.inr ⟨by decide,by decide⟩) rfl ?_;refine lN ?_;refine gr ?_;exact kk ⟨_,_,Eg (λh' =>by have h2:F3 [z8,x4.cells v,.cells [.d (.str nm),.s6 5 7 0 1,.d (Z er),.d (Z rt)]]<=5:=h';rw [hb] at h2;omega),m - 1,q2,[x],V,lJ,by simp at hk ⊢;omega,by simp [hxo],rfl,rfl⟩
  |x0::r,hk,hcs,Ie =>
   obtain ⟨cs,he⟩:∃cs,x0::r=cs:=⟨_,rfl⟩;obtain ⟨d,hd⟩:∃d,O r=d:=⟨_,rfl⟩;have hl:O cs=d+1:=by rw [<- he,<- hd];rfl
   refine Ex.nS _ ([o0,tp xs q1,z8,.cells v,tO nm (O r+1) er rt,dO (x0::r)]++c8 (O r) .dead) ?_;have hsn:∀(x:U4) (q2:Nat),[o0,tp xs q2,z8,.cells v,tO nm (d+1+1) er rt,.cells ((cs.flatMap U4.enc).map .d++x.enc.map .d)]++c8 (d+1) .dead=k14 o0 xs q2 v nm er rt (cs++[x]):=λx q2=>by
    rw [<- he,<- hd];simp [k14,dO]
   rw [he] at hk hcs Ie ⊢;rw [hd];obtain ⟨x,q2,hxo,lJ,p42⟩:=p42 hx hq1 c V hc1 (d+1) V 6 [z8,.cells v,tO nm (d+1) er rt,dO cs] (tA nm (d+1) er rt) (.inr ⟨rfl,_,_,_,_,_,d+1,_,_,rfl,rfl⟩);have hb6:F3 [z8,x4.cells v,tO nm (d+1) er rt,dO cs]<=6:=by
    have e:(dO cs).J4=0:=GH _;simp only [F3,e];simp [bC,A8,c7.J4,z8,hC.J4,tO,tA]
   have hst:∀X,l1.jR 2 6 6 (B5 ([o0,tp xs q1,z8,.cells v,tO nm (d+1) er rt,dO cs]++X) 2 6)=⟨2,6,6,2⟩:=λX=>by simp [J2.jR,l1,B5,ah,bC,A8,c7.J4,z8,hC.J4,tO,tA]
   have hd3:d=0\/d=1\/d=2:=V
   rcases hd3 with rfl|rfl|rfl
   all_goals
    simp only [c8,x6,y5];refine gr ?_;refine Ex.region (rg 1 (h:=?_));refine gm ?_;refine yp _ (ar0 rfl (ki rfl hC.len) hC.K9) ?_;refine gm ?_;refine yp _ (br0 rfl) ?_;refine lC2 (m:=2) (nn:=6) p42 rfl hb6 (K6 hb6) (by decide) rfl rfl U (hst _) (h2:=?_);refine yp _ (pOn rfl rfl rfl (by decide)) ?_;refine lAk (m:=1) (cs:=x.enc.map .d) (old:=(cs.flatMap U4.enc).map .d) (T2:=[.ptr 1 0,.d (Z n),.ptr 2 0,.ptr 3 0,.d (Z i),.ptr 4 0,.d (Z m),.any]) (hr:=by decide) (hc:=rfl) (hol:=by rw [A9,bt (enc:=U4.enc) (sz:=7) (λ_=>rfl),hl]) (hone:=rfl) (hbc:=rfl) (hT:=rfl) (hH:=by simp only [show l1.base=2 from rfl,List.take_succ_cons,List.take_zero,List.drop_succ_cons,List.drop_zero,G4,List.map_nil,x6,y5,o6,o4,x4.kill,hC.kill,OY]<;>rfl) (h2:=?_);refine gl ?_;refine ys rfl ⟨rfl,rfl⟩ rfl rfl rfl (.inr ⟨by decide,by decide⟩) rfl ?_;refine lN ?_;refine gr ?_;refine kk ⟨_,_,Eg (λh' =>?_),m - 1,q2,cs++[x],V,lJ,D,uE Ie hxo,rfl,?_⟩
    .have h2:F3 [z8,x4.cells v,.cells [.d (.str nm),.s6 5 7 0 _,.d (Z er),.d (Z rt)]]<=5:=h'
     rw [hb] at h2;omega
    .rw [<- hsn x q2]
     rfl
 .refine Ex.exit ?_
  have hm0:m=0:=V
  exact ⟨rfl,cs,q1,hq1,V,Ie,by rw [hm0]⟩
end
def GR (cs:List U4):List (U4×c7):=cs.map λx=>(x,.d (y6 Mm x.D6))
def aA8:∀cs:List U4,dO cs=cO (GR cs):=λcs=>by
 unfold dO cO
 congr 1
 induction cs with
 |nil=>rfl
 |cons x cs ih=>rw [O7,List.map_append,ih];rfl
def Ov {cs:List U4}(h:∀x,x∈cs->x.D6=[]):wf 2 (GR cs):=λp hp=>by
 obtain ⟨x,hx,rfl⟩:=List.mem_map.1 hp;exact ⟨⟨rfl,rfl⟩,by rw [h x hx];simp⟩
theorem Ek:∀(a b:List c7) (x y:List A5.Data),L1 a=J x->L1 b=J y->L1 (a++b)=J (x++y)
 |[],b,x,y,h,h2=>by simp only [L1,Option.some.injEq] at h;subst h;exact h2
 |v::a,b,x,y,h,h2=>by
  simp only [L1,x6] at h ⊢;split at h
  next z hz=>
   split at h
   next zs hzs=>
    cases h;simp [Ek a b zs y hzs h2]
   .cases h
  .cases h
def UO {α:Type}{enc:α->List A5.Data}{l:List α}{w:c7}(h:YY enc l w):w.data? =J (y6 enc l):=by
 have h1:=h.1;cases w<;>simp_all [c7.K9,c7.data?]
theorem IC:∀{l:List (U4×c7)} {d9:Nat},wf d9 l->L1 (l.flatMap jr)=J ((l.map (·.1)).flatMap U4.enc)
 |[],_,_=>rfl
 |p::l,d9,h=>by
  rw [O7,G4,O7];refine Ek _ _ _ _ ?_ (IC λx hx=>h x (by simp [hx]));have:=UO (h p U).1;simp only [jr,L1,this];rfl
def bg3 {o0:x4}{xs:List Int}{q:Nat}{v:List c7}{c:p9}(hC:CO c v){l:List (U4×c7)}{d9:Nat}(hw:wf d9 l)(nm:K0)(er rt n i m:Int)(w7:c7)(d:Nat)(hl:O l=d+1) :
  oH l1 2 5 ⟨[.ptr 1 0,.d (Z n),.ptr 2 0,.ptr 3 0,.d (Z i),.ptr 4 0,.d (Z m),.any],[o0,tp xs q,z8,.cells v,tO nm (d+1) er rt,cO l]++c8 d .dead⟩ =
   J ⟨[.ptr 1 0,.d (Z n),.ptr 2 0,.ptr 3 0,.d (Z i),.ptr 4 0,.d (Z m),.any],[o0,tp xs q,z8,.cells v,.cells [.d (.str nm),.d (y6 U4.enc (l.map (·.1))),.d (Z er),.d (Z rt)],.dead]++c8 d .dead⟩:=by
 have e:rd ([o0,tp xs q,z8,.cells v,.cells [.d (.str nm),.s6 5 7 0 (d+1),.d (Z er),.d (Z rt)],cO l]++c8 d .dead) 5 0 ((d+1) * 7)=J (l.flatMap jr):=ki rfl (by rw [MH,hl]);have k:∀d,(c8 d x4.dead).map (x4.kill 5)=c8 d .dead:=λd=>by simp [x4.kill]
 simp only [x6,y5] at e;simp only [oH,uu,List.getElem?_cons_succ,List.getElem?_cons_zero,x6,y5,tO,tA,uN,e,IC hw];simp [l1,J2.may,O6,c7.kill,x4.kill,hC.kill,z8,hl,y6]
def KG {c:p9}(hv:F1 c=W):∀t,t∈c.j7->1<=O t.o7:=λt ht=>by
 obtain ⟨k,hk,rfl⟩:=L5 ht;rw [<- F9 hk];exact (iG (Y0 ((bW hv).1 k (by have:=V0 c;unfold p9.ns at this;omega)) hk)).1
def UZ:fR:=⟨[116,48],[⟨[99,48],1,[112,101,114,115,111,110],[],[],0,0⟩,⟨[99,49],2,[],[],[0],0,0⟩],0,0⟩
def Zc:p9:=⟨[UZ],[],[],[],[],[],[],[]⟩
theorem ap4:F1 Zc=W:=by kernel_rfl
def ap3:me Zc 1 0 0:=by
 refine ⟨by decide,by decide,?_,?_,by decide,by decide,by decide,by decide,by decide,by decide,?_⟩
 .intro x hx
  rw [List.mem_singleton.1 hx];refine ⟨by decide,λy hy=>?_⟩;have:y∈[(⟨[99,48],1,[112,101,114,115,111,110],[],[],0,0⟩:U4),⟨[99,49],2,[],[],[0],0,0⟩]:=hy;simp only [List.mem_cons,List.not_mem_nil,or_false] at this
  rcases this with rfl|rfl<;>decide
 .intro x hx;cases hx
 .intro x hx;cases hx
def be7:me Dr 0 0 0:=⟨by decide,by decide,(by simp [Dr]),(by simp [Dr]),by decide,by decide,by decide,by decide,by decide,by decide,(by simp [Dr])⟩
theorem me.mono {c:p9}{a b n a' b' n' :Nat}(h:me c a b n)(ha:a<=a')(hb:b<=b')(hn:n<=n'):me c a' b' n' :=by
 obtain ⟨h1,h2,h3,h4,h5,h6,h7,h8,h9,h10,h11⟩:=h;exact ⟨V,V,h3,h4,V,V,V,V,V,V,h11⟩
def CO.wr0 {c:p9}{v:List c7}(h:CO c v){H:j9}(hH:H[3]? =J (.cells v))(w:c7):wr H 3 0 [w]=J (H.set 3 (.cells (v.set 0 w))):=by
 have hl:=h.len;simp only [wr,hH,uW v 0 w V];rw [if_pos D]
def CO.wrA {c:p9}{v:List c7}(h:CO c v){H:j9}(hH:H[3]? =J (.cells v))(d:p9):wr H 3 0 (d.enc.map .d)=J (H.set 3 (.cells (d.enc.map .d))):=by
 have hl:=h.len;have hd:O (d.enc.map c7.d)=8:=rfl;have e:splice v 0 (d.enc.map .d)=d.enc.map .d:=by
  simp only [splice,hd,List.take_zero,y5];rw [n5 V,List.append_nil]
 simp only [wr,hH,e];rw [if_pos V]
def CO.bw5 {c:p9}{v:List c7}(h:CO c v)(ts:List fR):(v.set 0 (B9 4 fR.enc ts)).map c7.K9=(p9.enc { c with j7:=ts }).map .d:=by
 rw [List.map_set,h.K9];rfl
def CO.at0 {c:p9}{v:List c7}(h:CO c v):∃w,(∀H:j9,H[3]? =J (.cells v)->rd H 3 0 1=J [w])/\w.K9= .d (y6 fR.enc c.j7):=by
 obtain ⟨h1,h2,_,_⟩:=h
 match v,h1 with
 |w::r,h1 =>
  simp only [G4] at h2;have h3:w.K9= .d (y6 fR.enc c.j7):=(List.cons.inj h2).1;refine ⟨w,λH hH=>?_,h3⟩;simp [rd,hH]
section
variable {xs:List Int} {o0:x4} {q:Nat} (hx:O xs<=35184372088832) (hq:q<=4 * O xs)
include hx hq
set_option maxHeartbeats 4000000 in
theorem az8 (c:p9)(v:List c7)(hC:CO c v){m:Nat}(hm:1<=m)(hcs:me c m 0 0)(YG:c=Dr\/F1 c=W/\1<=O c.j7)(n i:Int)(w5 w6 w7:c7)(X:j9) :
  Ex A l1 2 (match a14.body with| .seq _ (.seq _ (.seq _ c))=>c|c=>c) ⟨t14 n i w5 w6 w7,[o0,tp xs q,z8,.cells v]++X⟩ λx s=>∃w q',Z4 a14 2 (J (x,s))=J (w,[o0,tp xs q'])/\q' <=4 * O xs/\∃c,w=cat c/\F1 c=W/\me c m 0 0/\1<=O c.j7:=by
 obtain ⟨w,hr,hw⟩:=hC.at0;unfold t14;simp only [x6,y5];refine gx ?_;refine Ex.gw (x5 (O c.j7) 0) (Rn.text ?_) (λh=>?_) (λh=>?_)
 .repeat' (first|refine lpW (hr _ rfl) hw ?_|refine gx ?_|refine fq (λhw=>?_) λhw=>?_|refine ⟨rfl,rfl,_,rfl,?_⟩|refine ⟨rfl,rfl⟩|fail)
  rfl
 .have h0:=br h
  have hc0:c=Dr:=by
   rcases YG with h|h
   .exact h
   .omega
  subst hc0
  repeat' (first|refine Ry.pure (v:=B9 7 U4.enc UZ.o7) (rs:=[]) rfl (by rfl) ?_|refine oN (enc:=fR.enc) UZ ?_|refine gx ?_|fail)
  refine ZQ (hC.wr0 rfl (B9 4 fR.enc [UZ])) (h2:=?_)
  repeat' (first|refine DE (ws:=Zc.enc.map .d) (ki rfl (by rw [List.length_set,hC.len])) (hC.bw5 [UZ]) ?_|refine gx ?_|fail)
  exact ⟨_,q,rfl,hq,Zc,rfl,ap4,ap3.mono V V V,by decide⟩
 .repeat' (first|refine DE (ki rfl hC.len) hC.K9 ?_|refine gx ?_|fail)
  refine ⟨_,q,rfl,hq,c,rfl,?_,hcs,?_⟩
  .rcases YG with rfl|h2
   .cases (ot h) rfl
   .exact h2.1
  .rcases YG with rfl|h2
   .cases (ot h) rfl
   .exact h2.2
set_option maxHeartbeats 16000000 in
def q14 (n:Nat)(hn:1<=n/\n<=10):Tq xs o0 l1 14 [.ptr 1 0,.d (Z n)] q λv=>∃c,v=cat c/\F1 c=W/\me c n 0 0/\1<=O c.j7:=by
 refine Tq.go 6 ?_;refine gr ?_;refine Ex.S4 (λk T' H' =>∃(i q:Nat) (c:p9) (v:List c7),q<=4 * O xs/\i+k=n/\CO c v/\me c i 0 0/\(c=Dr\/F1 c=W/\1<=O c.j7)/\T' =t14 n i .any .any .any/\H' =[o0,tp xs q,z8,.cells v]) ?_ (k:=n) ⟨0,q,Dr,vz8,hq,V,CO.zero,be7,.inl rfl,rfl,rfl⟩;rintro k _ _ ⟨i,q1,c,v,hq1,hk,hC,hcs,YG,rfl,rfl⟩;have hc1:∀t,t∈c.j7->1<=O t.o7:=by
  rcases YG with rfl|YG
  .intro t ht;cases ht
  .exact KG YG.1
 have htl:=hcs.tl;unfold t14;refine Ex.seq ?_;refine tl i n (λh=>?_) (λh=>?_)
 .obtain ⟨a,pn⟩:=p41 [116] (by decide) (n:=i) V V
  obtain ⟨nm,hnm⟩:∃n,[116]++[a]=n:=⟨_,rfl⟩;rw [hnm] at pn;refine gc pn ?_;refine nx λer q2 lJ _ _=>?_
  repeat' (first|refine bk Z [0,0,25,40] ?_|refine gx ?_|fail)
  refine nx λr2 q3 oK s0 s1=>?_
  refine Ii (h2:=?_);obtain ⟨rt,UH⟩:∃d,Y [(0:Int),0,25,40] r2.toNat=d:=⟨_,rfl⟩;rw [UH]
  repeat' (first|refine Ea (cs:=[.d (.str nm),.N7,.d (Z er),.d (Z rt)]) ?_|refine gx ?_|fail)
  refine nx λr3 q4 vW t0 t1=>?_
  obtain ⟨d7,hM⟩:∃d7:Nat,(d7:Int)=2+r3:=⟨(2+r3).toNat,V⟩;refine gx ?_;rw [<- hM];refine gr ?_;refine Ex.blk (λs=>∃(cs:List U4) (q:Nat),q<=4 * O xs/\O cs=d7/\(∀x,x∈cs->x.D6=[])/\s=⟨t14 n i (.ptr 4 0) (.d (Z 0)) .any,k14 o0 xs q v nm er rt cs⟩) ((bm6 hx vW c v hC V hc1 n i nm er rt d7 V V .any).mono λx s ⟨h1,h2⟩=>⟨.inr h1,h2⟩) ?_;rintro _ ⟨cs,q5,Bl,hcl,Ie,rfl⟩;obtain ⟨d,hd⟩:∃d,O cs=d+1:=⟨d7 - 1,V⟩;have bj2:k14 o0 xs q5 v nm er rt cs=[o0,tp xs q5,z8,.cells v,tO nm (d+1) er rt,cO (GR cs)]++c8 d .dead:=by
   rw [<- aA8];cases cs with
   |nil=>simp at hd
   |cons x r =>
    have:O r=d:=by simpa using hd
    rw [<- this];rfl
  have hl:O (GR cs)=d+1:=by rw [<- hd];simp [GR]
  obtain ⟨er2,l',q6,hl',hw',OP,p43⟩:=p43 hx Bl c V hc1 (.cells v) hC.J4 (GR cs) V (Ov Ie) nm er rt;rw [hl] at p43 hl';unfold h6 at p43;rw [bj2];have hb6:F3 [z8,x4.cells v,tO nm (d+1) er rt,cO (GR cs)]<=6:=by
   have e:(cO (GR cs)).J4=0:=(Ov Ie).J4;simp only [F3,e];simp [bC,A8,c7.J4,z8,hC.J4,tO,tA]
  have hst:∀X,(⟨l1.Mo,l1.Mn,6,B5 ([o0,tp xs q5,z8,.cells v,tO nm (d+1) er rt,cO (GR cs)]++X) 2 6⟩:J2)=⟨0,0,6,2⟩:=λX=>by simp [l1,B5,ah,bC,A8,c7.J4,z8,hC.J4,tO,tA]
  unfold t14;simp only [x6,y5]
  repeat' (first|refine DE (ki rfl hC.len) hC.K9 ?_|refine DE (ws:=tA nm (d+1) er rt) rfl rfl ?_|refine gx ?_|fail)
  refine ct (m:=6) p43 (iP:=hb6) (hcl:=K6 hb6) (ov:=hst _) (h2:=?_);refine soy rfl ⟨rfl,rfl⟩ rfl rfl rfl (.inr ⟨by decide,by decide⟩) rfl ?_;refine gr ?_;refine Ex.nS _ ([o0,tp xs q6,z8,.cells v,tO nm (d+1) er2 rt,cO l']++c8 d .dead) ?_;refine Ex.fz (bg3 hC hw' nm er2 rt n i 0 .any d hl') ?_;obtain ⟨w,hr,hw⟩:=hC.at0;obtain ⟨U1,Ho⟩:∃U1:fR,⟨nm,l'.map (·.1),er2,rt⟩=U1:=⟨_,rfl⟩;have hte:[c7.d (.str nm),.d (y6 U4.enc (l'.map (·.1))),.d (Z er2),.d (Z rt)].map c7.K9=U1.enc.map .d:=by rw [<- Ho];rfl
  have htS:az4 U1:=by
   subst Ho;refine ⟨D,λx hx=>?_⟩;obtain ⟨p,hp,rfl⟩:=List.mem_map.1 hx;have:=(hw' p hp).2;omega
  obtain ⟨c',tN⟩:∃c' :p9,{ c with j7:=c.j7++[U1] }=c' :=⟨_,rfl⟩;have oJ :me c' (i+1) 0 0:=by
   subst tN;exact { hcs with tl:=D,ts:=uE hcs.ts htS }
  have hce:((c.enc.map c7.d).set 0 (B9 4 fR.enc (c.j7++[U1]))).map c7.K9=c'.enc.map .d:=by rw [<- tN];rfl
  have hct:1<=O c'.j7:=by rw [<- tN];simp
  have Ts:=oJ.small V V V;have hd3:d=1\/d=2\/d=3:=V
  rcases hd3 with hd3|hd3|hd3
  all_goals
   rw [hd3];simp only [c8,x6,y5]
   repeat' (first|refine DE (ki rfl hC.len) hC.K9 ?_|refine eN ?_|refine lpW (hr _ rfl) hw ?_|refine DE rfl hte ?_|refine oN (enc:=fR.enc) U1 ?_|refine XN (enc:=fR.enc) (ys:=[U1]) (h2:=?_)|refine Ik (h2:=?_)|refine gx ?_|fail)
   refine Ex.join (λst=>∃(c:p9) (v:List c7) (w5 w7:c7) (X:j9),CO c v/\me c (i+1) 0 0/\(c=Dr\/F1 c=W/\1<=O c.j7)/\st=⟨t14 n i w5 (.d (Z 0)) w7,[o0,tp xs q6,z8,.cells v]++X⟩) ?_ ?_
   .refine Ex.test (Rn.text ?_)
    repeat' (first|refine DE rfl hce ?_|refine cl (Nv c' Ts) ?_|refine gx ?_|fail)
    refine ⟨_,rfl,λh5=>?_,λh5=>?_⟩
    .repeat' (first|refine DE rfl hce ?_|refine gx ?_|fail)
     refine soy rfl ⟨rfl,rfl⟩ rfl rfl rfl (.inl (s9 _)) (hC.wrA rfl c') ?_;refine gr ?_;exact ⟨c',_,_,_,_,CO.enc c',oJ,.inr ⟨h5,hct⟩,rfl⟩
    .exact Ex.skip ⟨c,v,_,_,_,hC,hcs.mono V V V,YG,rfl⟩
   rintro _ ⟨c2,v2,w5,w7,X,hC2,aC9,aD0,rfl⟩;obtain ⟨w2,Sh,Sj⟩:=hC2.at0;unfold t14;simp only [x6,y5];refine tt (λq7 Dh=>?_) (λq7 Dh=>?_) (h:=?_)
   .exact Ex.exit (az8 hx Dh c2 v2 hC2 hn.1 (aC9.mono V V V) aD0 n i _ _ _ X)
   .refine gr ?_
    exact kk ⟨_,_,G5 (j6 rfl) (by show F3 [z8,.cells v2]<=4;simp [F3,bC,hC2.J4,z8,A8,c7.J4]),i+1,q7,c2,v2,Dh,V,hC2,aC9,aD0,rfl,rfl⟩
   .refine Rn.text ?_
    repeat' (first|refine lpW (Sh _ rfl) Sj ?_|refine nx (λ_ _ _ _ _=>?_)|refine gx ?_|refine fk (h1:=λhw=>?_) (h2:=λhw=>?_)|exact ⟨rfl,⟨_,by assumption,rfl⟩,_,rfl⟩|fail)
 .exact Ex.exit (az8 hx hq1 c v hC hn.1 (hcs.mono V V V) YG n i _ _ _ [])
end
section
variable {xs:List Int} {o0:x4} {l:J2} {b:Nat} {j8 ops:List o3} {T:List c7} {HD:j9} {k:Nat} {rl:List c7} {l6:List A5.Touch} {Q:List c7->j9->List c7->Prop} {q:Nat} {os:List y4} {u:List Nat}
def nxT {n:Int}{s:Nat}(hx:O xs<=35184372088832)(hq:q<=4 * O xs)(h2:∀(r:Int) (q' :Nat),q' <=4 * O xs->0<=r->r<n->Ry A l b F j8 ops (T.set s (.d (Z r))) (o0::tp xs q' ::HD) (k+1) (.d (Z r)::rl) (.slot s:: .below 2::l6) Q)
  (ha:os.map (rq T k rl)=[.ptr 1 0,.d (Z n)]:=by rfl) (hn:1<=n/\n<=1000000:=by omega) (hs:l.strict=2:=by rfl) (hm:l.may 1=W:=by rfl) (ht:Nat.ble (s+1) (O T)=W:=by rfl) :
  Ry A l b F j8 (⟨.call 22 os,J s,K,u⟩::ops) T (o0::tp xs q::HD) k rl l6 Q:=by
 obtain ⟨_,q',h1,⟨r,rfl,h3,h4⟩,p⟩:=pN (o0:=o0) (l:=⟨l.Mo,l.Mn,2,2⟩) hx hq n hn hm;have e:B5 (o0::tp xs q::HD) l.strict 2=2:=by simp [B5,hs]
 refine ctT (m:=2) (H0:=[o0,tp xs q]) (HD:=HD) (H2:=o0::tp xs q' ::HD) p rfl ?_ ?_ rfl ?_ ?_ ha rfl rfl rfl rfl rfl (j6 ht) rfl (h2 r q' h1 h3 h4)
 .simp [hs,F3]
 .rw [hs,show A8 [c7.ptr 1 0,.d (Z n)]=2 from rfl];exact K6 (by simp [F3])
 .simp
 .rw [e]
end
def pF (s:K0)(hs:O s<=1000)(n:Nat)(hn:n<=1000):∃c,Pf A 41 [.d (.str s),.d (Z n)] (.d (.str (s++[c]))):=p41 s hs V V
section
variable {xs:List Int} {o0:x4} {q:Nat} (hx:O xs<=35184372088832) (hq:q<=4 * O xs)
include hx hq
set_option maxHeartbeats 8000000 in
def q65:Tq xs o0 l1 65 [.ptr 1 0] q λv=>∃c,v=cat c/\F1 c=W/\me c 3 3 6/\1<=O c.j7:=by
 refine Tq.go 8 ?_;refine gr ?_;refine tq (q14 hx hq 3 (by decide)) ?_;rintro _ q1 hq1 ⟨c0',rfl,hv0,hs0,ht0⟩;refine tq (q13 hx hq1 hv0 hs0 (by decide) ht0 3 (by decide)) ?_;rintro _ q2 lJ ⟨cb,rfl,hvb,Bm,htb⟩;refine gc (aL3 cb (Bm.small (by decide) (by decide) (by decide)).sm.iC) ?_;have hnb:1<=O (p9.sn cb)/\O (p9.sn cb)<=100:=by
  have h1:=Z6 cb;have h2:=Bm.tl;have h3:=Bm.vl;unfold p9.ns at h1;rw [<- htb] at ht0;omega
 refine Ex.S4 (λk T' H' =>∃(i q:Nat) (c:p9),q<=4 * O xs/\i+k=6/\F1 c=W/\me c 3 3 i/\1<=O c.j7/\T' =[.ptr 1 0,.ptr 2 0,.ptr 3 0,.d (y6 encS (p9.sn cb)),.d (Z i),.any,.any,.any,.any]/\H' =[o0,tp xs q,z8,.cells (c.enc.map .d)]) ?_ (k:=6) ⟨0,q2,cb,lJ,V,hvb,Bm.mono V V V,by rw [htb];exact ht0,rfl,rfl⟩;rintro k _ _ ⟨i,q3,c,oK,hk,hv,hs,ht,rfl,rfl⟩;refine Ex.seq ?_;refine tl i 6 (λh=>?_) (λh=>?_)
 .obtain ⟨a0,pa0⟩:=pF [105] (by decide) i V
  obtain ⟨a1,pa1⟩:=pF [115] (by decide) i V;obtain ⟨a2,pa2⟩:=pF [104] (by decide) i V;obtain ⟨a3,pa3⟩:=pF [114] (by decide) i V;obtain ⟨a4,pa4⟩:=pF [109] (by decide) i V;obtain ⟨a5,pa5⟩:=pF [98] (by decide) i V;have Df:=hs.il;have xR:=hs.sl;have hcl:=hs.cl;have hrl:=hs.rl;have hml:=hs.ml;have hbl:=hs.bl
  iterate 9 refine gx ?_
  refine Ex.seq ?_;refine Ex.region (rg 0 (h:=?_));refine gm ?_;refine lx λr q4 vW r0 r1=>?_
  refine gm ?_;refine lx λDe q5 Bl _ _=>?_
  refine gm ?_;obtain ⟨s,hsn⟩:∃s,Y (p9.sn cb) r.toNat=s:=⟨_,rfl⟩;rw [hsn];refine gr ?_;refine nxT hx Bl λr q6 OP r0 r1=>?_
  refine gr ?_;have hs2:=hs.mono (k9 _) (k9 _) (Nat.le_succ i);refine Ex.Wn (λst=>∃(d:p9) (vs:List c7) (q:Nat),q<=4 * O xs/\me d 3 3 (i+1)/\d.j7=c.j7/\O vs=8/\vs.map c7.K9=d.enc.map .d/\st=⟨[.ptr 1 0,.ptr 2 0,.ptr 3 0,.d (y6 encS (p9.sn cb)),.d (Z i),.ptr 4 0,.d (.str s),.d (Z De),.d (Z r)],[o0,tp xs q,z8,.cells (c.enc.map .d),.cells vs]⟩) ?_ ?_
  .refine te trivial ?_ (te trivial ?_ (te trivial ?_ (te trivial ?_ (te trivial ?_ ?_))))
   .repeat' (first|refine cl (pa0) ?_|refine eN ?_|refine gx ?_|fail)
    repeat' (first|refine oN (enc:=mg.enc) ⟨[105]++[a0],s,De⟩ ?_|refine XN (enc:=mg.enc) (ys:=[⟨[105]++[a0],s,De⟩]) (h2:=?_)|refine Ik (h2:=?_)|refine gx ?_|fail)
    exact ⟨{ c with idxs:=c.idxs++[⟨[105]++[a0],s,De⟩] },(c.enc.map .d).set 2 (B9 3 mg.enc (c.idxs++[⟨[105]++[a0],s,De⟩])),q6,OP,{ hs2 with il:=by simp;omega },rfl,rfl,rfl,rfl⟩
   .repeat' (first|refine cl (pa1) ?_|refine eN ?_|refine gx ?_|fail)
    refine nx λn0 q7 Dh _ _=>?_
    refine gr ?_;refine nx λn1 q8 Tp _ _=>?_
    refine gr ?_;refine nx λn2 q9 hq9 _ _=>?_
    repeat' (first|refine oN (enc:=mb.enc) ⟨[115]++[a1],s,De,n0,1+n1,1+n2⟩ ?_|refine XN (enc:=mb.enc) (ys:=[⟨[115]++[a1],s,De,n0,1+n1,1+n2⟩]) (h2:=?_)|refine Ik (h2:=?_)|refine gx ?_|fail)
    exact ⟨{ c with J7:=c.J7++[⟨[115]++[a1],s,De,n0,1+n1,1+n2⟩] },(c.enc.map .d).set 3 (B9 6 mb.enc (c.J7++[⟨[115]++[a1],s,De,n0,1+n1,1+n2⟩])),q9,hq9,{ hs2 with sl:=by simp;omega },rfl,rfl,rfl,rfl⟩
   .repeat' (first|refine cl (pa2) ?_|refine eN ?_|refine gx ?_|fail)
    refine nx λn0 q7 Dh _ _=>?_
    repeat' (first|refine oN (enc:=oF.enc) ⟨[104]++[a2],s,De,1+n0⟩ ?_|refine XN (enc:=oF.enc) (ys:=[⟨[104]++[a2],s,De,1+n0⟩]) (h2:=?_)|refine Ik (h2:=?_)|refine gx ?_|fail)
    exact ⟨{ c with L0:=c.L0++[⟨[104]++[a2],s,De,1+n0⟩] },(c.enc.map .d).set 4 (B9 4 oF.enc (c.L0++[⟨[104]++[a2],s,De,1+n0⟩])),q7,Dh,{ hs2 with cl:=by simp;omega },rfl,rfl,rfl,rfl⟩
   .repeat' (first|refine cl (pa3) ?_|refine eN ?_|refine gx ?_|fail)
    refine nx λn0 q7 Dh _ _=>?_
    repeat' (first|refine oN (enc:=oo.enc) ⟨[114]++[a3],s,1+n0⟩ ?_|refine XN (enc:=oo.enc) (ys:=[⟨[114]++[a3],s,1+n0⟩]) (h2:=?_)|refine Ik (h2:=?_)|refine gx ?_|fail)
    exact ⟨{ c with M7:=c.M7++[⟨[114]++[a3],s,1+n0⟩] },(c.enc.map .d).set 5 (B9 3 oo.enc (c.M7++[⟨[114]++[a3],s,1+n0⟩])),q7,Dh,{ hs2 with rl:=by simp;omega },rfl,rfl,rfl,rfl⟩
   .repeat' (first|refine cl (pa4) ?_|refine eN ?_|refine gx ?_|fail)
    repeat' (first|refine oN (enc:=rA.enc) ⟨[109]++[a4],s⟩ ?_|refine XN (enc:=rA.enc) (ys:=[⟨[109]++[a4],s⟩]) (h2:=?_)|refine Ik (h2:=?_)|refine gx ?_|fail)
    exact ⟨{ c with O0:=c.O0++[⟨[109]++[a4],s⟩] },(c.enc.map .d).set 6 (B9 2 rA.enc (c.O0++[⟨[109]++[a4],s⟩])),q6,OP,{ hs2 with ml:=by simp;omega },rfl,rfl,rfl,rfl⟩
   .repeat' (first|refine cl (pa5) ?_|refine eN ?_|refine gx ?_|fail)
    refine nx λn0 q7 Dh _ _=>?_
    repeat' (first|refine oN (enc:=ru.enc) ⟨[98]++[a5],[s],1+n0⟩ ?_|refine XN (enc:=ru.enc) (ys:=[⟨[98]++[a5],[s],1+n0⟩]) (h2:=?_)|refine Ik (h2:=?_)|refine gx ?_|fail)
    exact ⟨{ c with Q3:=c.Q3++[⟨[98]++[a5],[s],1+n0⟩] },(c.enc.map .d).set 7 (B9 3 ru.enc (c.Q3++[⟨[98]++[a5],[s],1+n0⟩])),q7,Dh,{ hs2 with bl:=D,bk:=uE hs.bk U },rfl,rfl,rfl,rfl⟩
  rintro _ ⟨d,vs,q7,Dh,hd,hdt,hvl,hva,rfl⟩;refine Ex.test (Rn.text ?_)
  repeat' (first|refine DE (ki rfl hvl) hva ?_|refine cl (Nv d (hd.small (by decide) (by decide) V)) ?_|refine gx ?_|fail)
  refine ⟨_,rfl,λh5=>?_,λh5=>?_⟩
  .repeat' (first|refine DE (ki rfl hvl) hva ?_|refine gx ?_|fail)
   exact kk ⟨_,_,G5 (j6 rfl) (j6 rfl),i+1,q7,d,Dh,V,h5,hd,by rw [hdt];exact ht,rfl,rfl⟩
  .refine gr ?_
   exact kk ⟨_,_,G5 (j6 rfl) (j6 rfl),i+1,q7,c,Dh,V,hv,hs2,ht,rfl,rfl⟩
 .refine gr ?_
  exact ⟨_,q3,rfl,oK,c,rfl,hv,hs.mono V V V,ht⟩
end
end Go.Proofs.YtibjocmpkoepoaaGreat


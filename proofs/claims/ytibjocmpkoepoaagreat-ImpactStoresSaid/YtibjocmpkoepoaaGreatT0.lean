import Derived.Test.YtibjocmpkoepoaaGreatX0
import Derived.Test.YtibjocmpkoepoaaGreatT4
set_option linter.all false
open Bool renaming and_eq_true→c9,false_eq_true→j6,not_eq_false'→B7,not_eq_true'→o9,or_eq_false_iff→B2,true→W,false→F
open List renaming cons_append→x4,drop_of_length_le→n5,getElem?_append_left→y7,getElem?_append_right→x7,getElem_of_mem→E0,length_append→j9,length_cons→n9,length_map→A3,length_singleton→E5,map_cons→G7,mem_append→G4,mem_cons→K2,nil_append→y5,replicate→c8,replicate_succ→M0,set_cons_succ→o7,set_cons_zero→o8,take_of_length_le→s9,length→O
open Nat renaming le_of_ble_eq_true→j5,le_refl→k9,le_trans→o5,lt_or_ge→y8,mul_le_mul_right→F8,reduceAdd→K5,zero_le→s8
open Option renaming some→J,none→K
namespace Go.Proofs.YtibjocmpkoepoaaGreat
open Go.z6 Go.z6.S
attribute [local irreducible] Rx Ry Rn Ex Pf
theorem xO {e:List Q9}{ty:List Int}(h:s7 (K4 e ty).2 0=W):good (K4 e ty).1:=by
 unfold K4 at h ⊢;split at h
 .simp [o6] at h
 next a ha=>
  split at h
  .have hwf:a.wf:=by
    unfold ek at ha;split at ha
    .split at ha
     next b hb=>
      cases ha;exact (R1 16 _ _ _ hb).2.1
     .cases ha
    .cases ha
   simp_all [EU]
  grind [o6]
theorem RD {c:p7}{n:Nat}:∀(k i:Nat),bF c n k i=0->∀j,i<=j->j<i+k->V7 c n j=0
 |0,i,_,j,h1,h2=>V
 |k+1,i,h,j,h1,h2=>by
  unfold bF at h;cases he:s7 (V7 c n i) 0 with
  |false =>
   simp_all [Bool.not_false,if_true,o6]
  |true =>
   rw [he] at h
   by_cases hj:j=i
   .grind [W9]
   .exact RD k (i+1) h j V V
theorem eS {c:p7}{k:Nat}(h:bQ c k=0):1<=O (Y c.j7 k).o4/\O (Y c.j7 k).o4<=8/\∀x,x∈(Y c.j7 k).o4->good x.type:=by
 unfold bQ at h;cases hc:(!p9 (O (Y c.j7 k).o4) 1 8|| !p9 (Y c.j7 k).erase 0 1|| !p9 (Y c.j7 k).ay 0 1048576) with
 |true=>simp_all
 |false =>
  rw [hc] at h;simp [B2,B7,p9,c9,r7,decide_eq_true_eq] at hc;refine ⟨V,V,λx hx=>?_⟩;obtain ⟨j,hj,rfl⟩:=E0 hx;have h1:=RD _ _ h j V V;rw [<- A7 hj];unfold V7 at h1
  by_cases hg:good (Y (Y c.j7 k).o4 j).type
  .exact hg
  .have ht:(!s7 (Y (Y c.j7 k).o4 j).type 1&& !s7 (Y (Y c.j7 k).o4 j).type 2)=W:=by
    unfold good at hg;simp [o6,c9,o9,beq_eq_false_iff_ne];omega
   grind
theorem ou {ty:List Int}:∀(l:List yV) (seen:List I4),W3 ty seen l=0->∀e,e∈l->(e.agg&&s7 e.f 0)=W\/s7 (K4 e.expr ty).2 0=W
 |[],_,_,e,he=>by cases he
 |a::l,seen,h,e,he=>by
  unfold W3 at h;split at h
  .omega
  .split at h
   .omega
   .split at h
    .omega
    .split at h
     next h0=>
      rcases K2.1 he with rfl|he
      .exact .inl h0
      .exact ou l _ h e he
     .split at h
      .simp_all [o6]
      .split at h
       .omega
       .rcases K2.1 he with rfl|he
        .simp_all
        .exact ou l _ h e he
theorem Y0 {c:p7}(hv:C4 c=W):∀(n k:Nat),k<n->k<p7.ns c->1<=O (M3 c k)/\O (M3 c k)<=8/\∀x,x∈M3 c k->good x
 |0,k,h,_=>V
 |n+1,k,h,hk=>by
  obtain ⟨h1,_,h3⟩:=W6 hv;have hnl:=P6 c;have he:=h1 k V
  rcases y8 k (O c.j7) with ht|ht
  .obtain ⟨a1,a2,a3⟩:=eS (S8 he ht)
   simp_all [M3,Y,Q1.type,fC,if_pos,List.mem_map]
  .have tj:=bK he ht hk
   unfold T1 at tj;split at tj
   .omega
   .split at tj
    .omega
    next hl=>
     split at tj
     .omega
     next hsh=>
      simp only [Bool.not_eq_true,B7,o9,Bool.not_eq_false] at hsh;have hf:=J8 c (T7 c k).left k;split at tj
      next h2=>
       have e:M3 c k=M3 c (F0 c (T7 c k).left k).toNat:=by
        have h0:0<=F0 c (T7 c k).left k:=by
         simp_all [Bool.or_eq_true,s4,decide_eq_true_eq,not_or]
        conv=>lhs;unfold M3 fC
        rw [if_neg V,show (Y c.views (k - O c.j7))=T7 c k from rfl,if_pos h2,S4 c V]
       have h0:0<=F0 c (T7 c k).left k:=by
        simp_all [Bool.or_eq_true,s4,decide_eq_true_eq,not_or]
       rw [e];exact Y0 hv n _ V V
      next h2=>
       split at tj
       .simp_all [o6]
       .split at tj
        .simp_all [o6]
        .split at tj
         .omega
         .have e:M3 c k=X7 (T7 c k) (ins c k):=by
           unfold M3 fC;rw [if_neg V,show (Y c.views (k - O c.j7))=T7 c k from rfl,if_neg h2];rfl
          have hlen:1<=O (T7 c k).items+O (T7 c k).E3/\O (T7 c k).items+O (T7 c k).E3<=8:=by
           unfold Z6 iF at hsh;rw [if_neg h2] at hsh;split at hsh<;>simp only [c9,o9,B2,o6,beq_eq_false_iff_ne,r7,decide_eq_true_eq] at hsh<;>omega
          have hg:=ou _ _ tj;rw [e];refine ⟨by grind [X7],by grind [X7],λx hx=>?_⟩;simp only [X7,G4,List.mem_map] at hx
          rcases hx with ⟨y,hy,rfl⟩|⟨y,hy,rfl⟩
          .rcases hg ⟨F,y.name, -1,y.expr⟩ (List.mem_append_left _ (List.mem_map.2 ⟨y,hy,rfl⟩)) with h|h
           all_goals simp_all [xO]
          .unfold sI
           split
           .exact .inl rfl
           next h0=>
            rcases hg ⟨W,y.name,y.func,y.expr⟩ (List.mem_append_right _ (List.mem_map.2 ⟨y,hy,rfl⟩)) with h|h
            all_goals simp_all [Bool.true_and,xO]
theorem Dt {s:I4}:∀(l:List I4) (i:Nat),s∈l->(i:Int)<=I5 s l i/\I5 s l i<i+O l
 |[],_,h=>by cases h
 |x::r,i,h=>by
  simp only [I5];split
  .simp;omega
  next hx=>
   rcases K2.1 h with rfl|h
   .simp [E2] at hx
   .have:=Dt r (i+1) h
    simp at this ⊢;omega
theorem Px {c:p7}(hv:C4 c=W){s:I4}(h:s∈p7.sn c):∃i:Nat,eH c s=(i:Int)/\i<p7.ns c:=by
 have hl:=S3 c;have h1:=Dt (p7.sn c) 0 h;have e:eH c s=I5 s (p7.sn c) 0:=by
  unfold eH F0;rw [hv,if_pos rfl,s9 V]
 rw [e];refine ⟨(I5 s (p7.sn c) 0).toNat,V,V⟩
theorem ME {c:p7}(hv:C4 c=W){i:Nat}(hi:i<p7.ns c):R5 c i=W:=by
 unfold R5;rw [hv];simp [r7,s4];omega
end Go.Proofs.YtibjocmpkoepoaaGreat
namespace Go.z6.S
section
variable {A:Prog} {l:G9} {b:Nat}
variable {dr:Bool} {j8 ops:List x9} {T:List c7} {H:k8} {n:Nat} {rl:List c7} {l6:List Touch} {Q:List c7->k8->List c7->Prop}
theorem bq {op:BinOp}{a c r:Data}(h:K0 op a c=J r){x y:A4}{u:List Nat}(h2:Ry A l b dr j8 ops T H (n+1) (.d r::rl) l6 Q)(hx:rq T n rl x= .d a:=by rfl)(hy:rq T n rl y= .d c:=by rfl) :
  Ry A l b dr j8 (⟨.bin op x y,K,K,u⟩::ops) T H n rl l6 Q:=Ry.pure (rs:=[]) rfl (by simp only [l5,hx,hy,h]) h2
theorem ci {k k' :IntKind}{c d:Int}(h:k.wrap c=d){x:A4}{u:List Nat}(h2:Ry A l b dr j8 ops T H (n+1) (.d (.int k d)::rl) l6 Q)(hx:rq T n rl x= .d (.int k' c):=by rfl) :
  Ry A l b dr j8 (⟨.pU k x,K,K,u⟩::ops) T H n rl l6 Q:=Ry.pure (rs:=[]) rfl (by simp only [l5,hx,h]) h2
end
end Go.z6.S
namespace Go.Proofs.YtibjocmpkoepoaaGreat
open Go.z6 Go.z6.S
attribute [local irreducible] Rx Ry Rn Ex Pf
def tp (xs:List Int)(p:Nat):x6:= .cells [.d (x3 (λn=>[Z n]) xs),.d (Z (p:Int))]
theorem UH (z:Int){n:Int}(h2:2<=n)(h3:n<=1000000):∃r q:Int,K0 .rem (.int .i64 z) (.int .i64 n)=J (.int .i64 q)/\ -n<q/\q<n/\K0 .rem (.int .i64 (q+n)) (.int .i64 n)=J (.int .i64 r)/\0<=r/\r<n:=by
 have h1:=Int.tmod_lt_of_pos z (show 0<n by omega);have h4: -n<z.tmod n:=by
  by_cases hz:z<0
  .have e:z.tmod n= -((-z).tmod n):=by rw [<- Int.neg_tmod,Int.neg_neg]
   have:=Int.tmod_lt_of_pos (-z) (show 0<n by omega);omega
  .have:=Int.tmod_nonneg (a:=z) n V
   omega
 have h5:=Int.tmod_lt_of_pos (z.tmod n+n) (show 0<n by omega);have h6:=Int.tmod_nonneg (a:=z.tmod n+n) n V;refine ⟨(z.tmod n+n).tmod n,z.tmod n,?_,h4,h1,?_,h6,h5⟩
 .simp [K0,U0,au];omega
 .simp [K0,U0,au];omega
theorem Sl (o0:x6)(xs:List Int)(p:Nat)(n:Int)(l:G9)(hx:O xs<=35184372088832)(hp:p<=4 * O xs)(hn:n<=1000000)(hl:l.may 1=W) :
  Pq A 22 [.ptr 1 0,.d (Z n)] [o0,tp xs p] l λv H1=>∃(r:Int) (q:Nat),v= .d (Z r)/\0<=r/\(2<=n->r<n)/\(n<2->r=0)/\q<=4 * O xs/\H1=[o0,tp xs q]:=by
 unfold tp;have h0: -9223372036854775808<=(4:Int) * O xs/\(4:Int) * O xs<9223372036854775808:=V
 refine Pq.go 3 ?_;refine gr ?_;refine tB (D0 n 2||(s7 (O xs) 0||U4 (4 * O xs) p)) ?_ (λh=>?_) (λh=>?_)
 .repeat' (first|refine mu ?_ h0|refine gx ?_|refine fq (λhw=>?_) λhw=>?_|refine ⟨rfl,rfl,_,rfl,?_⟩|refine ⟨rfl,rfl⟩|fail)
  all_goals exact cc
 .refine gr ?_
  refine ⟨_,_,rfl,0,p,rfl,Int.le_refl _,λh=>V,λ_=>rfl,hp,rfl⟩
 have h' :=h;simp [s4,r7,o6] at h';obtain ⟨h1,h2,h3⟩:=h';have hlen:0<O xs:=by
  rcases Nat.eq_zero_or_pos (O xs) with e|e
  .exact absurd (List.eq_nil_of_length_eq_zero e) h2
  .exact e
 obtain ⟨i,hi,hb⟩:∃i:Nat,i<O xs/\K0 .rem (.int .i64 (p:Int)) (.int .i64 (O xs:Int))=J (.int .i64 (i:Int)) :=
  ⟨p % O xs,Nat.mod_lt _ hlen,by simp [K0,U0,au];exact ⟨V,rfl⟩⟩
 obtain ⟨s,hs,hq⟩:∃s:Nat,s<=4/\K0 .quo (.int .i64 (p:Int)) (.int .i64 (O xs:Int))=J (.int .i64 (s:Int)):=by
  have hd:p / O xs<=4:=Nat.div_le_of_le_mul (by rw [Nat.mul_comm];exact hp);have e:(p:Int).tdiv (O xs)=((p / O xs:Nat):Int):=rfl;generalize p / O xs=s at hd e;refine ⟨s,hd,?_⟩;have hne:¬ (O xs:Int)=0:=V
  simp only [K0,U0,j6,if_false,if_true,au,e,hne];have e2:IntKind.wrap .i64 (s:Int)=s:=Go.z6.wrap_small V V;exact congrArg (λz=>J (Data.int IntKind.i64 z)) e2
 repeat' (first|refine bq hb ?_|refine gx ?_|fail)
 repeat' (first|refine bq hq ?_|refine gx ?_|fail)
 refine Ex.xG (λst=>∃z:Int,st=⟨[.ptr 1 0,.d (Z n),.d (Z 0),.d (Z z),.d (Z (s:Int))],[o0,.cells [.d (x3 (λn=>[Z n]) xs),.d (Z (p:Int))]]⟩) ?_ ?_
 .have hc:IntKind.wrap .u64 (s:Int)=(s:Int):=by
   match s,hs with
   |0,_=>rfl
   |1,_=>rfl
   |2,_=>rfl
   |3,_=>rfl
   |4,_=>rfl
   |s+5,h=>omega
  have hsh:K0 .shr (.int .i64 (Y xs i)) (.int .u64 (s:Int))=J (.int .i64 ((Y xs i).fdiv (2 ^ (min s 64)))):=by simp [K0,U0,vi];rfl
  obtain ⟨z,hz⟩:∃z,K0 .xor (.int .i64 ((Y xs i).fdiv (2 ^ (min s 64)))) (.int .i64 (s:Int))=J (.int .i64 z):=⟨_,by simp [K0,U0,au];rfl⟩;refine tb (D0 0 s) (λg=>?_) (λg=>?_)
  .repeat' (first|refine ci hc ?_|refine bq hsh ?_|refine bq hz ?_|refine gx ?_|fail)
   exact ⟨_,rfl⟩
  .refine gr ?_
   exact ⟨_,rfl⟩
 .rintro _ ⟨z,rfl⟩
  obtain ⟨r,q,r1,r2,r3,r4,r5,r6⟩:=UH z (show 2<=n by omega) hn;refine gr ?_;refine so1 (hl:=hl) (hb:=s8 _) (hq:=Nat.lt_succ_self 1) (h2:=?_)
  repeat' (first|refine bq r1 ?_|refine bq r4 ?_|refine gx ?_|fail)
  refine ⟨_,_,rfl,r,p+1,rfl,r5,λ_=>r6,λh=>V,V,?_⟩;rfl
end Go.Proofs.YtibjocmpkoepoaaGreat
namespace Go.Proofs.YtibjocmpkoepoaaGreat
open Go.z6 Go.z6.S
attribute [local irreducible] Rx Ry Rn Ex Pf Rl
def l1:G9:=⟨0,0,2,2⟩
def Tq (xs:List Int)(o0:x6)(l:G9)(f:FuncId)(args:List c7)(q:Nat)(P:c7->Prop):Prop :=
 ∃v q',q' <=4 * O xs/\P v/\Pm A f args [o0,tp xs q] l v [o0,tp xs q']
section
variable {xs:List Int} {o0:x6} {l:G9} {b:Nat} {dr:Bool} {j8 ops:List x9} {T:List c7} {HD:k8} {k:Nat} {rl:List c7} {l6:List z6.Touch} {Q:List c7->k8->List c7->Prop} {f:FuncId} {args:List c7} {q:Nat} {P:c7->Prop} {os:List A4} {u:List Nat}
theorem Tq.go {af:p6}(n:Nat)(h:Ex A l1 2 af.body ⟨T,[o0,tp xs q]⟩ λx s=>∃w q',T9 af 2 (J (x,s))=J (w,[o0,tp xs q'])/\q' <=4 * O xs/\P w)
  (hf:A.fn f=J af:=by rfl) (hp:A.bw f=K:=by rfl) (hn:O args=af.nparams:=by rfl) (hT:args++c8 n .any=T:=by simp only [c8,x4,y5]<;>rfl) (hN:O af.names - O args=n:=by rfl):Tq xs o0 l1 f args q P:=by
 have:=Pq.go (A:=A) (l:=l1) (b:=2) (H:=[o0,tp xs q]) (Post:=λw H1=>∃q',H1=[o0,tp xs q']/\q' <=4 * O xs/\P w) n (h.mono λx s ⟨w,q',h1,h2,h3⟩=>⟨w,_,h1,q',rfl,h2,h3⟩) hf hp hn rfl hT hN;obtain ⟨v,_,⟨q',rfl,h1,h2⟩,p⟩:=this;exact ⟨v,q',h1,h2,p⟩
theorem tq (p:Tq xs o0 ⟨l.Fe,l.Fc,2,2⟩ f args q P)(h2:∀(v:c7) (q' :Nat),q' <=4 * O xs->P v->Ry A l b dr j8 ops T (o0::tp xs q' ::HD) (k+1) (v::rl) (.below 2::l6) Q)
  (ha:os.map (rq T k rl)=args:=by rfl) (hb:A2 args=2:=by rfl) (hs:l.strict=2:=by rfl) (eM:A.prom f=F:=by rfl) (hm:A.mode f=0:=by rfl) (hd:dr=W->Nat.ble (kY j8) k=W:=by intro;rfl) :
  Ry A l b dr j8 (⟨.call f os,K,K,u⟩::ops) T (o0::tp xs q::HD) k rl l6 Q:=by
 obtain ⟨v,q',h1,h3,p⟩:=p;have e:B1 (o0::tp xs q::HD) l.strict 2=2:=by simp [B1,hs]
 exact c0 (m:=2) p rfl (HD:=HD) (fe:=by simp [hs,C9]) (hcl:=by rw [hs,hb];exact I8 (by simp [C9])) (iZ:=by rw [e]) (hd:=hd) (ha:=ha) (eM:=eM) (hm:=hm) (h2:=h2 v q' h1 h3)
theorem lq' {na:Nat}{lg:List dA}(p:Tq xs o0 ⟨l.Fe,l.Fc,2,2⟩ f args q P)(h2:∀(v:c7) (q' :Nat),q' <=4 * O xs->P v->Rl A l b j8 ops T (o0::tp xs q' ::HD) (k+1) (v::rl) (.below 2::l6) na (⟨[],[.below 2],2,0⟩::lg) Q)
  (ha:os.map (rq T k rl)=args:=by rfl) (hb:A2 args=2:=by rfl) (hs:l.strict=2:=by rfl) (eM:A.prom f=F:=by rfl) (hm:A.mode f=0:=by rfl) :
  Rl A l b j8 (⟨.call f os,K,K,u⟩::ops) T (o0::tp xs q::HD) k rl l6 na lg Q:=by
 obtain ⟨v,q',h1,h3,p⟩:=p;have e:B1 (o0::tp xs q::HD) l.strict 2=2:=by simp [B1,hs]
 exact yc (m:=2) HD _ p rfl (by simp [hs,C9]) (by rw [hs,hb];exact I8 (by simp [C9])) rfl U (by rw [e]) rfl rfl (h2 v q' h1 h3) ha eM hm
theorem pN (hx:O xs<=35184372088832)(hq:q<=4 * O xs)(n:Int)(hn:1<=n/\n<=1000000)(hl:l.may 1=W):Tq xs o0 l 22 [.ptr 1 0,.d (Z n)] q λv=>∃r:Int,v= .d (Z r)/\0<=r/\r<n:=by
 obtain ⟨_,_,⟨r,q',rfl,h1,h2,h3,h4,rfl⟩,p⟩:=Sl o0 xs q n l hx hq hn.2 hl;refine ⟨_,q',h4,⟨r,rfl,h1,?_⟩,p⟩
 rcases Int.lt_or_le n 2 with h5|h5
 .have:=h3 h5;omega
 .exact h2 h5
theorem nx {n:Int}(h2:∀(r:Int) (q' :Nat),q' <=4 * O xs->0<=r->r<n->Ry A l b dr j8 ops T (o0::tp xs q' ::HD) (k+1) (.d (Z r)::rl) (.below 2::l6) Q)
  (ha:os.map (rq T k rl)=[.ptr 1 0,.d (Z n)]:=by rfl) (hn:1<=n/\n<=1000000:=by omega) (hs:l.strict=2:=by rfl) (hm:l.may 1=W:=by rfl) (hd:dr=W->Nat.ble (kY j8) k=W:=by intro;rfl) (hx:O xs<=35184372088832:=by assumption) (hq:q<=4 * O xs:=by assumption) :
  Ry A l b dr j8 (⟨.call 22 os,K,K,u⟩::ops) T (o0::tp xs q::HD) k rl l6 Q :=
 tq (pN hx hq n hn hm) (by rintro _ q' ON ⟨r,rfl,h3,h4⟩;exact h2 r q' ON h3 h4) (ha:=ha) (hs:=hs) (hd:=hd)
theorem lx {n:Int}{na:Nat}{lg:List dA}(h2:∀(r:Int) (q' :Nat),q' <=4 * O xs->0<=r->r<n->Rl A l b j8 ops T (o0::tp xs q' ::HD) (k+1) (.d (Z r)::rl) (.below 2::l6) na (⟨[],[.below 2],2,0⟩::lg) Q)
  (ha:os.map (rq T k rl)=[.ptr 1 0,.d (Z n)]:=by rfl) (hn:1<=n/\n<=1000000:=by omega) (hs:l.strict=2:=by rfl) (hm:l.may 1=W:=by rfl) (hx:O xs<=35184372088832:=by assumption) (hq:q<=4 * O xs:=by assumption) :
  Rl A l b j8 (⟨.call 22 os,K,K,u⟩::ops) T (o0::tp xs q::HD) k rl l6 na lg Q :=
 lq' (pN hx hq n hn hm) (by rintro _ q' ON ⟨r,rfl,h3,h4⟩;exact h2 r q' ON h3 h4) (ha:=ha) (hs:=hs)
theorem tt {R:H9->St->Prop}{c:A4}{d e:L2}(h2:∀q',q' <=4 * O xs->Ex A l b d ⟨T,o0::tp xs q' ::HD⟩ R)(h3:∀q',q' <=4 * O xs->Ex A l b e ⟨T,o0::tp xs q' ::HD⟩ R)
  (h:Rn A l b ops dr T (o0::tp xs q::HD) λT' H' L=>T' =T/\(∃q',q' <=4 * O xs/\H' =o0::tp xs q' ::HD)/\∃t,F7 T' L c= .d (.bool t):=by (first|refine Rn.text ?_|refine Rn.draw ?_|fail);(repeat' (first|refine nx (λ_ _ _ _ _=>?_)|refine gx ?_|refine Cb (h2:=?_)|refine fq (λhw=>?_) λhw=>?_|exact ⟨rfl,⟨_,by assumption,rfl⟩,_,rfl⟩|fail))) :
  Ex A l b (.test ops dr c d e) ⟨T,o0::tp xs q::HD⟩ R:=Ex.Zn _ h (by rintro _ ⟨q',h,rfl⟩;exact h2 q' h) (by rintro _ ⟨q',h,rfl⟩;exact h3 q' h)
end
theorem Uk (n:Int):Pf A 110 [.d (Z n)] (.agg ((gC ⟨1,n,[]⟩).enc.map .d)):=by
 refine Pf.go 1 ?_;refine gc (QB ⟨1,n,[]⟩) ?_;exact ⟨_,rfl,rfl⟩
theorem av9 (s:I4):Pf A 196 [.d (.str s)] (.agg ((gC ⟨2,0,s⟩).enc.map .d)):=by
 refine Pf.go 1 ?_;refine gc (QB ⟨2,0,s⟩) ?_;exact ⟨_,rfl,rfl⟩
def ZT (v:c7):Prop:=∃x:Vl,v= .agg (x.enc.map .d)
section
variable {xs:List Int} {o0:x6} {q:Nat} (hx:O xs<=35184372088832) (hq:q<=4 * O xs)
include hx hq
theorem Za:Tq xs o0 l1 139 [.ptr 1 0] q ZT:=by
 refine Tq.go 1 ?_
 repeat' (first|refine bk Z [0,1,2,3, -1, -2,7,100,4294967296, -4294967296,5,4] ?_|refine cl (Uk _) ?_|refine nx (λ_ _ _ _ _=>?_)|refine Cb (h2:=?_)|refine eN ?_|refine gx ?_|fail)
 exact ⟨_,_,rfl,by assumption,_,rfl⟩
theorem Zb:Tq xs o0 l1 140 [.ptr 1 0] q ZT:=by
 refine Tq.go 1 ?_
 repeat' (first|refine bk .str [[97],[98],[],[97,98],[97,32,98],[120,0,121],[255,34,92],[98,32,97,32,98],[108,111,110,103,32,116,101,120,116,32,111,102,32,116,104,105,114,116,121,45,116,119,111,32,98,121,116,101,115,32,105,116],[66]] ?_|refine cl (av9 _) ?_|refine nx (λ_ _ _ _ _=>?_)|refine Cb (h2:=?_)|refine eN ?_|refine gx ?_|fail)
 exact ⟨_,_,rfl,by assumption,_,rfl⟩
theorem aC1 (t:Int):Tq xs o0 l1 232 [.ptr 1 0,.d (Z t)] q ZT:=by
 refine Tq.go 1 ?_;refine gr ?_;refine tt (λq1 hq1=>?_) λq1 hq1=>?_
 .refine gr ?_
  exact ⟨_,_,rfl,hq1,⟨0,0,[]⟩,rfl⟩
 refine te trivial ?_ ?_
 .refine gr ?_
  refine tq (Zb hx hq1) ?_;rintro _ q2 gR ⟨x,rfl⟩;refine gr ?_;exact ⟨_,q2,rfl,gR,x,rfl⟩
 .refine gr ?_
  refine tq (Za hx hq1) ?_;rintro _ q2 gR ⟨x,rfl⟩;refine gr ?_;exact ⟨_,q2,rfl,gR,x,rfl⟩
theorem UF (t:Int):Tq xs o0 l1 176 [.ptr 1 0,.d (Z t)] q ZT:=by
 refine Tq.go 1 ?_;refine gr ?_;refine te trivial ?_ ?_
 .repeat' (first|refine bk .str [[97],[98],[99],[100]] ?_|refine nx (λ_ _ _ _ _=>?_)|refine Cb (h2:=?_)|refine eN ?_|refine gx ?_|fail)
  exact ⟨_,_,rfl,by assumption,⟨t,0,_⟩,rfl⟩
 .repeat' (first|refine nx (λ_ _ _ _ _=>?_)|refine Cb (h2:=?_)|refine eN ?_|refine gx ?_|fail)
  exact ⟨_,_,rfl,by assumption,⟨t,_,[]⟩,rfl⟩
end
theorem SS (op:Int):jA op<=3:=by
 unfold jA
 repeat' split
 all_goals omega
def isE (m:Nat)(v:c7):Prop:=∃e:List Q9,O e<=m/\(v=A8 5 Q9.enc e\/v= .d (x3 Q9.enc e))
def Ri:Nat->Nat
 |0=>1
 |d+1=>1+3 * Ri d
theorem BS:∀{d:Nat},d<=3->1<=Ri d/\Ri d<=40
 |0,_|1,_|2,_|3,_=>by decide
 |n+4,h=>V
theorem Ue {a:Int}{n:Nat}(h:1<=n)(h0:0<=a)(h2:n<=100000):∃m:Int,K0 .rem (.int .i64 a) (.int .i64 (n:Int))=J (.int .i64 m)/\0<=m/\m<n :=
 ⟨a.tmod n,by simp [K0,U0,au];omega,Int.tmod_nonneg _ h0,Int.tmod_lt_of_pos _ V⟩
def t93 (d:Nat)(ty:List Int)(want op a b:Int)(w:c7):List c7:=[.ptr 1 0,.d (Z ((d+1:Nat)+1)),.d (ints ty),.d (Z want),.own 5 0 [],.any,.any,.d (Z a),.d (Z b),.d (Z want),.d (Z op),.any,.any,.any,.d (Z op),w]
section
variable {xs:List Int} {o0:x6} {q:Nat} (hx:O xs<=35184372088832)
include hx
set_option maxHeartbeats 2000000 in
theorem MM (ty:List Int)(h1:1<=O ty)(h2:O ty<=100000)(d9 want:Int){m:Nat}(hm:1<=m){q:Nat}(hq:q<=4 * O xs):Ex A l1 2 (match a93.body with| .seq _ (.seq (.test _ _ _ c _) _)=>c|c=>c)
  ⟨[.ptr 1 0,.d (Z d9),.d (ints ty),.d (Z want),.own 5 0 [],.any,.any,.any,.any,.any,.any,.any,.any,.any,.any,.any],[o0,tp xs q]⟩ λx s=>x= .ret/\∃w q',T9 a93 2 (J (x,s))=J (w,[o0,tp xs q'])/\q' <=4 * O xs/\isE m w:=by
 refine gr ?_;refine nx λr q1 hq1 r0 r1=>?_
 refine gr ?_;refine Ex.J1 (λk T' H' =>∃(i q:Nat),q<=4 * O xs/\i+k=O ty/\T' =[.ptr 1 0,.any,.d (ints ty),.d (Z want),.any,.d (Z r),.d (Z i),.any,.any,.any,.any,.any,.any,.any,.any,.any]/\H' =[o0,tp xs q]) ?_ (k:=O ty) ⟨0,q1,hq1,V,rfl,rfl⟩;rintro k _ _ ⟨i,q2,gR,hk,rfl,rfl⟩;refine Ex.seq ?_;refine tl i (O ty) (λh3=>?_) (λh3=>?_)
 .obtain ⟨j,hj,j0,j1⟩:=Ue h1 (show 0<=r+i by omega) h2
  refine gr ?_;refine Ex.test (Rn.text ?_)
  repeat' (first|refine bq hj ?_|refine gx ?_|fail)
  refine fk (h1:=λhw=>?_) (h2:=λhw=>?_)
  .refine gr ?_
   refine nx λs q3 kM s0 s1=>?_
   refine gr ?_;refine ⟨_,rfl,λh=>?_,λh=>?_⟩
   .repeat' (first|refine bq hj ?_|refine oN (enc:=Q9.enc) ⟨2,0,0,[],j⟩ ?_|refine gx ?_|fail)
    exact ⟨rfl,_,q3,rfl,kM,[⟨2,0,0,[],j⟩],hm,.inl rfl⟩
   .refine gr ?_
    exact kk ⟨i+1,q3,kM,V,rfl,rfl⟩
  .refine gr ?_
   refine ⟨_,rfl,λh=>?_,λh=>?_⟩
   .cases h
   .refine gr ?_
    exact kk ⟨i+1,q2,gR,V,rfl,rfl⟩
 .refine gr ?_
  refine te trivial ?_ ?_
  .refine gr ?_
   refine tq (Za hx gR) ?_;rintro _ q3 kM ⟨x,rfl⟩
   repeat' (first|refine oN (enc:=Q9.enc) ⟨1,x.k,x.n,x.t,0⟩ ?_|refine gx ?_|fail)
   exact ⟨rfl,_,q3,rfl,kM,[⟨1,x.k,x.n,x.t,0⟩],hm,.inl rfl⟩
  .refine gr ?_
   refine tq (Zb hx gR) ?_;rintro _ q3 kM ⟨x,rfl⟩
   repeat' (first|refine oN (enc:=Q9.enc) ⟨1,x.k,x.n,x.t,0⟩ ?_|refine gx ?_|fail)
   exact ⟨rfl,_,q3,rfl,kM,[⟨1,x.k,x.n,x.t,0⟩],hm,.inl rfl⟩
set_option maxHeartbeats 4000000 in
theorem q93 (ty:List Int)(h1:1<=O ty)(h2:O ty<=100000):∀(d:Nat),d<=3->∀(d9 want:Int) (q:Nat),q<=4 * O xs->d9=d+1->Tq xs o0 l1 93 [.ptr 1 0,.d (Z d9),.d (ints ty),.d (Z want)] q (isE (Ri d)):=by
 intro d
 induction d with
 |zero =>
  rintro _ d9 want q hq rfl;refine Tq.go 12 ?_;refine gr ?_;refine Ex.test (Rn.text ?_);refine gr ?_;refine fk (h1:=λhw=>?_) (h2:=λhw=>?_)
  .refine gr ?_
   exact ⟨_,rfl,λ_=>(MM hx ty h1 h2 _ _ (k9 _) hq).mono λ_ _ ⟨h,h'⟩=>h ▸ h',λh=>by cases h⟩
  .have:=nO hw
   omega
 |succ d ih =>
  rintro hd d9 want q hq rfl;have hz:=BS (d:=d+1) V;refine Tq.go 12 ?_;refine gr ?_;refine Ex.test (Rn.text ?_);refine gr ?_;refine fk (h1:=λhw=>?_) (h2:=λhw=>?_)
  .have:=gU hw
   omega
  refine gr ?_;refine nx λr q1 hq1 _ _=>?_
  refine gr ?_;refine ⟨_,rfl,λ_=>(MM hx ty h1 h2 _ _ hz.1 hq1).mono λ_ _ ⟨h,h'⟩=>h ▸ h',λ_=>?_⟩
  repeat' (first|refine bk Z [17,18,8,10] ?_|refine gx ?_|fail)
  refine nx λr q2 gR r0 r1=>?_
  repeat' (first|refine Cb (h2:=?_)|refine gx ?_|fail)
  refine Ex.xG (λst=>∃(op:Int) (q:Nat),q<=4 * O xs/\st=⟨[.ptr 1 0,.d (Z ((d+1:Nat)+1)),.d (ints ty),.d (Z want),.own 5 0 [],.any,.any,.d (Z want),.d (Z want),.d (Z want),.d (Z op),.any,.any,.any,.any,.any],[o0,tp xs q]⟩) ?_ ?_
  .refine te trivial ?_ ?_
   .repeat' (first|refine bk Z [3,4,5,6,7,9,11,12,13,14,15,16,17,18] ?_|refine gx ?_|fail)
    refine nx λr q3 kM r0 r1=>?_
    repeat' (first|refine Cb (h2:=?_)|refine gx ?_|fail)
    exact ⟨_,q3,kM,rfl⟩
   .refine gr ?_
    exact ⟨_,q2,gR,rfl⟩
  rintro _ ⟨op,q3,kM,rfl⟩;refine gr ?_;refine Ex.On (λst=>∃(a b:Int) (q:Nat) (w:c7),q<=4 * O xs/\st=⟨t93 d ty want op a b w,[o0,tp xs q]⟩) ?_ ?_
  .refine te trivial ?_ (te trivial ?_ (te trivial ?_ (Ex.seq ?_)))
   .refine gr ?_
    exact ⟨1,_,q3,_,kM,rfl⟩
   .refine gr ?_
    exact ⟨_,1,q3,_,kM,rfl⟩
   .refine gr ?_
    exact ⟨2,_,q3,_,kM,rfl⟩
   .refine Ex.xG (λst=>∃t,st=⟨t93 d ty want op want want (.d (.bool t)),[o0,tp xs q3]⟩) ?_ ?_
    .refine gr ?_
     refine Ex.cond rfl (λ_=>Ex.skip ⟨_,rfl⟩) (λ_=>?_);refine gr ?_;refine Ex.cond rfl (λ_=>Ex.skip ⟨_,rfl⟩) (λ_=>?_);refine gr ?_;exact ⟨_,rfl⟩
    .rintro _ ⟨t,rfl⟩
     unfold t93;refine Ex.cond rfl (λ_=>?_) (λ_=>Ex.skip ⟨_,_,q3,_,kM,rfl⟩);refine gr ?_;refine nx λr q4 qW r0 r1=>?_
     refine gr ?_;exact ⟨_,_,q4,_,qW,rfl⟩
  rintro _ ⟨a,b,q4,w,qW,rfl⟩;unfold t93
  repeat' (first|refine Ry.pure (v:=A8 1 (λn=>[Z n]) [a,b,want]) (rs:=[]) rfl (by rfl) ?_|refine oN (enc:=Q9.enc) ⟨op,0,0,[],0⟩ ?_|refine gx ?_|fail)
  refine Ex.J1 (λk T' H' =>∃(i q:Nat) (e:List Q9),q<=4 * O xs/\i+k=3/\O e<=1+i * Ri d/\T' =[.ptr 1 0,.d (Z ((d+1:Nat)+1)),.d (ints ty),.any,.any,.any,.any,.any,.any,.any,.d (Z op),A8 5 Q9.enc e,A8 1 (λn=>[Z n]) [a,b,want],.d (Z i),.any,.any]/\H' =[o0,tp xs q]) ?_ (k:=3) ⟨0,q4,[⟨op,0,0,[],0⟩],qW,V,U,rfl,rfl⟩;rintro k _ _ ⟨i,q5,e,wq,hk,he,rfl,rfl⟩;have ha:=SS op;have Dq:Ri (d+1)=1+3 * Ri d:=rfl;have hz3:i * Ri d<=3 * Ri d:=F8 _ V;refine Ex.seq ?_;refine tc (D0 i (jA op)) (Is op) (λh=>?_) (λh=>?_)
  .have h:=A5 h
   repeat' (first|refine Cb (h2:=?_)|refine gx ?_|fail)
   refine tq (ih V ((d+1:Nat)+1 - 1) _ q5 wq V) ?_;rintro _ q6 HU ⟨e2,he2,rfl|rfl⟩
   all_goals
    refine gr ?_;exact kk ⟨i+1,q6,e++e2,HU,V,by rw [j9,Nat.succ_mul];omega,rfl,rfl⟩
  .refine gr ?_
   exact ⟨_,q5,rfl,wq,e,V,.inr rfl⟩
end
theorem Sk (s:I4)(hs:O s<=1000){n:Int}(hn:0<=n)(h2:n<=1000000):∃c,Pf A 41 [.d (.str s),.d (Z n)] (.d (.str (s++[c]))):=by
 obtain ⟨m,hm,m0,m1⟩:∃m:Int,K0 .rem (Z n) (Z 10)=J (.int .i64 m)/\0<=m/\m<10 :=
  ⟨n.tmod 10,by simp [K0,U0,au,Z],Int.tmod_nonneg _ hn,Int.tmod_lt_of_pos _ V⟩
 have hw:IntKind.wrap .u8 (48+m)=48+m:=by
  have:m=0\/m=1\/m=2\/m=3\/m=4\/m=5\/m=6\/m=7\/m=8\/m=9:=V
  rcases this with rfl|rfl|rfl|rfl|rfl|rfl|rfl|rfl|rfl|rfl<;>rfl
 refine ⟨UInt8.ofNat (48+m).toNat,?_⟩;have hb:K0 .add (.str s) (.str [UInt8.ofNat (48+m).toNat])=J (.str (s++[UInt8.ofNat (48+m).toNat])):=by simp [K0,qZ];omega
 refine Pf.go 1 ?_
 repeat' (first|refine bq hm ?_|refine ci hw ?_|refine Ry.pure (v:= .d (.str [UInt8.ofNat (48+m).toNat])) (rs:=[]) rfl (by rfl) ?_|refine bq hb ?_|refine gx ?_|fail)
 exact ⟨_,rfl,rfl⟩
section
variable {xs:List Int} {o0:x6} {q:Nat} (hx:O xs<=35184372088832) (hq:q<=4 * O xs)
include hx hq
theorem q94 (ty:List Int)(h1:1<=O ty)(h2:O ty<=100000)(n:Int)(hn:1<=n/\n<=10):Tq xs o0 l1 94 [.ptr 1 0,.d (ints ty),.d (Z n),.d (Z 0)] q λv=>∃l:List uB,v= .d (x3 uB.enc l)/\O l<=n/\∀x∈l,O x.expr<=100:=by
 refine Tq.go 3 ?_;refine gr ?_;refine nx λr q1 hq1 r0 r1=>?_
 refine gr ?_;refine Ex.J1 (λk T' H' =>∃(m:Int) (q:Nat) (l:List uB),q<=4 * O xs/\m=k/\O l+k<=n/\(∀x∈l,O x.expr<=100)/\T' =[.ptr 1 0,.d (ints ty),.any,.d (Z 0),.any,A8 2 uB.enc l,.d (Z m)]/\H' =[o0,tp xs q]) ?_ (k:=(1+r).toNat) ⟨1+r,q1,[],hq1,V,D,U,rfl,rfl⟩;rintro k _ _ ⟨m,q2,l,gR,hm,hl,hle,rfl,rfl⟩;refine Ex.seq ?_;refine tl 0 m (λh=>?_) (λh=>?_)
 .obtain ⟨c,Sk⟩:=Sk [120] (by decide) (n:=0+O l) V V
  refine gc Sk ?_;refine nx λr2 q3 kM s0 s1=>?_
  refine gr ?_;refine nx λr3 q4 qW t0 t1=>?_
  refine gr ?_;refine tq (q93 hx ty h1 h2 r2.toNat V (1+r2) _ _ qW V) ?_;have hz:=BS (d:=r2.toNat) V;rintro _ q5 wq ⟨e,he,rfl|rfl⟩
  all_goals
   repeat' (first|refine oN (enc:=uB.enc) ⟨[120]++[c],e⟩ ?_|refine yY (enc:=uB.enc) (ys:=[⟨[120]++[c],e⟩]) (h2:=?_)|refine gx ?_|fail)
   refine kk ⟨m - 1,q5,l++[⟨[120]++[c],e⟩],wq,V,D,?_,rfl,rfl⟩;intro x hx;simp only [G4,List.mem_singleton] at hx
   rcases hx with hx|rfl
   .exact hle x hx
   .simp only;omega
 .refine gr ?_
  exact ⟨_,q2,rfl,gR,l,rfl,V,hle⟩
end
end Go.Proofs.YtibjocmpkoepoaaGreat
namespace Go.z6
theorem AG :∀l:List Data,A2 (l.map .d)=0
 |[]=>rfl
 |_::l=>by simp [A2,c7.H7,AG l]
end Go.z6
namespace Go.z6.S
theorem yK {A:Prog}{l:G9}{b:Nat}{dr:Bool}{j8 ops:List x9}{T:List c7}{H:k8}{n:Nat}{rl:List c7}{l6:List Touch}{Q:List c7->k8->List c7->Prop}{x:A4}{u:List Nat}{id o m:Nat}{vs ws:List c7}(hr:rd H id o m=J vs)(hv:vs.map c7.I7=ws)(h2:Ry A l b dr j8 ops T H (n+1) (.agg ws::rl) l6 Q)(hx:rq T n rl x= .ptr id o:=by rfl) :
  Ry A l b dr j8 (⟨.load (J m) x,K,K,u⟩::ops) T H n rl l6 Q:=Ry.pure (rs:=[id]) rfl (by simp [l5,hx,hr,hv]) h2
end Go.z6.S
namespace Go.Proofs.YtibjocmpkoepoaaGreat
open Go.z6 Go.z6.S
attribute [local irreducible] Rx Ry Rn Ex Pf Rl
structure VV (v:Vw):Prop where
 on:O v.on<=100
 wh:O v.wh<=100
 items:O v.items<=100
 DB:∀x,x∈v.items->O x.expr<=100
 E3:O v.E3<=100
 La:∀x,x∈v.E3->O x.expr<=100
def Wj (p:Int×Int):List z6.Data:=[Z p.1,Z p.2]
def Qc {α:Type}(enc:α->List z6.Data)(l:List α)(w:c7):Prop:=w.I7= .d (x3 enc l)/\w.H7=0
def vL (nm:I4)(kd:Int)(lf rt:I4)(on:List (Int×Int))(w5 w6:c7)(ds:Bool)(ag:List uc):List c7:=[.d (.str nm),.d (Z kd),.d (.str lf),.d (.str rt),A8 2 Wj on,w5,w6,.d (.bool ds),A8 3 uc.enc ag]
def vO (nm:I4)(kd:Int)(lf rt:I4)(on:List (Int×Int))(w5 w6:c7)(ds:Bool)(ag:List uc):x6:= .cells (vL nm kd lf rt on w5 w6 ds ag)
def t38 (c:p7)(w6 w7 w8 w9 kr uy uz uA:c7):List c7:=[.ptr 1 0,cat c,.d (x3 encS (p7.sn c)),.ptr 2 0,.ptr 3 0,.ptr 4 0,w6,w7,w8,w9,kr,uy,uz,uA]
def SH (ins:List Int)(m:Int)(uz uA:c7):List c7:=[.ptr 1 0,.any,.any,.any,.ptr 3 0,.ptr 4 0,.any,A8 1 (λn=>[Z n]) ins,.any,.any,.any,.d (Z m),uz,uA]
def z9:x6:= .cells [.d (.str []),.d (Z 0),.d (.str []),.d (.str []),.own 2 0 [],.own 5 0 [],.own 2 0 [],.d (.bool F),.own 3 0 []]
theorem GM {nm lf rt:I4}{kd:Int}{on:List (Int×Int)}{wh:List Q9}{it:List uB}{w5 w6:c7}{ds:Bool}{ag:List uc}(h5:Qc Q9.enc wh w5)(h6:Qc uB.enc it w6):(vL nm kd lf rt on w5 w6 ds ag).map c7.I7=(Vw.enc ⟨nm,kd,lf,rt,on,wh,it,ds,ag⟩).map .d:=by
 simp only [vL,G7,List.map_nil,h5.1,h6.1];rfl
theorem Ow {c:p7}(hs:D9 c)(hv:C4 c=W){s:I4}(h:s∈p7.sn c):∃(n:Int) (ty:List Int),(1<=O ty/\O ty<=8)/\Pf A 86 [cat c,.d (.str s)] (.d (Z n))/\Pf A 20 [cat c,.d (Z n)] (.d (ints ty)):=by
 obtain ⟨i,e,hi⟩:=Px hv h;have p:=JS c hs s;rw [e] at p;have g:=Y0 hv (i+1) i V hi;exact ⟨_,_,⟨g.1,g.2.1⟩,p,It c hs i (ME hv hi)⟩
section
variable {xs:List Int} {o0:x6} {q:Nat} (hx:O xs<=35184372088832) (hq:q<=4 * O xs)
include hx hq
set_option maxHeartbeats 4000000 in
theorem q38 (c:p7)(hs:D9 c)(hv:C4 c=W)(hn:1<=O c.j7):Tq xs o0 l1 38 [.ptr 1 0,cat c,.d (x3 encS (p7.sn c))] q λv=>∃w:Vw,v= .agg (w.enc.map .d)/\VV w:=by
 have yI:=hs.sm.dP;have oF:=S3 c;unfold p7.ns at oF;obtain ⟨f0,f1,_⟩:=yI;obtain ⟨nm,pn⟩:=Sk [118] (by decide) (n:=O c.views) V V;refine Tq.go 11 ?_;refine gr ?_;refine Ex.region (rg 1 (h:=?_));refine gm ?_;refine yl pn ?_;refine yp _ (pBk Z [0,0,0,1,1,2]) ?_;refine gm ?_;refine lx λr q1 hq1 r0 r1=>?_
 refine gm ?_;refine lx λr2 q2 gR s0 s1=>?_
 refine gm ?_;obtain ⟨kd,hkd⟩:∃kd,Y [(0:Int),0,0,1,1,2] r.toNat=kd:=⟨_,rfl⟩;have hlf:=E7 (show r2.toNat<O (p7.sn c) by omega);obtain ⟨lf,hle⟩:∃lf,Y (p7.sn c) r2.toNat=lf:=⟨_,rfl⟩;rw [hkd,hle];rw [hle] at hlf;refine Ex.nS (t38 c .any .any .any .any .any .any .any .any) [o0,tp xs q2,.cells (c.enc.map .d),z9,vO ([118]++[nm]) kd lf [] [] (.own 5 0 []) (.own 2 0 []) F []] ?_;obtain ⟨nm,hnm⟩:∃n,[118]++[nm]=n:=⟨_,rfl⟩;rw [hnm];refine Ex.seq ?_;refine Ex.block ?_;refine Ex.Xp (λst=>∃(rt:I4) (q:Nat),q<=4 * O xs/\(rt=[]\/rt∈p7.sn c)/\st=⟨t38 c .any .any .any .any .any .any .any .any,[o0,tp xs q,.cells (c.enc.map .d),z9,vO nm kd lf rt [] (.own 5 0 []) (.own 2 0 []) F []]⟩) ?_ ?_
 .unfold t38 vO vL
  refine te trivial ?_ ?_
  .repeat' (first|refine yK (vs:=vL nm kd lf _ [] (.own 5 0 []) (.own 2 0 []) F []) rfl (GM (wh:=[]) (it:=[]) ⟨rfl,rfl⟩ ⟨rfl,rfl⟩) ?_|refine nx (λ_ _ _ _ _=>?_)|refine Cb (h2:=?_)|refine eN ?_|refine gx ?_|fail)
   exact ⟨_,_,rfl,by assumption,_,rfl,U,U,U,U,U,U⟩
  refine tt (λq3 kM=>?_) λq3 kM=>?_
  .repeat' (first|refine nx (λ_ _ _ _ _=>?_)|refine Cb (h2:=?_)|refine eN ?_|refine gx ?_|fail)
   exact ⟨_,_,by assumption,.inr (E7 V),rfl⟩
  refine tt (λq4 qW=>?_) λq4 qW=>?_
  .refine Ex.region (rg 0 (h:=?_))
   refine gm ?_;refine lx λr5 q5 wq t0 t1=>?_
   refine gm ?_;exact ⟨_,_,by assumption,.inr (List.mem_append_left _ (List.mem_map_of_mem (E7 V))),rfl⟩
  .exact Ex.skip ⟨_,_,qW,.inl rfl,rfl⟩
 rintro _ ⟨rt,q3,kM,Mq,rfl⟩;obtain ⟨n1,ty,⟨ty0,ty1⟩,pl1,pl2⟩:=Ow hs hv hlf;unfold t38 vO vL;refine gc (And.intro pl1 pl2) ?_;refine Ex.join (λst=>∃(ins:List Int) (on:List (Int×Int)) (w8 w9 kr:c7) (q:Nat),q<=4 * O xs/\1<=O ins/\O ins<=16/\O on<=1/\st=⟨t38 c (.d (ints ty)) (A8 1 (λn=>[Z n]) ins) w8 w9 kr .any .any .any,[o0,tp xs q,.cells (c.enc.map .d),z9,vO nm kd lf rt on (.own 5 0 []) (.own 2 0 []) F []]⟩) ?_ ?_
 .rcases Mq with rfl|Mq
  .refine tc F trivial (λh=>by cases h) (λ_=>?_)
   exact Ex.skip ⟨ty,[],_,_,_,q3,kM,ty0,V,U,rfl⟩
  refine te trivial ?_ (Ex.skip ⟨ty,[],_,_,_,q3,kM,ty0,V,U,rfl⟩);obtain ⟨n2,ty2,⟨tz0,tz1⟩,pr1,pr2⟩:=Ow hs hv Mq
  repeat' (first|refine cl (pr1) ?_|refine cl (pr2) ?_|refine nx (λ_ _ _ _ _=>?_)|refine Cb (h2:=?_)|refine eN ?_|refine gx ?_|fail)
  refine tt (λq4 qW=>?_) λq4 qW=>?_
  .repeat' (first|refine oN (enc:=Wj) (_,_) ?_|refine Ce (h2:=?_)|refine gx ?_|fail)
   exact ⟨ty++ty2,[(_,_)],_,_,_,q4,qW,D,D,U,rfl⟩
  .exact Ex.skip ⟨ty++ty2,[],_,_,_,q4,qW,D,D,U,rfl⟩
 rintro _ ⟨ins,on,w8,w9,kr,q4,qW,i0,i1,ho,rfl⟩;refine Ex.seq ?_;refine Ex.join (λst=>∃(e:List Q9) (w5:c7) (q:Nat),q<=4 * O xs/\O e<=100/\Qc Q9.enc e w5/\st=⟨t38 c (.d (ints ty)) (A8 1 (λn=>[Z n]) ins) w8 w9 kr .any .any .any,[o0,tp xs q,.cells (c.enc.map .d),z9,vO nm kd lf rt on w5 (.own 2 0 []) F []]⟩) ?_ ?_
 .unfold t38 vO vL
  refine tt (λq5 wq=>?_) λq5 wq=>Ex.skip ⟨[],_,q5,wq,U,⟨rfl,rfl⟩,rfl⟩
  refine gr ?_;refine nx λr q6 HU r0 r1=>?_
  refine gr ?_;refine tq (q93 hx ins i0 V (1+r.toNat) V (2+r) _ _ HU V) ?_;have hz:=BS (d:=1+r.toNat) V;rintro _ q7 yf ⟨e,he,rfl|rfl⟩
  all_goals
   repeat' (first|refine Ce (h2:=?_)|refine gx ?_|fail)
   exact ⟨e,_,q7,yf,V,⟨rfl,rfl⟩,rfl⟩
 rintro _ ⟨wh,w5,q5,wq,ZR,h5,rfl⟩;unfold t38 vO vL;refine Ex.seq ?_;refine te trivial ?_ ?_
 .refine gr ?_
  refine tq (q94 hx wq ins i0 V 3 V) ?_;rintro _ q6 HU ⟨it,rfl,hi,hie⟩
  repeat' (first|refine yK (vs:=vL nm kd lf rt on w5 (.d (x3 uB.enc it)) _ []) rfl (GM (it:=it) h5 ⟨rfl,rfl⟩) ?_|refine nx (λ_ _ _ _ _=>?_)|refine Cb (h2:=?_)|refine eN ?_|refine gx ?_|fail)
  exact ⟨_,_,rfl,by assumption,_,rfl,by simp only;omega,ZR,by simp only;omega,λx h=>hie x h,U,U⟩
 refine Ex.skip ?_;refine Ex.seq ?_;refine Ex.join (λst=>∃(it:List uB) (w6:c7) (q:Nat),q<=4 * O xs/\O it<=100/\(∀x∈it,O x.expr<=100)/\Qc uB.enc it w6/\st=⟨t38 c (.d (ints ty)) (A8 1 (λn=>[Z n]) ins) w8 w9 kr .any .any .any,[o0,tp xs q,.cells (c.enc.map .d),z9,vO nm kd lf rt on w5 w6 F []]⟩) ?_ ?_
 .refine tt (λq6 HU=>?_) λq6 HU=>Ex.skip ⟨[],_,q6,HU,U,U,⟨rfl,rfl⟩,rfl⟩
  refine gr ?_;refine tq (q94 hx HU ins i0 V 2 V) ?_;rintro _ q7 yf ⟨it,rfl,hi,hie⟩;refine gr ?_;exact ⟨it,_,q7,yf,V,hie,⟨rfl,rfl⟩,rfl⟩
 rintro _ ⟨it,w6,q6,HU,hi,hie,h6,rfl⟩;unfold t38;refine gr ?_;refine nx λr q7 yf r0 r1=>?_
 refine gr ?_;refine Ex.L4 (λk T' H' =>∃(m:Int) (q:Nat) (ag:List uc),q<=4 * O xs/\m=k/\O ag+k<=3/\(∀x∈ag,O x.expr<=100)/\T' =SH ins m .any .any/\H' =[o0,tp xs q,.cells (c.enc.map .d),z9,vO nm kd lf rt on w5 w6 F ag]) ?_ (k:=(1+r).toNat) ⟨1+r,q7,[],yf,V,D,U,rfl,rfl⟩;rintro k _ _ ⟨m,q8,ag,KJ,hm,hl,hae,rfl,rfl⟩;unfold SH vO vL;refine Ex.seq ?_;refine tl 0 m (λh=>?_) (λh=>?_)
 .obtain ⟨c1,pn⟩:=Sk [121] (by decide) (n:=O ag) V V
  obtain ⟨nn,Bg⟩:∃n,[121]++[c1]=n:=⟨_,rfl⟩;rw [Bg] at pn;refine gc pn ?_;refine nx λf q9 RW _ _=>?_
  repeat' (first|refine mJ (cs:=[.d (.str nn),.d (Z f),.own 5 0 []]) ?_|refine gx ?_|fail)
  refine Ex.join (λst=>∃(f:Int) (q:Nat),q<=4 * O xs/\st=⟨SH ins m (.ptr 5 0) .any,[o0,tp xs q,.cells (c.enc.map .d),z9,vO nm kd lf rt on w5 w6 F ag,.cells [.d (.str nn),.d (Z f),.own 5 0 []]]⟩) ?_ ?_
  .refine tt (λq9 RW=>?_) λq9 RW=>Ex.skip ⟨_,q9,RW,rfl⟩
   refine gr ?_;exact ⟨0,q9,RW,rfl⟩
  rintro _ ⟨f,q9,RW,rfl⟩;unfold SH vO vL;refine Ex.seq ?_;refine Ex.join (λst=>∃(e:List Q9) (w2 uA:c7) (q:Nat),q<=4 * O xs/\O e<=100/\Qc Q9.enc e w2/\st=⟨SH ins m (.ptr 5 0) uA,[o0,tp xs q,.cells (c.enc.map .d),z9,vO nm kd lf rt on w5 w6 F ag,.cells [.d (.str nn),.d (Z f),w2]]⟩) ?_ ?_
  .refine te trivial ?_ (Ex.skip ⟨[],_,_,q9,RW,U,⟨rfl,rfl⟩,rfl⟩)
   refine gr ?_;refine nx λt q10 WT t0 t1=>?_
   refine gr ?_;refine Ex.join (λst=>∃t:Int,st=⟨SH ins m (.ptr 5 0) (.d (Z t)),[o0,tp xs q10,.cells (c.enc.map .d),z9,vO nm kd lf rt on w5 w6 F ag,.cells [.d (.str nn),.d (Z f),.own 5 0 []]]⟩) ?_ ?_
   .refine te trivial ?_ (Ex.skip ⟨_,rfl⟩)
    refine gr ?_;exact ⟨1,rfl⟩
   rintro _ ⟨t,rfl⟩;unfold SH vO vL;refine gr ?_;refine nx λr q11 aq4 r0 r1=>?_
   refine gr ?_;refine tq (q93 hx ins i0 V r.toNat V (1+r) _ _ aq4 V) ?_;have hz:=BS (d:=r.toNat) V;rintro _ q12 aq5 ⟨e,he,rfl|rfl⟩
   all_goals
    repeat' (first|refine Ce (h2:=?_)|refine gx ?_|fail)
    exact ⟨e,_,_,q12,aq5,V,⟨rfl,rfl⟩,rfl⟩
  rintro _ ⟨e,w2,uA,q10,WT,he,h2,rfl⟩;unfold SH vO vL;have hv:[c7.d (.str nn),.d (Z f),w2].map c7.I7=(uc.enc ⟨nn,f,e⟩).map .d:=by
   simp only [G7,List.map_nil,h2.1];rfl
  repeat' (first|refine yK (vs:=[.d (.str nn),.d (Z f),w2]) rfl hv ?_|refine oN (enc:=uc.enc) ⟨nn,f,e⟩ ?_|refine Zy (enc:=uc.enc) (xs:=ag) ⟨nn,f,e⟩ (UK V (by decide)) (h2:=?_)|refine Ce (h2:=?_)|refine gx ?_|fail)
  refine kk ⟨_,_,A6 (j5 rfl) ?_,m - 1,q10,ag++[⟨nn,f,e⟩],WT,V,D,?_,rfl,rfl⟩
  .show C9 [.cells (c.enc.map .d),z9,vO nm kd lf rt on w5 w6 F _]<=5
   simp [C9,vO,vL,z9,x6.H7,A2,c7.H7,h5.2,h6.2,AG,A8]
  .intro x hx
   rcases G4.1 hx with hx|hx
   .exact hae x hx
   .rw [List.mem_singleton] at hx
    rw [hx];exact he
 .repeat' (first|refine yK (vs:=vL nm kd lf rt on w5 w6 F ag) rfl (GM h5 h6) ?_|refine gx ?_|fail)
  exact ⟨_,q8,rfl,KJ,⟨nm,kd,lf,rt,on,wh,it,F,ag⟩,rfl,by simp only;omega,ZR,hi,hie,by simp only;omega,hae⟩
end
structure VU (t:cI):Prop where
 n:O t.o4<=100
 o:∀x,x∈t.o4->O x.C6<=200
structure iK (c:p7)(a b n:Nat):Prop where
 tl:O c.j7<=a
 vl:O c.views<=b
 ts:∀x,x∈c.j7->VU x
 vs:∀x,x∈c.views->VV x
 il:O c.idxs<=n
 sl:O c.F4<=n
 cl:O c.H8<=n
 rl:O c.J5<=n
 ml:O c.J9<=n
 bl:O c.K6<=n
 bk:∀x,x∈c.K6->O x.tables<=100
theorem iK.small {c:p7}{a b n:Nat}(h:iK c a b n)(ha:a<=100)(hb:b<=100)(hn:n<=100):D9 c:=by
 obtain ⟨h1,h2,h3,h4,h5,h6,h7,h8,h9,OJ,Wo⟩:=h;refine ⟨⟨⟨V,V,V,V,V,V,V,V⟩,?_,?_⟩,?_,?_,?_,?_,?_,?_,?_⟩
 .intro k hk;have:=(h3 _ (E7 hk)).n;omega
 .intro k i hk hi;have:=(h3 _ (E7 hk)).o _ (E7 hi);omega
 .intro k hk;have:=(h4 _ (E7 hk)).items;omega
 .intro k hk;have:=(h4 _ (E7 hk)).E3;omega
 .intro k hk;have:=(h4 _ (E7 hk)).on;omega
 .intro k hk;have:=(h4 _ (E7 hk)).wh;omega
 .intro k i hk hi;have:=(h4 _ (E7 hk)).DB _ (E7 hi);omega
 .intro k i hk hi;have:=(h4 _ (E7 hk)).La _ (E7 hi);omega
 .intro k hk;have:=Wo _ (E7 hk);omega
theorem qu {α:Type}{P:α->Prop}{l:List α}{a:α}(h:∀x,x∈l->P x)(ha:P a):∀x,x∈l++[a]->P x:=λx hx=>by
 rcases G4.1 hx with hx|hx
 .exact h x hx
 .rw [List.mem_singleton.1 hx]
  exact ha
theorem YC (c:p7)(hf:c.dP):Pf A 39 [cat c] (.d (x3 encS (p7.sn c))):=by
 obtain ⟨f0,f1,_⟩:=hf;refine Pf.gr 5 ?_;refine Ex.Y1 (λk T H=>∃(i:Nat) (acc:List I4) (v0 v2 w5:c7),T=[v0,.ptr 0 0,v2,A8 1 encS acc,.d (Z i),w5]/\H=[.cells (c.enc.map .d)]/\i+k=O c.j7/\acc=(c.j7.take i).map cI.name) ?_ (k:=O c.j7) ⟨0,[],_,_,_,rfl,rfl,U,U⟩;rintro k _ _ ⟨i,acc,v0,v2,w5,rfl,rfl,hk,hacc⟩;have hl:O acc=i:=by rw [hacc];simp;omega
 refine Ex.nT ?_
 repeat' (first|refine gy ?_|refine ft (λht=>?_) λht=>?_|refine ⟨_,rfl,?_⟩|fail)
 .have h1:=A5 ht
  refine kk ⟨i+1,acc++[(Y c.j7 i).name],_,_,_,rfl,rfl,V,?_⟩;rw [D2 V,hacc];simp
 have h1:=A9 ht;rw [s9 V] at hacc;clear ht h1 hk hl;subst hacc;refine Ex.Y1 (λk T H=>∃(i:Nat) (acc:List I4) (v0 v2 w4:c7),T=[v0,.ptr 0 0,v2,A8 1 encS acc,w4,.d (Z i)]/\H=[.cells (c.enc.map .d)]/\i+k=O c.views/\acc=c.j7.map cI.name++(c.views.take i).map Vw.name) ?_ (k:=O c.views) ⟨0,c.j7.map cI.name,_,_,_,rfl,rfl,U,U⟩;rintro k _ _ ⟨i,acc,v0,v2,w4,rfl,rfl,hk,hacc⟩;have hl:O acc=O c.j7+i:=by rw [hacc];simp;omega
 refine Ex.nT ?_
 repeat' (first|refine gy ?_|refine ft (λht=>?_) λht=>?_|refine ⟨_,rfl,?_⟩|fail)
 .have h1:=A5 ht
  refine kk ⟨i+1,acc++[(Y c.views i).name],_,_,_,rfl,rfl,V,?_⟩;rw [D2 V,hacc];simp
 have h1:=A9 ht;rw [s9 V] at hacc;clear ht h1 hk hl;subst hacc;simp [j4,x3,A8,p7.sn]
def z8:x6:= .cells [.own 4 0 [],.own 9 0 [],.own 3 0 [],.own 6 0 [],.own 4 0 [],.own 3 0 [],.own 2 0 [],.own 3 0 []]
section
variable {xs:List Int} {o0:x6} {q:Nat} (hx:O xs<=35184372088832) (hq:q<=4 * O xs)
include hx hq
set_option maxHeartbeats 4000000 in
theorem q13 {c:p7}(hv:C4 c=W){a b n:Nat}(hs:iK c a b n)(hab:a<=50/\b<=50/\n<=50)(h1:1<=O c.j7)(m:Nat)(hm:m<=20) :
  Tq xs o0 l1 13 [.ptr 1 0,cat c,.d (Z m)] q λv=>∃c',v=cat c' /\C4 c' =W/\iK c' a (b+m) n/\c'.j7=c.j7:=by
 refine Tq.go 4 ?_;refine gr ?_;refine Ex.L4 (λk T' H' =>∃(i:Nat) (q:Nat) (c' :p7),q<=4 * O xs/\i+k=m/\C4 c' =W/\iK c' a (b+i) n/\c'.j7=c.j7/\T' =[.ptr 1 0,.any,.d (Z m),.ptr 2 0,.ptr 3 0,.d (Z i),.any]/\H' =[o0,tp xs q,.cells (c'.enc.map .d),z8]) ?_ (k:=m) ⟨0,q,c,hq,V,hv,hs,rfl,rfl,rfl⟩;rintro k _ _ ⟨i,q1,c',hq1,hk,PU,hs',ht,rfl,rfl⟩;refine Ex.seq ?_;have KM:=hs'.small V V V;have hvl:=hs'.vl;refine tl i m (λh=>?_) (λh=>?_)
 .repeat' (first|refine cl (YC c' KM.sm.dP) ?_|refine eN ?_|refine gx ?_|fail)
  refine tq (q38 hx hq1 c' KM PU (by rw [ht];exact h1)) ?_;rintro _ q2 gR ⟨w,rfl,hw⟩
  repeat' (first|refine oN (enc:=Vw.enc) w ?_|refine Fq (enc:=Vw.enc) (ys:=[w]) (h2:=?_)|refine Ce (h2:=?_)|refine gx ?_|fail)
  obtain ⟨d,hd⟩:∃d:p7,{ c' with views:=c'.views++[w] }=d:=⟨_,rfl⟩;have hds:iK d a (b+(i+1)) n:=by
   subst hd;exact { hs' with vl:=D,vs:=qu hs'.vs hw }
  have hdt:d.j7=c.j7:=by subst hd;exact ht
  refine Ex.test (Rn.text ?_)
  repeat' (first|refine yK (vs:=(c'.enc.map .d).set 1 (A8 9 Vw.enc (c'.views++[w]))) (ws:=d.enc.map .d) rfl (hd ▸ rfl) ?_|refine cl (yR d (hds.small V V V)) ?_|refine gx ?_|fail)
  refine ⟨_,rfl,λh5=>?_,λh5=>?_⟩
  .repeat' (first|refine yK (vs:=(c'.enc.map .d).set 1 (A8 9 Vw.enc (c'.views++[w]))) (ws:=d.enc.map .d) rfl (hd ▸ rfl) ?_|refine gx ?_|fail)
   exact kk ⟨_,_,A6 (j5 rfl) (j5 rfl),i+1,q2,d,gR,V,h5,hds,hdt,rfl,rfl⟩
  .refine gr ?_
   exact kk ⟨_,_,A6 (j5 rfl) (j5 rfl),i+1,q2,c',gR,V,PU,{ hs' with vl:=by omega },ht,rfl,rfl⟩
 .refine gr ?_
  exact ⟨_,q1,rfl,hq1,c',rfl,PU,{ hs' with vl:=by omega },ht⟩
end
end Go.Proofs.YtibjocmpkoepoaaGreat
namespace Go.z6
theorem Ex.blk {A:Prog}{l:G9}{b id:Nat}{c:L2}{st:St}{R:H9->St->Prop}{go:St->Prop}(P:St->Prop)(h1:Ex A l b c st λx s=>(x= .normal\/x= .exit id)/\P s)(h2:∀s,P s->go s):Ex A l b c st (nh id (kJ R go)):=by
 refine h1.mono λx s h=>?_
 obtain ⟨rfl|rfl,h⟩:=h
 .exact h2 s h
 .simp [nh]
  exact h2 s h
def gd (p:Q1×c7):List c7:=[.d (.str p.1.name),.d (Z p.1.type),.d (.str p.1.space),.d (.str p.1.refs),p.2,.d (Z p.1.cr),.d (Z p.1.gL)]
def cO (l:List (Q1×c7)):x6:= .cells (l.flatMap gd)
theorem Hh:∀{l:List (Q1×c7)} {i k:Nat},i<O l->k<7->(l.flatMap gd)[0+i * 7+k]? =(gd (Y l i))[k]? /\∀w p,(gd (Y l i)).set k w=gd p->(l.flatMap gd).set (0+i * 7+k) w=(l.set i p).flatMap gd
 |a::l,0,k,_,hk=>by
  grind [gd,O1,y7,List.set_append_left]
 |a::l,i+1,k,hi,hk=>by
  have hl:O (gd a)=7:=rfl;have ih:=Hh (l:=l) (i:=i) (k:=k) M hk
  grind [bp,x7,Nat.add_sub_cancel_left,List.set_append_right]
 |[],_,_,h,_=>by simp at h
theorem Lh (l:List (Q1×c7)):O (l.flatMap gd)=O l * 7:=by
 induction l with
 |nil=>rfl
 |cons a l ih=>grind [j9,n9,gd]
theorem Hi {H:k8}{id i k:Nat}{l:List (Q1×c7)}{v:c7}(hi:i<O l)(hO:H[id]? =J (cO l))(hk:k<7)(h:(gd (Y l i))[k]? =J v):rd H id (0+i * 7+k) 1=J [v]:=by
 have h1:=(Hh hi hk).1.trans h;obtain ⟨h3,h4⟩:=List.getElem?_eq_some_iff.1 h1;simp only [rd,hO,cO];rw [if_pos V,List.drop_eq_getElem_cons h3,h4];rfl
theorem zf {H:k8}{id i k:Nat}{l:List (Q1×c7)}{w:c7}(p:Q1×c7)(hi:i<O l)(hO:H[id]? =J (cO l))(hk:k<7)(hp:(gd (Y l i)).set k w=gd p):wr H id (0+i * 7+k) [w]=J (H.set id (cO (l.set i p))):=by
 have h2:=Lh l;have h3:0+i * 7+k<O (l.flatMap gd):=V
 have e:splice (l.flatMap gd) (0+i * 7+k) [w]=(l.flatMap gd).set (0+i * 7+k) w:=by
  simp_all [splice,E5,List.set_eq_take_append_cons_drop,if_pos]
 simp only [wr,hO,cO,e,(Hh hi hk).2 w p hp]
 grind
theorem DW {α:Type} [Inhabited α] {l:List α}{i:Nat}{p:α}(h:i<O l):Y (l.set i p) i=p:=by simp_all [A7]
namespace S
section
variable {A:Prog} {l:G9} {b:Nat} {dr:Bool} {j8 ops:List x9} {T:List c7} {H:k8} {n:Nat} {rl:List c7} {l6:List Touch} {Q:List c7->k8->List c7->Prop}
theorem Sg {x:A4}{u:List Nat}{id o:Nat}{v w:c7}(hr:rd H id o 1=J [v])(hv:v.I7=w)(h2:Ry A l b dr j8 ops T H (n+1) (w::rl) l6 Q)(hx:rq T n rl x= .ptr id o:=by rfl):Ry A l b dr j8 (⟨.load K x,K,K,u⟩::ops) T H n rl l6 Q :=
 Ry.pure (rs:=[id]) rfl (by simp_all [l5]) h2
theorem ixS {x y:A4}{u:List Nat}{id lo len sz i:Nat}(h2:Ry A l b dr j8 ops T H (n+1) (.ptr id (lo+i * sz)::rl) l6 Q)(hx:rq T n rl x= .s5 id sz lo len:=by rfl)(hy:rq T n rl y= .d (.int .i64 (i:Int)):=by rfl)(h:i<len:=by omega):Ry A l b dr j8 (⟨.iw sz x y,K,K,u⟩::ops) T H n rl l6 Q :=
 Ry.pure (rs:=[]) rfl (JQ hx hy h) h2
theorem lnS {x:A4}{u:List Nat}{id sz lo len:Nat}(h2:Ry A l b dr j8 ops T H (n+1) (.d (.int .i64 (len:Int))::rl) l6 Q)(hx:rq T n rl x= .s5 id sz lo len:=by rfl):Ry A l b dr j8 (⟨.len x,K,K,u⟩::ops) T H n rl l6 Q :=
 Ry.pure (rs:=[]) rfl (by grind [l5,i64]) h2
theorem lcO {x:A4}{u:List Nat}{id i k:Nat}{c:List (Q1×c7)}{v w:c7}(hx:rq T n rl x= .ptr id (0+i * 7+k):=by rfl)(hO:H[id]? =J (cO c):=by rfl)(hi:i<O c:=by omega)(hk:k<7:=by decide)(h:(gd (Y c i))[k]? =J v:=by rfl)(hv:v.I7=w:=by rfl)
  (h2:Ry A l b dr j8 ops T H (n+1) (w::rl) l6 Q):Ry A l b dr j8 (⟨.load K x,K,K,u⟩::ops) T H n rl l6 Q:=Sg (Hi hi hO hk h) hv h2 hx
theorem Ra {id off j z n0:Nat}{y:A4}{u:List Nat}{cs:List Data}{H1 H2:k8}{r2:List c7}(hw:wr H id off [.own z n0 cs]=J H1)(hy:rq T n rl y= .ptr id off:=by rfl)(hj:lk n rl j=J (.own z n0 cs):=by rfl)(hjb:Nat.ble (j+1) n=W:=by rfl)(hl:l.may id=W:=by rfl)
  (hH:H1=H2:=by simp only [o8,o7]<;>rfl) (hS:rl.set (n - (j+1)) (.d (.slice n0 cs))=r2:=by simp only [K5,Nat.reduceSub,o8,o7]<;>rfl)
  (h2:Ry A l b F j8 ops T H2 (n+1) (.any::r2) (.obj id::l6) Q):Ry A l b F j8 (⟨.store 1 y (.loc j),K,K,u⟩::ops) T H n rl l6 Q:=λhn=>by
 subst hH hS;have hjl:rl.reverse[j]? =J (.own z n0 cs):=by simp_all [aT]
 have hL:∀r:List c7,(rl.reverse++ .any::r)[j]? =J (.own z n0 cs):=λr=>iB hjl _
 have hjn:j<O rl.reverse:=by grind
 have hlen:O (rl.reverse.set j (.d (.slice n0 cs)))=O rl.reverse:=U
 have h4:∀r:List c7,(rl.reverse.set j (.d (.slice n0 cs))++ .any::r).set (O rl.reverse) .any=rl.reverse.set j (.d (.slice n0 cs))++ .any::r:=λr=>M
 have OK :=h2.to (by simp [hn]);rw [<- uR hn hjb] at OK;refine Rx.stepT (N1:=0) (rs:=[]) hlen (λk _=>?_) OK;have hl' :(I9 A k l b).lim.may id=W:=hl;have hx:z6.E9 ⟨T,H,rl.reverse++ .any::c8 (O ops) .any,l6⟩ (.loc j)=(.own z n0 cs,⟨T,H,rl.reverse.set j (.d (.slice n0 cs))++ .any::c8 (O ops) .any,l6⟩):=by
  simp_all [z6.E9]
 have hb0:A2 [c7.own z n0 cs]<=id+1:=s8 _;have hc1:(c7.own z n0 cs).cells? =J [.own z n0 cs]:=rfl;simp_all [x8,y6,B4,F6.B3,if_true,C7,M5,P0,E5,true_or,and_self,put,s6,D5]
theorem UP {id off:Nat}{x y:A4}{u:List Nat}{v:c7}{H1 H2:k8}(hw:wr H id off [v]=J H1)(hy:rq T n rl y= .ptr id off:=by rfl)(hx:Oq T n rl x v:=by exact ⟨rfl,rfl⟩)(hc:v.cells? =J [v]:=by rfl)(hl:l.may id=W:=by rfl)(hb:v.H7<=id+1:=by exact s8 _)
  (hH:H1=H2:=by simp only [o8,o7]<;>rfl) (h2:Ry A l b F j8 ops T H2 (n+1) (.any::rl) (.obj id::l6) Q):Ry A l b F j8 (⟨.store 1 y x,K,K,u⟩::ops) T H n rl l6 Q :=
 jv hy hx hc rfl hl (by simp_all [A2]) (hH ▸ hw) h2
theorem ctT {f:FuncId}{xs:List A4}{u:List Nat}{v:c7}{args T2:List c7}{m s:Nat}{H0 HD H1 H2:k8}{l2:G9}(hc:Pm A f args H0 l2 v H1)(FT:O H1=m)(fe:C9 ((H.take m).drop l.strict)<=m)(hcl:D7 H l.strict 8 (A2 args)=m)
  (FR:H.take m=H0) (hle:m<=O H) (iZ:(⟨l.Fe,l.Fc,m,B1 H l.strict m⟩:G9)=l2) (ha:xs.map (rq T n rl)=args) (eM:A.prom f=F) (hm:A.mode f=0) (hD:H.drop m=HD) (hA:H1++HD=H2) (hv:v.I7=v) (hs:s<O T) (hT:T.set s v=T2)
  (h2:Ry A l b F j8 ops T2 H2 (n+1) (v::rl) (.slot s:: .below m::l6) Q):Ry A l b F j8 (⟨.call f xs,J s,K,u⟩::ops) T H n rl l6 Q:=λhn=>by
 obtain ⟨d8,hc⟩:=hc;subst FR hD hA hT;refine Rx.stepT (N1:=d8) (rs:=[]) rfl (λk hk=>?_) (h2.to hn);have h3:B9 (I9 A k l b) (O rl.reverse) f args ⟨T,H,rl.reverse++ .any::c8 (O ops) .any,l6⟩=J (put ⟨T,H1++H.drop m,rl.reverse++ .any::c8 (O ops) .any,.below m::l6⟩ (O rl.reverse) v) :=
  iQ eM hm hcl hle fe iZ (hc k hk) FT
 have h5:∀r,z6.E9 ⟨T,H1++H.drop m,rl.reverse++v::r,.below m::l6⟩ (.loc (O rl.reverse))=(v,⟨T,H1++H.drop m,rl.reverse++v::r,.below m::l6⟩):=λr=>by
  grind [z6.E9,c7.I7,z6.F7]
 simp_all [x8,y6,B4,F6.B3,if_true,C7,aJ,s6,D5,put,J4]
theorem tS {c:A4}{d e:L2}{Q:H9->St->Prop}(x y:Int)(h2:x<y->Ex A l b d ⟨T,H⟩ Q)(h3:y<=x->Ex A l b e ⟨T,H⟩ Q)
  (h:Rn A l b ops F T H λT' H' L=>T' =T/\H' =H/\∃t',F7 T' L c= .d (.bool t')/\t' =D0 x y:=by refine Rn.text ?_;(repeat' (first|refine lnS ?_|refine gx ?_|refine ⟨rfl,rfl,_,rfl,?_⟩|fail));rfl) :
  Ex A l b (.test ops F c d e) ⟨T,H⟩ Q:=Ex.dn (D0 x y) h (λh=>h2 (A5 h)) λh=>h3 (A9 h)
end
end S
end Go.z6
namespace Go.Proofs.YtibjocmpkoepoaaGreat
open Go.z6 Go.z6.S
attribute [local irreducible] Rx Ry Rn Ex Pf Rl
def Fb (n:Int):List z6.Data:=[Z n]
theorem ZX (l:List Int)(hl:O l<=1000)(m:Int):∃v,(∃k:List Int,O k<=O l+1/\(v=A8 1 Fb k\/v= .d (x3 Fb k)))/\Pf A 97 [.d (x3 Fb l),.d (Z m)] v:=by
 refine Pe.go 2 ?_;refine gr ?_;refine Ex.J1 (λk T H=>∃i:Nat,i+k=O l/\T=[.d (x3 Fb l),.d (Z m),.any,.d (Z i)]/\H=[]) ?_ (k:=O l) ⟨0,V,rfl,rfl⟩;rintro k _ _ ⟨i,hk,rfl,rfl⟩;refine Ex.seq ?_;refine tc (D0 i (O l)&&D0 (Y l i) m) trivial (λh=>?_) (λh=>?_)
 .have h:=A5 (c9 _ _ ▸ h).1
  refine gr ?_;exact kk ⟨i+1,V,rfl,rfl⟩
 .refine gr ?_
  refine te trivial ?_ ?_
  .refine gr ?_
   exact ⟨_,rfl,l,V,.inr rfl⟩
  .refine gr ?_
   exact ⟨_,rfl,l.take i++[m]++l.drop i,D,.inl rfl⟩
def h6 (o0:x6)(xs:List Int)(q:Nat)(X3 X4:x6)(l:List (Q1×c7)):k8:=[o0,tp xs q,z8,X3,X4,cO l]
def tA (nm:I4)(n:Nat)(er rt:Int):List c7:=[.d (.str nm),.s5 5 7 0 n,.d (Z er),.d (Z rt)]
set_option maxHeartbeats 1000000 in
theorem VG {o0:x6}{xs:List Int}{q:Nat}{X3 X4:x6}(l:List (Q1×c7))(hl:O l<=100)(nm:I4)(er rt:Int):∃k:List Int,O k<=O l/\Pm A 96 [.agg (tA nm (O l) er rt)] (h6 o0 xs q X3 X4 l) ⟨0,6,6,2⟩ (.d (x3 Fb k)) (h6 o0 xs q X3 X4 l):=by
 have key:Pq A 96 [.agg (tA nm (O l) er rt)] (h6 o0 xs q X3 X4 l) ⟨0,6,6,2⟩ λv H=>∃k:List Int,O k<=O l/\v= .d (x3 Fb k)/\H=h6 o0 xs q X3 X4 l:=by
  unfold h6 tA;refine Pq.go (b:=6) 4 ?_;refine gr ?_;refine Ex.J1 (λk T H=>∃(i:Nat) (a:List Int),i+k=O l/\O a<=i/\T=[.any,.ptr 6 0,.any,A8 1 Fb a,.d (Z i)]/\H=h6 o0 xs q X3 X4 l++[.cells (tA nm (O l) er rt)]) ?_ (k:=O l) ⟨0,[],V,U,rfl,rfl⟩;rintro k _ _ ⟨i,a,hk,ha,rfl,rfl⟩;refine Ex.seq ?_;refine tS i (O l) (λh=>?_) (λh=>?_)
  .refine gr ?_
   refine Ex.EL (Rn.text ?_) ?_ ?_
   .repeat' (first|refine ixS ?_|refine lcO (h2:=?_)|refine gx ?_|refine fq (λhw=>?_) λhw=>?_|refine ⟨rfl,rfl,_,rfl,?_⟩|refine ⟨rfl,rfl⟩|fail)
    all_goals exact ⟨rfl,rfl,_,rfl⟩
   .refine gr ?_
    exact kk ⟨i+1,a++[(i:Int)],V,D,rfl,rfl⟩
   .refine gr ?_
    exact kk ⟨i+1,a,V,V,rfl,rfl⟩
  .refine gr ?_
   exact ⟨_,_,rfl,a,V,rfl,rfl⟩
 obtain ⟨_,_,⟨k,hk,rfl,rfl⟩,p⟩:=key
 grind
end Go.Proofs.YtibjocmpkoepoaaGreat
namespace Go.z6
section
variable {A:Prog} {l:G9} {b:Nat} {j8 ops:List x9} {T:List c7} {H:k8} {n:Nat} {rl:List c7} {l6:List Touch} {na:Nat} {lg:List dA} {Q:List c7->k8->List c7->Prop}
theorem Rl.Zm {i:x9}{T' Zf :List c7}{H' :k8}{v:c7}{X1 :List Touch}{rs:List Nat}{e:dA}(hu:j8.any (λa=>a.Z2.contains n)=F)(hlen:O Zf=O rl)
  (h:O rl=n->∀k,x8 (I9 A k l b) j8 (if i.op.y3 then J na else K) n i ⟨T,H,rl.reverse++ .any::c8 (O ops) .any,l6⟩=J (⟨T',H',Zf.reverse++v::c8 (O ops) .any,X1⟩,rs))
  (he:O rl=n->∀k,T6 (I9 A k l b) i (if i.op.y3 then J na else K) ⟨T,H,rl.reverse++ .any::c8 (O ops) .any,l6⟩ ⟨T',H',Zf.reverse++v::c8 (O ops) .any,X1⟩ rs=e)
  (h2:Rl A l b j8 ops T' H' (n+1) (v::Zf) X1 (if i.op.y3 then na+1 else na) (e::lg) Q):Rl A l b j8 (i::ops) T H n rl l6 na lg Q:=λhn=>by
 obtain ⟨r,N,hq,h2⟩:=h2 (by simp [hn,hlen]);refine ⟨r,N,hq,λk hkk=>?_⟩;obtain ⟨Qf,e1,e2⟩:=h2 k hkk;have h4:=h hn k;have Wi :M8 (I9 A k l b) j8 ops (n+1) (if i.op.y3 then na+1 else na) ⟨T',H',Zf.reverse++v::c8 (O ops) .any,X1⟩=J (r,Qf):=by simpa using e1
 have hf:∀st,j8.any (λa=>a.Z2.contains n&& !calm st i.op a)=F:=λst=>by
  rw [List.any_eq_false] at hu ⊢;intro a ha;have:=hu a ha;simp only [Bool.not_eq_true] at this;rw [this];simp
 refine ⟨e::Qf,?_,by simpa using e2⟩;simp only [M8,n9,M0,fD,hf,Bool.and_false,j6,if_false,h4,Wi,he hn k]
namespace S
theorem lAk {x y:A4}{u:List Nat}{sz bytes id len m k2 yN :Nat}{old cs T2 rl2:List c7}{H2:k8}(hx:rq T n rl x= .s5 id sz 0 len:=by rfl)(ho:H[id]? =J (.cells old):=by rfl)(hr:roomFor (len+m) bytes=W)(hc:B5 H sz (rq T n rl y)=J (m,cs))(Vs:len * sz=O old)(hone:cs.all c7.one=W)(hbc:A2 cs=0)
  (hid:Nat.ble l.base id=W:=by rfl) (Mg:Nat.ble b id=W:=by rfl) (hl:l.may id=W:=by rfl) (hsz:Nat.ble 1 sz=W:=by rfl) (hu:j8.any (λa=>a.Z2.contains n)=F:=by rfl)
  (hT:L3 id T=T2:=by rfl) (hL:L3 id rl=rl2:=by rfl) (hH:(H.take l.base++(H.drop l.base).map (x6.kill id)).set id (.cells (L3 id old++cs))=H2:=by rfl)
  (hk2:len+m=k2:=by rfl) (hna:na+1=yN :=by rfl) (h2:Rl A l b j8 ops T2 H2 (n+1) (.s5 id sz 0 k2::rl2) (.obj id::l6) yN (⟨[],[.obj na,.obj id],0,na⟩::lg) Q):Rl A l b j8 (⟨.append sz bytes W x y,K,K,u⟩::ops) T H n rl l6 na lg Q:=by
 subst hT hH hL hk2 hna;have hid:=j5 hid;have Mg:=j5 Mg;have hsz:0<sz:=j5 hsz;refine Rl.Zm (rs:=[]) hu (by simp [O6]) (λhn k=>?_) (λhn k=>?_) h2
 .have hl' :(I9 A k l b).lim.may id=W:=hl
  have he:(I9 A k l b).lim.base<=id/\(I9 A k l b).entry<=id/\(I9 A k l b).lim.may id=W:=⟨hid,Mg,hl'⟩;have hk:A2 cs<=id:=V
  have hn2:O (L3 id rl)=n:=by rw [O6];exact hn
  have h5:S7 (I9 A k l b) n sz bytes ⟨T,H,rl.reverse++ .any::c8 (O ops) .any,l6⟩ id 0 len (rq T n rl y)=J (put ⟨L3 id T,(H.take l.base++(H.drop l.base).map (x6.kill id)).set id (.cells (L3 id old++cs)),(L3 id rl).reverse++ .any::c8 (O ops) .any,.obj id::l6⟩ n (.s5 id sz 0 (len+m))):=by
   simp only [S7,he,and_self,if_true,ho,hc,Vs,hr,hk,hone,hsz,JC];rfl
  simp only [F6.y3,if_true,x8,y6,B4,F6.B3,C7,M5 hn,hx,h5,s6,R4,put,jq hn2]
 .have:O l6+1 - O l6=1:=V
  simp [T6,Y3,F6.y3,G8,this]
theorem lAz {sz bytes j j2 id off m yN :Nat}{y:A4}{u:List Nat}{a:x9}{cs l0:List c7}{H2:k8}(hc:B5 H sz (rq T n rl y)=J (m,cs))(W5:roomFor m bytes=W/\0<sz)(hm:m≠0)(hL:lk n rl j=J (.d (.slice 0 [])):=by rfl)(ha:j8[j]? =J a:=by rfl)(hz:a.op= .load K (.loc j2):=by rfl)(hp:lk n rl j2=J (.ptr id off):=by rfl)(ht:l6.any (Touch.W2 id off)=F:=by rfl)(hmay:l.may id=W:=by rfl)
  (hO:H[id]? =J (.cells l0):=by rfl) (h0:l0[off]? =J .O5:=by rfl) (hH:H.set na (.cells cs)=H2:=by simp only [o8,o7]<;>rfl) (hna:na+1=yN :=by rfl)
  (h2:Rl A l b j8 ops T H2 (n+1) (.s5 na sz 0 m::rl) l6 yN (⟨[],[.obj na],0,na⟩::lg) Q):Rl A l b j8 (⟨.append sz bytes W (.loc j) y,K,K,u⟩::ops) T H n rl l6 na lg Q:=by
 subst hH hna;have OQ:∀{i v},O rl=n->lk n rl i=J v->(rl.reverse++ .any::c8 (O ops) .any)[i]? =J v:=λhn h=>iB (by rw [aT hn];exact h) _
 have hx:O rl=n->z6.F7 T (rl.reverse++ .any::c8 (O ops) .any) (.loc j)= .d (.slice 0 []):=λhn=>by
  simp only [z6.F7,List.getD_eq_getElem?_getD,OQ hn hL];rfl
 have hnil:O rl=n->∀k,isNil (I9 A k l b).lim j8 ⟨T,H,rl.reverse++ .any::c8 (O ops) .any,l6⟩ (.loc j)=W:=λhn k=>by
  have Dk :(I9 A k l b).lim.may id=W:=hmay;simp only [isNil,OQ hn hL,ha,hz,fm,Z9,OQ hn hp,ht,Dk,hO,h0];rfl
 have hk:∀L,O rl=n->L=rl.reverse++ .any::c8 (O ops) .any->F9 ⟨T,H,L,l6⟩ (.append sz bytes W (.loc j) y)=F:=λL hn e=>by
  subst e;simp only [F9,hx hn]
 intro hn;obtain ⟨r,N,hq,h2⟩:=h2 (by simp [hn]);refine ⟨r,N,hq,λk hkk=>?_⟩;obtain ⟨Qf,e1,e2⟩:=h2 k hkk;have Wi :M8 (I9 A k l b) j8 ops (n+1) (na+1) ⟨T,H.set na (.cells cs),rl.reverse++ .s5 na sz 0 m::c8 (O ops) .any,l6⟩=J (r,Qf):=by simpa using e1
 have h4:x8 (I9 A k l b) j8 (J na) n ⟨.append sz bytes W (.loc j) y,K,K,u⟩ ⟨T,H,rl.reverse++ .any::c8 (O ops) .any,l6⟩=J (⟨T,H.set na (.cells cs),rl.reverse++ .s5 na sz 0 m::c8 (O ops) .any,l6⟩,[]):=by
  simp only [x8,y6,B4,F6.B3,if_true,C7,hx hn,M5 hn,J7,hc,hnil hn k,W5,and_self,hm,if_false,D4,newId,Option.getD_some,put,jq hn,s6,R4]
 refine ⟨⟨[],[.obj na],0,na⟩::Qf,?_,by simpa using e2⟩;simp only [M8,n9,M0,fD,hk _ hn rfl,Bool.false_and,j6,if_false,F6.y3,if_true,h4,Wi];simp [T6,Y3,G8]
theorem lC2 {f:FuncId}{xs:List A4}{u:List Nat}{v:c7}{args:List c7}{m nn:Nat}{H0 H1 H2:k8}{l2:G9}(hc:Pm A f args H0 l2 v H1)(FT:O H1=nn)(fe:C9 ((H.take nn).drop l.strict)<=nn)(hcl:D7 H l.strict 8 (A2 args)=nn)(hmn:m<=nn)(hm' :(args.headD .any).H7=m)
  (FR:H.take nn=H0) (hle:nn<=O H) (iZ:l.gq m nn nn (B1 H l.strict nn)=l2) (hD:H1.take m++H.drop m=H2:=by simp only [List.take_succ_cons,List.take_zero,List.drop_succ_cons,List.drop_zero,x4,y5]<;>rfl)
  (h2:Rl A l b j8 ops T H2 (n+1) (v::rl) (.below m::l6) na (⟨[],[.below m],nn,0⟩::lg) Q) (ha:xs.map (rq T n rl)=args:=by rfl) (eM:A.prom f=F:=by rfl) (hm:A.mode f=2:=by rfl):Rl A l b j8 (⟨.call f xs,K,K,u⟩::ops) T H n rl l6 na lg Q:=by
 obtain ⟨d8,hc⟩:=hc;subst FR hD iZ hm';have Jw :∀k,(I9 A k l b).prom f=F:=λ_=>eM
 have hmo:∀k,(I9 A k l b).mode f=2:=λ_=>hm
 have PF :∀k,D7 H (I9 A k l b).lim.strict 8 (A2 args)=nn:=λ_=>hcl
 refine Rl.step (N1:=d8) (rs:=[]) (λ_=>rfl) (λhn k hk=>?_) (λhn k=>?_) h2
 .have Df:(I9 A k l b).cf f args (H.take nn) ((I9 A k l b).lim.gq (args.headD .any).H7 nn nn (B1 H (I9 A k l b).lim.strict nn))=J (v,H1):=hc k hk
  have an9 :C9 ((H.take nn).drop (I9 A k l b).lim.strict)<=nn:=fe;have h3:B9 (I9 A k l b) n f args ⟨T,H,rl.reverse++ .any::c8 (O ops) .any,l6⟩=J (put ⟨T,H1.take (args.headD .any).H7++H.drop (args.headD .any).H7,rl.reverse++ .any::c8 (O ops) .any,.below (args.headD .any).H7::l6⟩ n v):=by
   simp only [B9,Jw,hmo,PF,hle,an9,Df,FT,hmn,and_self,if_true,j6,if_false]
  simp only [F6.y3,j6,if_false,x8,y6,B4,F6.B3,if_true,C7,aJ hn,ha,h3,s6,D5,put,jq hn]
 .simp [T6,Y3,G8,F6.y3,Jw,aJ hn,ha,PF]
end S
end
end Go.z6
namespace Go.Proofs.YtibjocmpkoepoaaGreat
open Go.z6 Go.z6.S
attribute [local irreducible] Rx Ry Rn Ex Pf Rl
def xL (nm:I4)(ty:Int)(ns rf:I4):x6:= .cells [.d (.str nm),.d (Z ty),.d (.str ns),.d (.str rf),.own 1 0 [],.d (Z 0),.d (Z 0)]
def t42 (c:p7)(ts:List c7)(i p:Nat)(w7 w8:c7):List c7:=[.ptr 1 0,cat c,.agg ts,.d (Z i),.ptr p 0,.ptr (p+2) 0,.ptr (p+3) 0,w7,w8]
def z7:x6:= .cells [.d (.str []),.d (Z 0),.d (.str []),.d (.str []),.own 1 0 [],.d (Z 0),.d (Z 0)]
def ZU (c:p7)(ts:List c7)(nm:I4)(ty:Int)(ns rf:I4):k8:=[.cells (c.enc.map .d),.cells ts,z7,xL nm ty ns rf]
theorem aC3 {r:Int}(h0:0<=r)(h1:r<4):∃t:Int,K0 .quo (Z r) (Z 3)=J (.int .i64 t)/\0<=t/\t<=1:=by
 have:r=0\/r=1\/r=2\/r=3:=V
 rcases this with rfl|rfl|rfl|rfl
 .exact ⟨0,rfl,by decide,by decide⟩
 .exact ⟨0,rfl,by decide,by decide⟩
 .exact ⟨0,rfl,by decide,by decide⟩
 .exact ⟨1,rfl,by decide,by decide⟩
section
variable {xs:List Int} {o0:x6} {q:Nat} (hx:O xs<=35184372088832) (hq:q<=4 * O xs)
include hx hq
set_option maxHeartbeats 4000000 in
theorem VE (c:p7)(hc:O c.j7<=1000)(hc1:∀t,t∈c.j7->1<=O t.o4)(i:Nat)(hi:i<=1000)(p:Nat)(HD:k8)(ts:List c7)(hp:(p=2/\HD=[]/\∃a b c d,ts=[.d a,.d b,.d c,.d d])\/(p=6/\∃X2 X3 X4 X5 a m b c,HD=[X2,X3,X4,X5]/\ts=[.d a,.s5 5 7 0 m,.d b,.d c])) :
  ∃(x:Q1) (q' :Nat),x.C6=[]/\q' <=4 * O xs/\Pm A 42 [.ptr 1 0,cat c,.agg ts,.d (Z i)] (o0::tp xs q::HD) ⟨2,p,p,2⟩ (.agg (x.enc.map .d)) (o0::tp xs q' ::HD):=by
 obtain ⟨nm,pn⟩:=Sk [99] (by decide) (n:=i) V V;have key:Pq A 42 [.ptr 1 0,cat c,.agg ts,.d (Z i)] (o0::tp xs q::HD) ⟨2,p,p,2⟩ λv H=>∃(x:Q1) (q' :Nat),x.C6=[]/\q' <=4 * O xs/\v= .agg (x.enc.map .d)/\H=o0::tp xs q' ::HD:=by
  rcases hp with ⟨hp,hD,a1,a2,a3,a4,ht⟩|⟨hp,X2,X3,X4,X5,a1,m,a3,a4,hD,ht⟩
  all_goals
   refine Pq.go (b:=p) 5 ?_ (hb:=by rw [hp,hD];rfl);rw [hp,hD,ht];refine gc pn ?_;refine nx λr q1 hq1 r0 r1=>?_
   repeat' (first|refine mJ (cs:=[.d (.str ([99]++[nm])),.d (Z (1+r)),.d (.str []),.d (.str []),.own 1 0 [],.d (Z 0),.d (Z 0)]) ?_|refine gx ?_|fail)
   refine Ex.join (λst=>∃(ty:Int) (q:Nat),q<=4 * O xs/\1<=ty/\ty<=2/\st=⟨t42 c ts i p .any .any,o0::tp xs q::(HD++ZU c ts ([99]++[nm]) ty [] [])⟩) ?_ ?_
   .refine te trivial ?_ (Ex.skip ⟨1+r,q1,hq1,V,V,by rw [hp,hD,ht];rfl⟩)
    refine gr ?_;refine nx λr2 q2 gR s0 s1=>?_
    obtain ⟨t,e,t0,t1⟩:=aC3 s0 s1
    repeat' (first|refine bq e ?_|refine gx ?_|fail)
    exact ⟨1+t,q2,gR,V,V,by rw [hp,hD,ht];rfl⟩
   rintro _ ⟨ty,q2,gR,ty0,ty1,rfl⟩;unfold t42 ZU;rw [hp,hD,ht];simp only [x4,y5,K5];refine gr ?_;refine nx λr2 q3 kM s0 s1=>?_
   refine gr ?_;refine Ex.On (λst=>∃(ty:Int) (ns rf:I4) (w8:c7) (q:Nat) (X:k8),q<=4 * O xs/\st=⟨t42 c ts i p (.d (Z r2)) w8,o0::tp xs q::(HD++ZU c ts ([99]++[nm]) ty ns rf++X)⟩) ?_ ?_
   .refine te trivial ?_ ?_
    .repeat' (first|refine bk .str [[112,101,114,115,111,110],[109,97,105,108]] ?_|refine Cb (h2:=?_)|refine gx ?_|fail)
     exact ⟨ty,_,[],_,q3,[],kM,by rw [hp,hD,ht];rfl⟩
    refine tc (U4 r2 2&&(D0 0 (O c.j7)&&D0 0 i)) trivial (λh=>?_) (λh=>?_)
    .have h0:0<O c.j7:=by
      have:=A5 (c9 _ _ ▸ (c9 _ _ ▸ h).2).1;omega
     refine Ex.seq ?_;refine Ex.region (rg 1 (h:=?_));refine gm ?_;refine lx λr3 q4 qW t0 t1=>?_
     have h1:=hc1 _ (E7 (show r3.toNat<O c.j7 by omega));obtain ⟨t,hte⟩:∃t,Y c.j7 r3.toNat=t:=⟨_,rfl⟩;rw [hte] at h1;refine gm ?_;rw [hte];refine yp _ (Ng (cs:=t.enc) rfl rfl) ?_;refine gm ?_;refine Ex.region (rg 0 (h:=?_));refine gm ?_;exact ⟨(Y t.o4 0).type,[],t.name,_,q4,[.cells (t.enc.map .d)],qW,by rw [hp,hD,ht];rfl⟩
    .exact Ex.skip ⟨ty,[],[],_,q3,[],kM,by rw [hp,hD,ht];rfl⟩
   rintro _ ⟨ty,ns,rf,w8,q4,X,qW,rfl⟩;unfold t42 ZU;rw [hp,hD,ht];simp only [x4,y5,K5]
   repeat' (first|refine yK (ws:=(Q1.enc ⟨[99]++[nm],ty,ns,rf,[],0,0⟩).map .d) rfl rfl ?_|refine gx ?_|fail)
   exact ⟨_,_,rfl,_,q4,rfl,qW,rfl,rfl⟩
 obtain ⟨_,_,⟨x,q',h1,h2,rfl,rfl⟩,p⟩:=key;exact ⟨x,q',h1,h2,p⟩
end
end Go.Proofs.YtibjocmpkoepoaaGreat
namespace Go.z6
theorem bC (l:List c7):(x6.cells l).H7=A2 l:=rfl
end Go.z6
namespace Go.z6.S
section
variable {A:Prog} {l:G9} {b:Nat} {dr:Bool} {j8 ops:List x9} {T:List c7} {H:k8} {n:Nat} {rl:List c7} {l6:List Touch} {Q:List c7->k8->List c7->Prop}
theorem acO {i j k id len m:Nat}{c:List (Q1×c7)}{x:Q1}{cells new:List Data}{y:A4}{u u' :List Nat}{d' :Option Nat}{g' :Option (Nat×Bool)}{n' :Nat}{cs' :List Data}{H2:k8}(hn:Y c i=(x,.own 1 len cells))(hi:i<O c)(hr:roomFor (len+m) 8=W)(hy:rq T n rl y= .d (.slice m new):=by rfl)(hm:O new=m * 1:=by rfl)
  (hj:lk n rl j=J (.d (.slice n' cs')):=by rfl) (ha:j8[j]? =J ⟨.load K (.loc k),d',g',u'⟩:=by rfl) (hk:lk n rl k=J (.ptr id (0+i * 7+4)):=by rfl) (ht:l6.any (Touch.W2 id (0+i * 7+4))=F:=by rfl) (hl:l.may id=W:=by rfl) (ho:H[id]? =J (cO c):=by rfl)
  (hH:H.set id (cO (c.set i (x,.d (.slice len cells))))=H2:=by simp only [o8,o7]<;>rfl)
  (h2:Ry A l b dr j8 ops T H2 (n+1) (.own 1 (len+m) (cells++new)::rl) (.cell id (0+i * 7+4)::l6) Q):Ry A l b dr j8 (⟨.append 1 8 F (.loc j) y,K,K,u⟩::ops) T H n rl l6 Q:=by
 have h7:=Hh (l:=c) (k:=4) hi (by decide);refine Ry.OX (cells:=cells) hj ha hk ht hl ho ?_ hy hm hr (by decide) ?_
 .rw [h7.1,hn]
  rfl
 .rw [h7.2 _ (x,.d (.slice len cells)) (by rw [hn];rfl)]
  subst hH;exact h2
end
end Go.z6.S
namespace Go.Proofs.YtibjocmpkoepoaaGreat
open Go.z6 Go.z6.S
attribute [local irreducible] Rx Ry Rn Ex Pf Rl
def wf (f8:Nat)(l:List (Q1×c7)):Prop:=∀p,p∈l->Qc Fb p.1.C6 p.2/\O p.1.C6<=f8
theorem wf.set {f8:Nat}{l:List (Q1×c7)}(h:wf f8 l){i:Nat}(hi:i<O l){p:Q1×c7}(hp:Qc Fb p.1.C6 p.2)(hb:O p.1.C6<=f8):wf f8 (l.set i p)/\O (l.set i p)=O l/\Y (l.set i p) i=p :=
 ⟨λx hx=>(List.mem_or_eq_of_mem_set hx).elim (h x) λe=>e ▸ ⟨hp,hb⟩,U,DW hi⟩
theorem wf.mono {f8 C:Nat}{l:List (Q1×c7)}(h:wf f8 l)(hb:f8<=C):wf C l:=λp hp=>⟨(h p hp).1,o5 (h p hp).2 hb⟩
theorem wf.H7 {f8:Nat}:∀{l:List (Q1×c7)},wf f8 l->A2 (l.flatMap gd)=0
 |[],_=>rfl
 |p::l,h=>by
  have h1:=(h p U).1.2;have h2:=wf.H7 (l:=l) λx hx=>h x (by simp [hx])
  simp [gd,A2,c7.H7,h1,h2]
def tO (nm:I4)(n:Nat)(er rt:Int):x6:= .cells (tA nm n er rt)
def z4:x6:= .cells [.d (.str []),.O5,.d (Z 0),.d (Z 0)]
def OO (c:p7)(nm:I4)(n:Nat)(er rt:Int):k8:=[.cells (c.enc.map .d),tO nm n er rt,z4]
def t43 (L:List Int)(i:Int)(w8 w9 kr uy uz uA:c7):List c7:=[.ptr 1 0,.any,.any,.ptr 6 0,.ptr 7 0,.ptr 8 0,.d (x3 Fb L),.d (Z i),w8,w9,kr,uy,uz,uA]
def u43 (i:Int)(uz uA:c7):List c7:=[.any,.any,.any,.ptr 6 0,.ptr 7 0,.ptr 8 0,.any,.any,.any,.any,.any,.d (Z i),uz,uA]
section
variable {xs:List Int} {o0:x6} {q:Nat} (hx:O xs<=35184372088832) (hq:q<=4 * O xs)
include hx hq
set_option maxHeartbeats 8000000 in
theorem XN (c:p7)(hc:O c.j7<=10)(hc1:∀t,t∈c.j7->1<=O t.o4)(X3:x6)(h3:X3.H7=0)(l:List (Q1×c7))(hl:O l<=10)(hw:wf 2 l)(nm:I4)(er rt:Int) :
  ∃(Wl :Int) (l' :List (Q1×c7)) (q' :Nat),O l'=O l/\wf 102 l' /\q' <=4 * O xs/\Pm A 43 [.ptr 1 0,cat c,.agg (tA nm (O l) er rt)] (h6 o0 xs q X3 (tO nm (O l) er rt) l) ⟨0,0,6,2⟩ (.agg (tA nm (O l) Wl rt)) (h6 o0 xs q' X3 (tO nm (O l) er rt) l'):=by
 have key:Pq A 43 [.ptr 1 0,cat c,.agg (tA nm (O l) er rt)] (h6 o0 xs q X3 (tO nm (O l) er rt) l) ⟨0,0,6,2⟩ λv H=>∃(Wl :Int) (l' :List (Q1×c7)) (q' :Nat),O l'=O l/\wf 102 l' /\q' <=4 * O xs/\v= .agg (tA nm (O l) Wl rt)/\H=h6 o0 xs q' X3 (tO nm (O l) er rt) l' :=by
  obtain ⟨L,hL,VG⟩:=VG (o0:=o0) (xs:=xs) (q:=q) (X3:=X3) (X4:=tO nm (O l) er rt) l V nm er rt;obtain ⟨Vj,he0⟩:∃e,er=e:=⟨_,rfl⟩;rw [he0] at VG ⊢;unfold h6 at VG ⊢;unfold tO tA at VG ⊢;refine Pq.go (b:=6) 11 ?_;refine gr ?_;have hb:C9 [z8,X3,x6.cells [.d (.str nm),.s5 5 7 0 (O l),.d (Z er),.d (Z rt)],cO l]<=6:=by simp [C9,bC,A2,c7.H7,z8,cO,hw.H7,h3]
  refine c1 VG rfl ?_ (fe:=hb) (hcl:=I8 hb) (iZ:=by simp [B1,U6,bC,A2,c7.H7,z8,h3]);refine gr ?_;refine Ex.J1 (λk T' H' =>∃(i q:Nat) (er:Int) (m:List (Q1×c7)),q<=4 * O xs/\i+k=O l/\O m=O l/\wf 2 m/\T' =t43 L i .any .any .any .any .any .any/\H' =h6 o0 xs q X3 (tO nm (O l) Vj rt) m++OO c nm (O l) er rt) ?_ (k:=O l) ⟨0,q,Vj,l,hq,V,rfl,hw,rfl,rfl⟩;rintro k _ _ ⟨i,q1,er,m,hq1,hk,hm,hw,rfl,rfl⟩;unfold t43 h6 OO tO tA;simp only [x4,y5];refine Ex.seq ?_;refine Ex.dn (D0 i (O l)&&D0 0 (O L)) (Rn.text ?_) (λh=>?_) (λh=>?_)
  .repeat' (first|refine lnS ?_|refine gx ?_|refine fq (λhw=>?_) λhw=>?_|refine ⟨rfl,rfl,_,rfl,?_⟩|refine ⟨rfl,rfl⟩|fail)
   all_goals exact cc
  .have hi:=A5 (c9 _ _ ▸ h).1
   have hL0:=A5 (c9 _ _ ▸ h).2;have hi' :i<O m:=V
   refine Ex.skip ?_;refine Ex.seq ?_;refine Ex.block ?_;refine Ex.blk (λst=>∃(q:Nat) (er:Int) (m:List (Q1×c7)) (w8 w9 kr:c7),q<=4 * O xs/\O m=O l/\wf 2 m/\st=⟨t43 L i w8 w9 kr .any .any .any,h6 o0 xs q X3 (tO nm (O l) Vj rt) m++OO c nm (O l) er rt⟩) ?_ ?_
   .repeat' (first|refine ixS ?_|refine gx ?_|fail)
    refine nx λr q2 gR _ _=>?_
    refine gr ?_;refine tt (λq3 kM=>?_) λq3 kM=>?_
    .exact Ex.exit ⟨.inr rfl,q3,er,m,_,_,_,kM,hm,hw,rfl⟩
    refine gr ?_;refine nx λr2 q4 qW r0 r1=>?_
    obtain ⟨a,ha⟩:∃a,Y L r2.toNat=a:=⟨_,rfl⟩;obtain ⟨w1,e1,n1⟩:=hw.set hi' (p:=({ (Y m i).1 with C6:=[a] },.own 1 1 [Z a])) ⟨rfl,rfl⟩ U
    repeat' (first|refine nx (λ_ _ _ _ _=>?_)|refine Cb (h2:=?_)|refine eN ?_|refine gx ?_|fail)
    rw [ha];refine Ra (zf (id:=5) (k:=4) ({ (Y m i).1 with C6:=[a] },.own 1 1 [Z a]) hi' rfl (by decide) rfl) (h2:=?_);obtain ⟨m1,Ff⟩:∃m1,m.set i ({ (Y m i).1 with C6:=[a] },.own 1 1 [Z a])=m1:=⟨_,rfl⟩;obtain ⟨x1,hx1⟩:∃x1:Q1,{ (Y m i).1 with C6:=[a] }=x1:=⟨_,rfl⟩;rw [Ff] at w1 e1 n1 ⊢;rw [hx1] at n1;have hi1:i<O m1:=V
    refine gr ?_;refine nx λr3 q5 wq r0 r1=>?_
    repeat' (first|refine nx (λ_ _ _ _ _=>?_)|refine Cb (h2:=?_)|refine eN ?_|refine gx ?_|fail)
    have g1:∀H:k8,H[5]? =J (cO m1)->rd H 5 (0+i * 7+4) 1=J [.own 1 1 [Z a]]:=λH hH=>Hi hi1 hH (by decide) (by rw [n1];rfl)
    refine Ex.join (λst=>∃(m:List (Q1×c7)) (kr:c7),O m=O l/\wf 2 m/\st=⟨t43 L i (.ptr 5 (0+i * 7)) (.d (.bool (s7 r 0))) kr .any .any .any,h6 o0 xs q5 X3 (tO nm (O l) Vj rt) m++OO c nm (O l) er rt⟩) ?_ ?_
    .refine Ex.EL (Rn.text ?_) ?_ (Ex.skip ⟨m1,_,V,w1,rfl⟩)
     .repeat' (first|refine Sg (g1 _ rfl) rfl ?_|refine Cb (enc:=Fb) (xs:=[a]) (h2:=?_)|refine gx ?_|refine fq (λhw=>?_) λhw=>?_|refine ⟨rfl,rfl,_,rfl,?_⟩|refine ⟨rfl,rfl⟩|fail)
      all_goals exact ⟨rfl,rfl,_,rfl⟩
     .obtain ⟨o,ho⟩:∃o,Y L r3.toNat=o:=⟨_,rfl⟩
      rw [ho]
      repeat' (first|refine Sg (g1 _ rfl) rfl ?_|refine acO (m:=1) n1 hi1 (by decide) (h2:=?_)|refine gx ?_|fail)
      obtain ⟨w2,e2,n2⟩:=w1.set hi1 (p:=({ x1 with C6:=[a,o] },.own 1 2 [Z a,Z o])) ⟨rfl,rfl⟩ U;refine Ra (zf (id:=5) (k:=4) ({ x1 with C6:=[a,o] },.own 1 2 [Z a,Z o]) (by simpa using hi1) rfl (by decide) (by rw [DW hi1];rfl)) (h2:=?_);refine gr ?_;exact ⟨m1.set i ({ x1 with C6:=[a,o] },.own 1 2 [Z a,Z o]),_,V,w2,by rw [List.set_set];rfl⟩
    rintro _ ⟨m2,kr,hm2,w2,rfl⟩;unfold t43 h6 OO tO tA;simp only [x4,y5];have hi2:i<O m2:=V
    refine gr ?_;refine nx λr4 q6 HU r0 r1=>?_
    obtain ⟨w3,e3,n3⟩:=w2.set hi2 (p:=({ (Y m2 i).1 with cr:=r4 },(Y m2 i).2)) (w2 _ (E7 hi2)).1 (w2 _ (E7 hi2)).2
    repeat' (first|refine UP (zf (id:=5) (k:=5) (w:= .d (Z r4)) ({ (Y m2 i).1 with cr:=r4 },(Y m2 i).2) hi2 rfl (by decide) rfl) (h2:=?_)|refine gx ?_|fail)
    obtain ⟨m3,WQ⟩:∃m3,m2.set i ({ (Y m2 i).1 with cr:=r4 },(Y m2 i).2)=m3:=⟨_,rfl⟩;rw [WQ] at w3 e3 ⊢;have HO:i<O m3:=V
    repeat' (first|refine bk Z [0,0,0,5,20] ?_|refine gx ?_|fail)
    refine nx λr5 q7 yf r0 r1=>?_
    obtain ⟨d,hd⟩:∃d,Y [(0:Int),0,0,5,20] r5.toNat=d:=⟨_,rfl⟩;obtain ⟨w4,e4,n4⟩:=w3.set HO (p:=({ (Y m3 i).1 with gL:=d },(Y m3 i).2)) (w3 _ (E7 HO)).1 (w3 _ (E7 HO)).2;refine Cb (h2:=?_);rw [hd]
    repeat' (first|refine UP (zf (id:=5) (k:=6) (w:= .d (Z d)) ({ (Y m3 i).1 with gL:=d },(Y m3 i).2) HO rfl (by decide) rfl) (h2:=?_)|refine gx ?_|fail)
    refine te trivial ?_ (Ex.skip ⟨.inl rfl,q7,er,_,_,_,_,yf,V,w4,rfl⟩);refine gr ?_;exact ⟨.inl rfl,q7,1,_,_,_,_,yf,V,w4,rfl⟩
   rintro _ ⟨q5,er,m2,w8,w9,kr,wq,hm2,w2,rfl⟩;unfold t43 h6 OO tO tA;simp only [x4,y5];refine gr ?_;exact kk ⟨i+1,q5,er,m2,wq,V,hm2,w2,rfl,rfl⟩
  refine Ex.exit ?_;clear h hk;refine gr ?_;refine Ex.J1 (λk T' H' =>∃(i:Nat) (m:List (Q1×c7)),i+k=O l/\O m=O l/\wf (2+i * O c.j7) m/\T' =u43 i .any .any/\H' =h6 o0 xs q1 X3 (tO nm (O l) Vj rt) m++OO c nm (O l) er rt) ?_ (k:=O l) ⟨0,m,V,hm,by simpa using hw,rfl,rfl⟩;clear hw hm;rintro k _ _ ⟨i,m,hk,hm,hw,rfl,rfl⟩;unfold u43 h6 OO tO tA;simp only [x4,y5];refine Ex.seq ?_;refine tS i (O l) (λh=>?_) (λh=>?_)
  .repeat' (first|refine ixS ?_|refine gx ?_|fail)
   refine Ex.J1 (λk T' H' =>∃(j:Nat) (m:List (Q1×c7)),j+k=O c.j7/\O m=O l/\wf (2+i * O c.j7+j) m/\T' =u43 i (.ptr 5 (0+i * 7)) (.d (Z j))/\H' =h6 o0 xs q1 X3 (tO nm (O l) Vj rt) m++OO c nm (O l) er rt) ?_ (k:=O c.j7) ⟨0,m,V,hm,hw,rfl,rfl⟩;clear hw hm;rintro k2 _ _ ⟨j,m,hk2,hm,hw,rfl,rfl⟩;unfold u43 h6 OO tO tA;simp only [x4,y5];have hi:i<O m:=V
   refine Ex.seq ?_;refine tl j (O c.j7) (λh2=>?_) (λh2=>?_)
   .have h1:=hc1 _ (E7 (show j<O c.j7 by omega))
    refine gr ?_;refine Ex.EL (Rn.draw ?_) ?_ ?_
    .repeat' (first|refine lcO (h2:=?_)|refine gx ?_|refine fq (λhw=>?_) λhw=>?_|refine ⟨rfl,rfl,_,rfl,?_⟩|refine ⟨rfl,rfl⟩|fail)
     all_goals exact ⟨rfl,rfl,_,rfl⟩
    .have hwi:=hw _ (E7 hi)
     obtain ⟨v97,⟨ks,hks,e⟩,ZX⟩:=ZX (Y m i).1.C6 (by have:=hwi.2;have:i * O c.j7<=10 * 10:=Nat.mul_le_mul V hc;omega) i;obtain ⟨w1,e1,n1⟩:=(hw.mono (show 2+i * O c.j7+j<=2+i * O c.j7+(j+1) by omega)).set hi (p:=({ (Y m i).1 with C6:=ks },v97)) (show Qc Fb ks v97 from by rcases e with e|e<;>exact ⟨by rw [e];rfl,by rw [e];rfl⟩) (by simp only;omega)
     rcases e with rfl|rfl
     .repeat' (first|refine Sg (Hi (id:=5) (k:=4) hi rfl (by decide) rfl) hwi.1.1 ?_|refine cl (ZX) ?_|refine Ra (zf (id:=5) (k:=4) ({ (Y m i).1 with C6:=ks },A8 1 Fb ks) hi rfl (by decide) rfl) (h2:=?_)|refine gx ?_|fail)
      exact ⟨k2 - 1,V,j+1,_,V,V,w1,rfl,rfl⟩
     .repeat' (first|refine Sg (Hi (id:=5) (k:=4) hi rfl (by decide) rfl) hwi.1.1 ?_|refine cl (ZX) ?_|refine UP (zf (id:=5) (k:=4) (w:= .d (x3 Fb ks)) ({ (Y m i).1 with C6:=ks },.d (x3 Fb ks)) hi rfl (by decide) rfl) (h2:=?_)|refine gx ?_|fail)
      exact ⟨k2 - 1,V,j+1,_,V,V,w1,rfl,rfl⟩
    .refine gr ?_
     exact ⟨k2 - 1,V,j+1,m,V,hm,hw.mono V,rfl,rfl⟩
   .refine gr ?_
    exact kk ⟨i+1,m,V,hm,hw.mono (by rw [Nat.succ_mul];omega),rfl,rfl⟩
  .repeat' (first|refine yK (ws:=tA nm (O l) er rt) rfl rfl ?_|refine gx ?_|fail)
   refine SF rfl ⟨rfl,rfl⟩ rfl rfl rfl (.inl (show 6<=9 by decide)) rfl ?_;refine gr ?_;exact ⟨_,_,rfl,er,m,q1,hm,hw.mono (by have:i * O c.j7<=10 * 10:=Nat.mul_le_mul V hc;omega),hq1,rfl,rfl⟩
 obtain ⟨_,_,⟨Wl,l',q',h1,h2,h3,rfl,rfl⟩,p⟩:=key;exact ⟨Wl,l',q',h1,h2,h3,p⟩
end
end Go.Proofs.YtibjocmpkoepoaaGreat
namespace Go.z6
theorem Ii (id:Nat):∀l:List Data,L3 id (l.map .d)=l.map .d
 |[]=>rfl
 |_::l=>by simp [L3,c7.kill,Ii id l]
theorem fN {H:k8}{id m:Nat}{cs:List c7}(hO:H[id]? =J (.cells cs))(h:O cs=m):rd H id 0 m=J cs:=by
 simp only [rd,hO];rw [if_pos V,List.drop_zero,s9 V]
theorem zh {mask:List Bool}{strict m:Nat}{T:List c7}{H:k8}(h:¬C9 ((H.take m).drop strict)<=m):clean mask strict m ⟨T,H⟩=⟨Q5 mask T,H⟩:=by simp [clean,h]
namespace S
section
variable {ρ:A4->c7} {G:k8} {x y:A4}
theorem Us {id o m:Nat}{vs ws:List c7}(hx:ρ x= .ptr id o)(hr:rd G id o m=J vs)(hv:vs.map c7.I7=ws):l5 ρ G (.load (J m) x)=J (.agg ws,[id]):=by simp [l5,hx,hr,hv]
theorem ax2 {id sz lo len:Nat}(hx:ρ x= .s5 id sz lo len):l5 ρ G (.len x)=J (.d (.int .i64 (len:Int)),[]):=by simp only [l5,hx,i64]
theorem pLs {m:Nat}{cs:List Data}(hx:ρ x= .d (.slice m cs)):l5 ρ G (.len x)=J (.d (.int .i64 (m:Int)),[]):=by simp only [l5,hx,i64]
theorem pOn {enc:List Data}{sz:Nat}{zero:List c7}(hx:ρ x= .agg (enc.map .d))(hc:O enc=sz)(hz:O zero=sz)(h0:0<sz):l5 ρ G (.N5 sz 1 zero [(0,sz,x)] F)=J (.own sz 1 enc,[]):=by
 have h1:U2 zero [(0,sz,c7.agg (enc.map .d))]=J (enc.map .d):=by
  simp only [U2,c7.cells?,Sj,if_true,A3,hc,hz,Nat.zero_add,k9,and_self,splice,List.take_zero,y5];rw [List.drop_eq_nil_of_le V];simp
 have h2:=(Ht (λd:Data=>d) enc).1;simp only [List.map_id'] at h2;simp [l5,hx,h1,h2,h0,hc]
end
end S
end Go.z6
namespace Go.Proofs.YtibjocmpkoepoaaGreat
open Go.z6 Go.z6.S
attribute [local irreducible] Rx Ry Rn Ex Pf Rl
def dO (cs:List Q1):x6:= .cells ((cs.flatMap Q1.enc).map .d)
structure CO (c:p7)(v:List c7):Prop where
 len:O v=8
 I7:v.map c7.I7=c.enc.map .d
 H7:A2 v=0
 kill:∀id,L3 id v=v
theorem CO.enc (c:p7):CO c (c.enc.map .d):=⟨rfl,rfl,rfl,λ_=>rfl⟩
def yz:p7:=⟨[],[],[],[],[],[],[],[]⟩
def vz8:List c7:=[.own 4 0 [],.own 9 0 [],.own 3 0 [],.own 6 0 [],.own 4 0 [],.own 3 0 [],.own 2 0 [],.own 3 0 []]
theorem CO.zero:CO yz vz8:=⟨rfl,rfl,rfl,λ_=>rfl⟩
def t14 (n i:Int)(w5 w6 w7:c7):List c7:=[.ptr 1 0,.d (Z n),.ptr 2 0,.ptr 3 0,.d (Z i),w5,w6,w7]
def Sa (o0:x6)(xs:List Int)(q:Nat)(v:List c7)(nm:I4)(er rt:Int):List Q1->k8
 |[]=>[o0,tp xs q,z8,.cells v,.cells [.d (.str nm),.O5,.d (Z er),.d (Z rt)]]
 |x::r=>[o0,tp xs q,z8,.cells v,tO nm (O r+1) er rt,dO (x::r)]++c8 (O r) .dead
section
variable {xs:List Int} {o0:x6} {q:Nat} (hx:O xs<=35184372088832) (hq:q<=4 * O xs)
include hx hq
set_option maxHeartbeats 8000000 in
theorem as5 (c:p7)(v:List c7)(hC:CO c v)(hc:O c.j7<=10)(hc1:∀t,t∈c.j7->1<=O t.o4)(n i:Int)(nm:I4)(er rt:Int)(d8:Nat)(hM:1<=d8)(hM2:d8<=4)(w7:c7) :
  Ex A l1 2 (match Zx.body with| .seq _ (.seq _ (.seq (.seq _ (.block _ (.loop _ (.seq _ (.seq (.block _ (.seq _ (.seq (.seq _ (.block _ c)) _))) _))))) _))=>c|c=>c) ⟨t14 n i (.ptr 4 0) (.d (Z d8)) w7,Sa o0 xs q v nm er rt []⟩ λx s=>x= .exit 2/\∃(cs:List Q1) (q:Nat),q<=4 * O xs/\O cs=d8/\(∀x,x∈cs->x.C6=[])/\s=⟨t14 n i (.ptr 4 0) (.d (Z 0)) .any,Sa o0 xs q v nm er rt cs⟩:=by
 show Ex A l1 2 (.loop _ _) _ _
 refine Ex.L4 (λk T' H' =>∃(m:Int) (q:Nat) (cs:List Q1),m=k/\q<=4 * O xs/\O cs+k=d8/\(∀x,x∈cs->x.C6=[])/\T' =t14 n i (.ptr 4 0) (.d (Z m)) .any/\H' =Sa o0 xs q v nm er rt cs) ?_ (k:=d8) ⟨d8,q,[],rfl,hq,U,U,rfl,rfl⟩;rintro k _ _ ⟨m,q1,cs,hmk,hq1,hk,BX,rfl,rfl⟩;unfold t14;refine Ex.seq ?_;refine tl 0 m (λh=>?_) (λh=>?_)
 .have hcs:O cs<=3:=V
  have hb:∀j,C9 [z8,x6.cells v,.cells [.d (.str nm),.s5 5 7 0 j,.d (Z er),.d (Z rt)]]=6:=λj=>by simp [C9,bC,A2,c7.H7,z8,hC.H7]
  match cs,hk,hcs,BX with
  |[],hk,hcs,BX =>
   obtain ⟨x,q2,hxo,gR,VE⟩:=VE hx hq1 c V hc1 0 V 2 [] [.d (.str nm),.d (.slice 0 []),.d (Z er),.d (Z rt)] (.inl ⟨rfl,rfl,_,_,_,_,rfl⟩);unfold Sa;refine gr ?_;refine Ex.region (rg 1 (h:=?_));refine gm ?_;refine yp _ (Us rfl (fN rfl hC.len) hC.I7) ?_;refine yp _ (Us rfl rfl rfl) ?_;refine gm ?_;refine yp _ (pLs rfl) ?_;refine lC2 (m:=2) (nn:=2) VE rfl (s8 _) rfl (by decide) rfl rfl U rfl (h2:=?_);refine yp _ (pOn rfl rfl rfl (by decide)) ?_;refine lAz rfl ⟨by decide,by decide⟩ (by decide) (h2:=?_);refine gl ?_;refine ys (H2:=[o0,tp xs q2,z8,.cells v,.cells [.d (.str nm),.s5 5 7 0 1,.d (Z er),.d (Z rt)],dO [x]]) rfl ⟨rfl,rfl⟩ rfl rfl rfl (.inr ⟨by decide,by decide⟩) rfl ?_;refine lN ?_;refine gr ?_;exact kk ⟨_,_,zh (λh' =>by have h2:C9 [z8,x6.cells v,.cells [.d (.str nm),.s5 5 7 0 1,.d (Z er),.d (Z rt)]]<=5:=h';rw [hb] at h2;omega),m - 1,q2,[x],V,gR,by simp at hk ⊢;omega,by simp [hxo],rfl,rfl⟩
  |x0::r,hk,hcs,BX =>
   obtain ⟨cs,he⟩:∃cs,x0::r=cs:=⟨_,rfl⟩;obtain ⟨d,hd⟩:∃d,O r=d:=⟨_,rfl⟩;have hl:O cs=d+1:=by rw [<- he,<- hd];rfl
   refine Ex.nS _ ([o0,tp xs q1,z8,.cells v,tO nm (O r+1) er rt,dO (x0::r)]++c8 (O r) .dead) ?_;have hsn:∀(x:Q1) (q2:Nat),[o0,tp xs q2,z8,.cells v,tO nm (d+1+1) er rt,.cells ((cs.flatMap Q1.enc).map .d++x.enc.map .d)]++c8 (d+1) .dead=Sa o0 xs q2 v nm er rt (cs++[x]):=λx q2=>by
    rw [<- he,<- hd];simp [Sa,dO]
   rw [he] at hk hcs BX ⊢;rw [hd];obtain ⟨x,q2,hxo,gR,VE⟩:=VE hx hq1 c V hc1 (d+1) V 6 [z8,.cells v,tO nm (d+1) er rt,dO cs] (tA nm (d+1) er rt) (.inr ⟨rfl,_,_,_,_,_,d+1,_,_,rfl,rfl⟩);have Wx:C9 [z8,x6.cells v,tO nm (d+1) er rt,dO cs]<=6:=by
    have e:(dO cs).H7=0:=AG _;simp only [C9,e];simp [bC,A2,c7.H7,z8,hC.H7,tO,tA]
   have hst:∀X,l1.gq 2 6 6 (B1 ([o0,tp xs q1,z8,.cells v,tO nm (d+1) er rt,dO cs]++X) 2 6)=⟨2,6,6,2⟩:=λX=>by simp [G9.gq,l1,B1,U6,bC,A2,c7.H7,z8,hC.H7,tO,tA]
   have Tz:d=0\/d=1\/d=2:=V
   rcases Tz with rfl|rfl|rfl
   all_goals
    simp only [c8,x4,y5];refine gr ?_;refine Ex.region (rg 1 (h:=?_));refine gm ?_;refine yp _ (Us rfl (fN rfl hC.len) hC.I7) ?_;refine gm ?_;refine yp _ (ax2 rfl) ?_;refine lC2 (m:=2) (nn:=6) VE rfl Wx (I8 Wx) (by decide) rfl rfl U (hst _) (h2:=?_);refine yp _ (pOn rfl rfl rfl (by decide)) ?_;refine lAk (m:=1) (cs:=x.enc.map .d) (old:=(cs.flatMap Q1.enc).map .d) (T2:=[.ptr 1 0,.d (Z n),.ptr 2 0,.ptr 3 0,.d (Z i),.ptr 4 0,.d (Z m),.any]) (hr:=by decide) (hc:=rfl) (Vs:=by rw [A3,W4 (enc:=Q1.enc) (sz:=7) (λ_=>rfl),hl]) (hone:=rfl) (hbc:=rfl) (hT:=rfl) (hH:=by simp only [show l1.base=2 from rfl,List.take_succ_cons,List.take_zero,List.drop_succ_cons,List.drop_zero,G7,List.map_nil,x4,y5,o7,o8,x6.kill,hC.kill,Ii]<;>rfl) (h2:=?_);refine gl ?_;refine ys rfl ⟨rfl,rfl⟩ rfl rfl rfl (.inr ⟨by decide,by decide⟩) rfl ?_;refine lN ?_;refine gr ?_;refine kk ⟨_,_,zh (λh' =>?_),m - 1,q2,cs++[x],V,gR,D,qu BX hxo,rfl,?_⟩
    .have h2:C9 [z8,x6.cells v,.cells [.d (.str nm),.s5 5 7 0 _,.d (Z er),.d (Z rt)]]<=5:=h'
     rw [hb] at h2;omega
    .rw [<- hsn x q2]
     rfl
 .refine Ex.exit ?_
  have hm0:m=0:=V
  exact ⟨rfl,cs,q1,hq1,V,BX,by rw [hm0]⟩
end
def AQ (cs:List Q1):List (Q1×c7):=cs.map λx=>(x,.d (x3 Fb x.C6))
theorem Wh:∀cs:List Q1,dO cs=cO (AQ cs):=λcs=>by
 unfold dO cO
 congr 1
 induction cs with
 |nil=>rfl
 |cons x cs ih=>rw [List.flatMap_cons,List.map_append,ih];rfl
theorem Hp {cs:List Q1}(h:∀x,x∈cs->x.C6=[]):wf 2 (AQ cs):=λp hp=>by
 obtain ⟨x,hx,rfl⟩:=List.mem_map.1 hp;exact ⟨⟨rfl,rfl⟩,M⟩
theorem zo:∀(a b:List c7) (x y:List z6.Data),J3 a=J x->J3 b=J y->J3 (a++b)=J (x++y)
 |[],b,x,y,h,h2=>by simp_all [J3,Option.some.injEq]
 |v::a,b,x,y,h,h2=>by
  simp [J3,x4] at h ⊢;split at h
  .split at h
   next zs hzs=>
    cases h;simp [zo a b zs y hzs h2]
   .cases h
  .cases h
theorem MA {α:Type}{enc:α->List z6.Data}{l:List α}{w:c7}(h:Qc enc l w):w.data? =J (x3 enc l):=by
 have h1:=h.1;cases w<;>simp_all [c7.I7,c7.data?]
theorem Cv:∀{l:List (Q1×c7)} {f8:Nat},wf f8 l->J3 (l.flatMap gd)=J ((l.map (·.1)).flatMap Q1.enc)
 |[],_,_=>rfl
 |p::l,f8,h=>by
  refine zo _ _ _ _ ?_ (Cv λx hx=>h x (by simp [hx]));have:=MA (h p U).1;simp [gd,J3,this];rfl
theorem am3 {o0:x6}{xs:List Int}{q:Nat}{v:List c7}{c:p7}(hC:CO c v){l:List (Q1×c7)}{f8:Nat}(hw:wf f8 l)(nm:I4)(er rt n i m:Int)(w7:c7)(d:Nat)(hl:O l=d+1) :
  kI l1 2 5 ⟨[.ptr 1 0,.d (Z n),.ptr 2 0,.ptr 3 0,.d (Z i),.ptr 4 0,.d (Z m),.any],[o0,tp xs q,z8,.cells v,tO nm (d+1) er rt,cO l]++c8 d .dead⟩ =
   J ⟨[.ptr 1 0,.d (Z n),.ptr 2 0,.ptr 3 0,.d (Z i),.ptr 4 0,.d (Z m),.any],[o0,tp xs q,z8,.cells v,.cells [.d (.str nm),.d (x3 Q1.enc (l.map (·.1))),.d (Z er),.d (Z rt)],.dead]++c8 d .dead⟩:=by
 have e:rd ([o0,tp xs q,z8,.cells v,.cells [.d (.str nm),.s5 5 7 0 (d+1),.d (Z er),.d (Z rt)],cO l]++c8 d .dead) 5 0 ((d+1) * 7)=J (l.flatMap gd):=fN rfl (by rw [Lh,hl]);simp [x4,y5] at e;simp [kI,ql,List.getElem?_cons_succ,List.getElem?_cons_zero,x4,y5,tO,tA,qE,e,Cv hw];simp [l1,G9.may,L3,c7.kill,x6.kill,hC.kill,z8,hl,x3]
theorem EJ {c:p7}(hv:C4 c=W):∀t,t∈c.j7->1<=O t.o4:=λt ht=>by
 obtain ⟨k,hk,rfl⟩:=E0 ht;rw [<- A7 hk];exact (eS (S8 ((W6 hv).1 k (by have:=P6 c;grind [p7.ns])) hk)).1
def MP:cI:=⟨[116,48],[⟨[99,48],1,[112,101,114,115,111,110],[],[],0,0⟩,⟨[99,49],2,[],[],[0],0,0⟩],0,0⟩
def Qg:p7:=⟨[MP],[],[],[],[],[],[],[]⟩
theorem Ub:C4 Qg=W:=by kernel_rfl
theorem Ua:iK Qg 1 0 0:=by
 refine ⟨by decide,by decide,?_,?_,by decide,by decide,by decide,by decide,by decide,by decide,?_⟩
 .intro x hx
  rw [List.mem_singleton.1 hx];refine ⟨by decide,λy hy=>?_⟩;have:y∈[(⟨[99,48],1,[112,101,114,115,111,110],[],[],0,0⟩:Q1),⟨[99,49],2,[],[],[0],0,0⟩]:=hy
  grind
 .intro x hx;cases hx
 .intro x hx;cases hx
theorem ak8:iK yz 0 0 0:=⟨by decide,by decide,(by simp [yz]),(by simp [yz]),by decide,by decide,by decide,by decide,by decide,by decide,(by simp [yz])⟩
theorem iK.mono {c:p7}{a b n a' b' n' :Nat}(h:iK c a b n)(ha:a<=a')(hb:b<=b')(hn:n<=n'):iK c a' b' n' :=by
 obtain ⟨h1,h2,h3,h4,h5,h6,h7,h8,h9,OJ,Wo⟩:=h;exact ⟨V,V,h3,h4,V,V,V,V,V,V,Wo⟩
theorem CO.wr0 {c:p7}{v:List c7}(h:CO c v){H:k8}(hH:H[3]? =J (.cells v))(w:c7):wr H 3 0 [w]=J (H.set 3 (.cells (v.set 0 w))):=by
 have hl:=h.len;simp_all [wr,qO,if_pos]
theorem CO.wrA {c:p7}{v:List c7}(h:CO c v){H:k8}(hH:H[3]? =J (.cells v))(d:p7):wr H 3 0 (d.enc.map .d)=J (H.set 3 (.cells (d.enc.map .d))):=by
 have hl:=h.len;have hd:O (d.enc.map c7.d)=8:=rfl;simp_all [splice,List.take_zero,y5,n5,List.append_nil,wr,if_pos]
theorem CO.aC5 {c:p7}{v:List c7}(h:CO c v)(ts:List cI):(v.set 0 (A8 4 cI.enc ts)).map c7.I7=(p7.enc { c with j7:=ts }).map .d:=by
 rw [List.map_set,h.I7];rfl
theorem CO.at0 {c:p7}{v:List c7}(h:CO c v):∃w,(∀H:k8,H[3]? =J (.cells v)->rd H 3 0 1=J [w])/\w.I7= .d (x3 cI.enc c.j7):=by
 obtain ⟨h1,h2,_,_⟩:=h
 match v,h1 with
 |w::r,h1 =>
  have h3:w.I7= .d (x3 cI.enc c.j7):=(List.cons.inj h2).1
  grind [rd]
section
variable {xs:List Int} {o0:x6} {q:Nat} (hx:O xs<=35184372088832) (hq:q<=4 * O xs)
include hx hq
set_option maxHeartbeats 4000000 in
theorem VY (c:p7)(v:List c7)(hC:CO c v){m:Nat}(hm:1<=m)(hcs:iK c m 0 0)(Tw:c=yz\/C4 c=W/\1<=O c.j7)(n i:Int)(w5 w6 w7:c7)(X:k8) :
  Ex A l1 2 (match Zx.body with| .seq _ (.seq _ (.seq _ c))=>c|c=>c) ⟨t14 n i w5 w6 w7,[o0,tp xs q,z8,.cells v]++X⟩ λx s=>∃w q',T9 Zx 2 (J (x,s))=J (w,[o0,tp xs q'])/\q' <=4 * O xs/\∃c,w=cat c/\C4 c=W/\iK c m 0 0/\1<=O c.j7:=by
 obtain ⟨w,hr,hw⟩:=hC.at0;simp [x4];refine gx ?_;refine Ex.dn (s7 (O c.j7) 0) (Rn.text ?_) (λh=>?_) (λh=>?_)
 .repeat' (first|refine Sg (hr _ rfl) hw ?_|refine gx ?_|refine fq (λhw=>?_) λhw=>?_|refine ⟨rfl,rfl,_,rfl,?_⟩|refine ⟨rfl,rfl⟩|fail)
  rfl
 .have h0:=W9 h
  have hc0:c=yz:=by
   simp_all
  subst hc0
  repeat' (first|refine Ry.pure (v:=A8 7 Q1.enc MP.o4) (rs:=[]) rfl (by rfl) ?_|refine oN (enc:=cI.enc) MP ?_|refine gx ?_|fail)
  refine Ra (hC.wr0 rfl (A8 4 cI.enc [MP])) (h2:=?_)
  repeat' (first|refine yK (ws:=Qg.enc.map .d) (fN rfl (by rw [List.length_set,hC.len])) (hC.aC5 [MP]) ?_|refine gx ?_|fail)
  exact ⟨_,q,rfl,hq,Qg,rfl,Ub,Ua.mono V V V,by decide⟩
 .repeat' (first|refine yK (fN rfl hC.len) hC.I7 ?_|refine gx ?_|fail)
  refine ⟨_,q,rfl,hq,c,rfl,?_,hcs,?_⟩
  .rcases Tw with rfl|h2
   .cases (iW h) rfl
   .exact h2.1
  grind [iW]
set_option maxHeartbeats 16000000 in
theorem q14 (n:Nat)(hn:1<=n/\n<=10):Tq xs o0 l1 14 [.ptr 1 0,.d (Z n)] q λv=>∃c,v=cat c/\C4 c=W/\iK c n 0 0/\1<=O c.j7:=by
 refine Tq.go 6 ?_;refine gr ?_;refine Ex.L4 (λk T' H' =>∃(i q:Nat) (c:p7) (v:List c7),q<=4 * O xs/\i+k=n/\CO c v/\iK c i 0 0/\(c=yz\/C4 c=W/\1<=O c.j7)/\T' =t14 n i .any .any .any/\H' =[o0,tp xs q,z8,.cells v]) ?_ (k:=n) ⟨0,q,yz,vz8,hq,V,CO.zero,ak8,.inl rfl,rfl,rfl⟩;rintro k _ _ ⟨i,q1,c,v,hq1,hk,hC,hcs,Tw,rfl,rfl⟩;have hc1:∀t,t∈c.j7->1<=O t.o4:=by
  rcases Tw with rfl|Tw
  .intro t ht;cases ht
  .exact EJ Tw.1
 have PS:=hcs.tl;unfold t14;refine Ex.seq ?_;refine tl i n (λh=>?_) (λh=>?_)
 .obtain ⟨a,pn⟩:=Sk [116] (by decide) (n:=i) V V
  obtain ⟨nm,hnm⟩:∃n,[116]++[a]=n:=⟨_,rfl⟩;rw [hnm] at pn;refine gc pn ?_;refine nx λer q2 gR _ _=>?_
  repeat' (first|refine bk Z [0,0,25,40] ?_|refine gx ?_|fail)
  refine nx λr2 q3 kM s0 s1=>?_
  refine Cb (h2:=?_);obtain ⟨rt,Mq⟩:∃d,Y [(0:Int),0,25,40] r2.toNat=d:=⟨_,rfl⟩;rw [Mq]
  repeat' (first|refine mJ (cs:=[.d (.str nm),.O5,.d (Z er),.d (Z rt)]) ?_|refine gx ?_|fail)
  refine nx λr3 q4 qW t0 t1=>?_
  obtain ⟨d8,hM⟩:∃d8:Nat,(d8:Int)=2+r3:=⟨(2+r3).toNat,V⟩;refine gx ?_;rw [<- hM];refine gr ?_;refine Ex.blk (λs=>∃(cs:List Q1) (q:Nat),q<=4 * O xs/\O cs=d8/\(∀x,x∈cs->x.C6=[])/\s=⟨t14 n i (.ptr 4 0) (.d (Z 0)) .any,Sa o0 xs q v nm er rt cs⟩) ((as5 hx qW c v hC V hc1 n i nm er rt d8 V V .any).mono λx s ⟨h1,h2⟩=>⟨.inr h1,h2⟩) ?_;rintro _ ⟨cs,q5,wq,hcl,BX,rfl⟩;obtain ⟨d,hd⟩:∃d,O cs=d+1:=⟨d8 - 1,V⟩;have ap2:Sa o0 xs q5 v nm er rt cs=[o0,tp xs q5,z8,.cells v,tO nm (d+1) er rt,cO (AQ cs)]++c8 d .dead:=by
   rw [<- Wh];cases cs with
   |nil=>simp at hd
   |cons x r =>
    have:O r=d:=by simpa using hd
    rw [<- this];rfl
  have hl:O (AQ cs)=d+1:=by rw [<- hd];simp [AQ]
  obtain ⟨ZA,l',q6,hl',ZP,HU,XN⟩:=XN hx wq c V hc1 (.cells v) hC.H7 (AQ cs) V (Hp BX) nm er rt;rw [hl] at XN hl';unfold h6 at XN;rw [ap2];have Wx:C9 [z8,x6.cells v,tO nm (d+1) er rt,cO (AQ cs)]<=6:=by
   have e:(cO (AQ cs)).H7=0:=(Hp BX).H7;simp only [C9,e];simp [bC,A2,c7.H7,z8,hC.H7,tO,tA]
  have hst:∀X,(⟨l1.Fe,l1.Fc,6,B1 ([o0,tp xs q5,z8,.cells v,tO nm (d+1) er rt,cO (AQ cs)]++X) 2 6⟩:G9)=⟨0,0,6,2⟩:=λX=>by simp [l1,B1,U6,bC,A2,c7.H7,z8,hC.H7,tO,tA]
  unfold t14;simp only [x4,y5]
  repeat' (first|refine yK (fN rfl hC.len) hC.I7 ?_|refine yK (ws:=tA nm (d+1) er rt) rfl rfl ?_|refine gx ?_|fail)
  refine ct (m:=6) XN (fe:=Wx) (hcl:=I8 Wx) (iZ:=hst _) (h2:=?_);refine SF rfl ⟨rfl,rfl⟩ rfl rfl rfl (.inr ⟨by decide,by decide⟩) rfl ?_;refine gr ?_;refine Ex.nS _ ([o0,tp xs q6,z8,.cells v,tO nm (d+1) ZA rt,cO l']++c8 d .dead) ?_;refine Ex.fz (am3 hC ZP nm ZA rt n i 0 .any d hl') ?_;obtain ⟨w,hr,hw⟩:=hC.at0;obtain ⟨Q0,Bh⟩:∃Q0:cI,⟨nm,l'.map (·.1),ZA,rt⟩=Q0:=⟨_,rfl⟩;have hte:[c7.d (.str nm),.d (x3 Q1.enc (l'.map (·.1))),.d (Z ZA),.d (Z rt)].map c7.I7=Q0.enc.map .d:=by rw [<- Bh];rfl
  have htS:VU Q0:=by
   subst Bh;refine ⟨D,λx hx=>?_⟩;obtain ⟨p,hp,rfl⟩:=List.mem_map.1 hx;have:=(ZP p hp).2;omega
  obtain ⟨c',oV⟩:∃c' :p7,{ c with j7:=c.j7++[Q0] }=c' :=⟨_,rfl⟩;have kK :iK c' (i+1) 0 0:=by
   subst oV;exact { hcs with tl:=D,ts:=qu hcs.ts htS }
  have hce:((c.enc.map c7.d).set 0 (A8 4 cI.enc (c.j7++[Q0]))).map c7.I7=c'.enc.map .d:=by rw [<- oV];rfl
  have WC:1<=O c'.j7:=by rw [<- oV];simp
  have KM:=kK.small V V V;have Tz:d=1\/d=2\/d=3:=V
  rcases Tz with Tz|Tz|Tz
  all_goals
   rw [Tz];simp only [c8,x4,y5]
   repeat' (first|refine yK (fN rfl hC.len) hC.I7 ?_|refine eN ?_|refine Sg (hr _ rfl) hw ?_|refine yK rfl hte ?_|refine oN (enc:=cI.enc) Q0 ?_|refine Fq (enc:=cI.enc) (ys:=[Q0]) (h2:=?_)|refine Ce (h2:=?_)|refine gx ?_|fail)
   refine Ex.join (λst=>∃(c:p7) (v:List c7) (w5 w7:c7) (X:k8),CO c v/\iK c (i+1) 0 0/\(c=yz\/C4 c=W/\1<=O c.j7)/\st=⟨t14 n i w5 (.d (Z 0)) w7,[o0,tp xs q6,z8,.cells v]++X⟩) ?_ ?_
   .refine Ex.test (Rn.text ?_)
    repeat' (first|refine yK rfl hce ?_|refine cl (yR c' KM) ?_|refine gx ?_|fail)
    refine ⟨_,rfl,λh5=>?_,λh5=>?_⟩
    .repeat' (first|refine yK rfl hce ?_|refine gx ?_|fail)
     refine SF rfl ⟨rfl,rfl⟩ rfl rfl rfl (.inl (s8 _)) (hC.wrA rfl c') ?_;refine gr ?_;exact ⟨c',_,_,_,_,CO.enc c',kK,.inr ⟨h5,WC⟩,rfl⟩
    .exact Ex.skip ⟨c,v,_,_,_,hC,hcs.mono V V V,Tw,rfl⟩
   rintro _ ⟨c2,v2,w5,w7,X,RH,WB,WD,rfl⟩;obtain ⟨w2,Jx,Jz⟩:=RH.at0;unfold t14;simp only [x4,y5];refine tt (λq7 yf=>?_) (λq7 yf=>?_) (h:=?_)
   .exact Ex.exit (VY hx yf c2 v2 RH hn.1 (WB.mono V V V) WD n i _ _ _ X)
   .refine gr ?_
    exact kk ⟨_,_,A6 (j5 rfl) (by show C9 [z8,.cells v2]<=4;simp [C9,bC,RH.H7,z8,A2,c7.H7]),i+1,q7,c2,v2,yf,V,RH,WB,WD,rfl,rfl⟩
   .refine Rn.text ?_
    repeat' (first|refine Sg (Jx _ rfl) Jz ?_|refine nx (λ_ _ _ _ _=>?_)|refine gx ?_|refine fk (h1:=λhw=>?_) (h2:=λhw=>?_)|exact ⟨rfl,⟨_,by assumption,rfl⟩,_,rfl⟩|fail)
 .exact Ex.exit (VY hx hq1 c v hC hn.1 (hcs.mono V V V) Tw n i _ _ _ [])
end
section
variable {xs:List Int} {o0:x6} {l:G9} {b:Nat} {j8 ops:List x9} {T:List c7} {HD:k8} {k:Nat} {rl:List c7} {l6:List z6.Touch} {Q:List c7->k8->List c7->Prop} {q:Nat} {os:List A4} {u:List Nat}
theorem nxT {n:Int}{s:Nat}(hx:O xs<=35184372088832)(hq:q<=4 * O xs)(h2:∀(r:Int) (q' :Nat),q' <=4 * O xs->0<=r->r<n->Ry A l b F j8 ops (T.set s (.d (Z r))) (o0::tp xs q' ::HD) (k+1) (.d (Z r)::rl) (.slot s:: .below 2::l6) Q)
  (ha:os.map (rq T k rl)=[.ptr 1 0,.d (Z n)]:=by rfl) (hn:1<=n/\n<=1000000:=by omega) (hs:l.strict=2:=by rfl) (hm:l.may 1=W:=by rfl) (ht:Nat.ble (s+1) (O T)=W:=by rfl) :
  Ry A l b F j8 (⟨.call 22 os,J s,K,u⟩::ops) T (o0::tp xs q::HD) k rl l6 Q:=by
 obtain ⟨_,q',h1,⟨r,rfl,h3,h4⟩,p⟩:=pN (o0:=o0) (l:=⟨l.Fe,l.Fc,2,2⟩) hx hq n hn hm;have e:B1 (o0::tp xs q::HD) l.strict 2=2:=by simp [B1,hs]
 refine ctT (m:=2) (H0:=[o0,tp xs q]) (HD:=HD) (H2:=o0::tp xs q' ::HD) p rfl ?_ ?_ rfl ?_ ?_ ha rfl rfl rfl rfl rfl (j5 ht) rfl (h2 r q' h1 h3 h4)
 .simp [hs,C9]
 .rw [hs,show A2 [c7.ptr 1 0,.d (Z n)]=2 from rfl];exact I8 (by simp [C9])
 .simp
 .rw [e]
end
theorem pF (s:I4)(hs:O s<=1000)(n:Nat)(hn:n<=1000):∃c,Pf A 41 [.d (.str s),.d (Z n)] (.d (.str (s++[c]))):=Sk s hs V V
section
variable {xs:List Int} {o0:x6} {q:Nat} (hx:O xs<=35184372088832) (hq:q<=4 * O xs)
include hx hq
set_option maxHeartbeats 8000000 in
theorem q65:Tq xs o0 l1 65 [.ptr 1 0] q λv=>∃c,v=cat c/\C4 c=W/\iK c 3 3 6/\1<=O c.j7:=by
 refine Tq.go 8 ?_;refine gr ?_;refine tq (q14 hx hq 3 (by decide)) ?_;rintro _ q1 hq1 ⟨c0',rfl,hv0,hs0,Xc⟩;refine tq (q13 hx hq1 hv0 hs0 (by decide) Xc 3 (by decide)) ?_;rintro _ q2 gR ⟨cb,rfl,hvb,wu,htb⟩;refine gc (YC cb (wu.small (by decide) (by decide) (by decide)).sm.dP) ?_;have hnb:1<=O (p7.sn cb)/\O (p7.sn cb)<=100:=by
  have h1:=S3 cb;have h2:=wu.tl;have h3:=wu.vl;unfold p7.ns at h1;rw [<- htb] at Xc;omega
 refine Ex.L4 (λk T' H' =>∃(i q:Nat) (c:p7),q<=4 * O xs/\i+k=6/\C4 c=W/\iK c 3 3 i/\1<=O c.j7/\T' =[.ptr 1 0,.ptr 2 0,.ptr 3 0,.d (x3 encS (p7.sn cb)),.d (Z i),.any,.any,.any,.any]/\H' =[o0,tp xs q,z8,.cells (c.enc.map .d)]) ?_ (k:=6) ⟨0,q2,cb,gR,V,hvb,wu.mono V V V,by rw [htb];exact Xc,rfl,rfl⟩;rintro k _ _ ⟨i,q3,c,kM,hk,hv,hs,ht,rfl,rfl⟩;refine Ex.seq ?_;refine tl i 6 (λh=>?_) (λh=>?_)
 .obtain ⟨a0,pa0⟩:=pF [105] (by decide) i V
  obtain ⟨a1,pa1⟩:=pF [115] (by decide) i V;obtain ⟨a2,pa2⟩:=pF [104] (by decide) i V;obtain ⟨a3,pa3⟩:=pF [114] (by decide) i V;obtain ⟨a4,pa4⟩:=pF [109] (by decide) i V;obtain ⟨a5,pa5⟩:=pF [98] (by decide) i V;have xZ:=hs.il;have oF:=hs.sl;have hcl:=hs.cl;have hrl:=hs.rl;have hml:=hs.ml;have hbl:=hs.bl
  iterate 9 refine gx ?_
  refine Ex.seq ?_;refine Ex.region (rg 0 (h:=?_));refine gm ?_;refine lx λr q4 qW r0 r1=>?_
  refine gm ?_;refine lx λxY q5 wq _ _=>?_
  refine gm ?_;obtain ⟨s,hsn⟩:∃s,Y (p7.sn cb) r.toNat=s:=⟨_,rfl⟩;rw [hsn];refine gr ?_;refine nxT hx wq λr q6 HU r0 r1=>?_
  refine gr ?_;have hs2:=hs.mono (k9 _) (k9 _) (Nat.le_succ i);refine Ex.On (λst=>∃(d:p7) (vs:List c7) (q:Nat),q<=4 * O xs/\iK d 3 3 (i+1)/\d.j7=c.j7/\O vs=8/\vs.map c7.I7=d.enc.map .d/\st=⟨[.ptr 1 0,.ptr 2 0,.ptr 3 0,.d (x3 encS (p7.sn cb)),.d (Z i),.ptr 4 0,.d (.str s),.d (Z xY),.d (Z r)],[o0,tp xs q,z8,.cells (c.enc.map .d),.cells vs]⟩) ?_ ?_
  .refine te trivial ?_ (te trivial ?_ (te trivial ?_ (te trivial ?_ (te trivial ?_ ?_))))
   .repeat' (first|refine cl (pa0) ?_|refine eN ?_|refine gx ?_|fail)
    repeat' (first|refine oN (enc:=iL.enc) ⟨[105]++[a0],s,xY⟩ ?_|refine Fq (enc:=iL.enc) (ys:=[⟨[105]++[a0],s,xY⟩]) (h2:=?_)|refine Ce (h2:=?_)|refine gx ?_|fail)
    exact ⟨{ c with idxs:=c.idxs++[⟨[105]++[a0],s,xY⟩] },(c.enc.map .d).set 2 (A8 3 iL.enc (c.idxs++[⟨[105]++[a0],s,xY⟩])),q6,HU,{ hs2 with il:=by simp;omega },rfl,rfl,rfl,rfl⟩
   .repeat' (first|refine cl (pa1) ?_|refine eN ?_|refine gx ?_|fail)
    refine nx λn0 q7 yf _ _=>?_
    refine gr ?_;refine nx λn1 q8 KJ _ _=>?_
    refine gr ?_;refine nx λn2 q9 RW _ _=>?_
    repeat' (first|refine oN (enc:=iI.enc) ⟨[115]++[a1],s,xY,n0,1+n1,1+n2⟩ ?_|refine Fq (enc:=iI.enc) (ys:=[⟨[115]++[a1],s,xY,n0,1+n1,1+n2⟩]) (h2:=?_)|refine Ce (h2:=?_)|refine gx ?_|fail)
    exact ⟨{ c with F4:=c.F4++[⟨[115]++[a1],s,xY,n0,1+n1,1+n2⟩] },(c.enc.map .d).set 3 (A8 6 iI.enc (c.F4++[⟨[115]++[a1],s,xY,n0,1+n1,1+n2⟩])),q9,RW,{ hs2 with sl:=by simp;omega },rfl,rfl,rfl,rfl⟩
   .repeat' (first|refine cl (pa2) ?_|refine eN ?_|refine gx ?_|fail)
    refine nx λn0 q7 yf _ _=>?_
    repeat' (first|refine oN (enc:=kG.enc) ⟨[104]++[a2],s,xY,1+n0⟩ ?_|refine Fq (enc:=kG.enc) (ys:=[⟨[104]++[a2],s,xY,1+n0⟩]) (h2:=?_)|refine Ce (h2:=?_)|refine gx ?_|fail)
    exact ⟨{ c with H8:=c.H8++[⟨[104]++[a2],s,xY,1+n0⟩] },(c.enc.map .d).set 4 (A8 4 kG.enc (c.H8++[⟨[104]++[a2],s,xY,1+n0⟩])),q7,yf,{ hs2 with cl:=by simp;omega },rfl,rfl,rfl,rfl⟩
   .repeat' (first|refine cl (pa3) ?_|refine eN ?_|refine gx ?_|fail)
    refine nx λn0 q7 yf _ _=>?_
    repeat' (first|refine oN (enc:=kA.enc) ⟨[114]++[a3],s,1+n0⟩ ?_|refine Fq (enc:=kA.enc) (ys:=[⟨[114]++[a3],s,1+n0⟩]) (h2:=?_)|refine Ce (h2:=?_)|refine gx ?_|fail)
    exact ⟨{ c with J5:=c.J5++[⟨[114]++[a3],s,1+n0⟩] },(c.enc.map .d).set 5 (A8 3 kA.enc (c.J5++[⟨[114]++[a3],s,1+n0⟩])),q7,yf,{ hs2 with rl:=by simp;omega },rfl,rfl,rfl,rfl⟩
   .repeat' (first|refine cl (pa4) ?_|refine eN ?_|refine gx ?_|fail)
    repeat' (first|refine oN (enc:=nr.enc) ⟨[109]++[a4],s⟩ ?_|refine Fq (enc:=nr.enc) (ys:=[⟨[109]++[a4],s⟩]) (h2:=?_)|refine Ce (h2:=?_)|refine gx ?_|fail)
    exact ⟨{ c with J9:=c.J9++[⟨[109]++[a4],s⟩] },(c.enc.map .d).set 6 (A8 2 nr.enc (c.J9++[⟨[109]++[a4],s⟩])),q6,HU,{ hs2 with ml:=by simp;omega },rfl,rfl,rfl,rfl⟩
   .repeat' (first|refine cl (pa5) ?_|refine eN ?_|refine gx ?_|fail)
    refine nx λn0 q7 yf _ _=>?_
    repeat' (first|refine oN (enc:=nq.enc) ⟨[98]++[a5],[s],1+n0⟩ ?_|refine Fq (enc:=nq.enc) (ys:=[⟨[98]++[a5],[s],1+n0⟩]) (h2:=?_)|refine Ce (h2:=?_)|refine gx ?_|fail)
    exact ⟨{ c with K6:=c.K6++[⟨[98]++[a5],[s],1+n0⟩] },(c.enc.map .d).set 7 (A8 3 nq.enc (c.K6++[⟨[98]++[a5],[s],1+n0⟩])),q7,yf,{ hs2 with bl:=D,bk:=qu hs.bk U },rfl,rfl,rfl,rfl⟩
  rintro _ ⟨d,vs,q7,yf,hd,hdt,hvl,hva,rfl⟩;refine Ex.test (Rn.text ?_)
  repeat' (first|refine yK (fN rfl hvl) hva ?_|refine cl (yR d (hd.small (by decide) (by decide) V)) ?_|refine gx ?_|fail)
  refine ⟨_,rfl,λh5=>?_,λh5=>?_⟩
  .repeat' (first|refine yK (fN rfl hvl) hva ?_|refine gx ?_|fail)
   exact kk ⟨_,_,A6 (j5 rfl) (j5 rfl),i+1,q7,d,yf,V,h5,hd,by rw [hdt];exact ht,rfl,rfl⟩
  .refine gr ?_
   exact kk ⟨_,_,A6 (j5 rfl) (j5 rfl),i+1,q7,c,yf,V,hv,hs2,ht,rfl,rfl⟩
 .refine gr ?_
  exact ⟨_,q3,rfl,kM,c,rfl,hv,hs.mono V V V,ht⟩
end
end Go.Proofs.YtibjocmpkoepoaaGreat


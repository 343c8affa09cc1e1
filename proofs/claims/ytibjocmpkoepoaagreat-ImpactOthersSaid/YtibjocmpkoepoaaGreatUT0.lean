import Derived.Test.YtibjocmpkoepoaaGreatUX0
import Derived.Test.YtibjocmpkoepoaaGreatUT4
set_option linter.all false
open Bool renaming and_eq_true→c9,false_eq_true→j6,not_eq_false'→B5,not_eq_true'→o3,or_eq_false_iff→C7,true→W,false→F
open List renaming cons_append→x7,drop_of_length_le→n5,getElem?_append_left→s9,getElem?_append_right→s5,getElem_of_mem→E9,length_append→k8,length_cons→o8,length_map→A1,length_singleton→D9,map_cons→E8,mem_append→A5,mem_singleton→L1,nil_append→y6,replicate→c8,replicate_succ→L3,set_cons_succ→o4,set_cons_zero→o5,set_eq_take_append_cons_drop→M1,take_of_length_le→s4,length→O
open Nat renaming le_of_ble_eq_true→j4,le_refl→j9,le_trans→p7,lt_or_ge→y7,mul_le_mul_right→E1,reduceAdd→K2,zero_le→x3
open Option renaming some→J,none→K
namespace Go.Proofs.YtibjocmpkoepoaaGreat
open Go.y9 Go.y9.S
attribute [local irreducible] Rx Ry Rn Ex Pf
theorem wQ {e:List R2}{ty:List Int}(h:x4 (J7 e ty).2 0=W):good (J7 e ty).1:=by
 unfold J7 at h ⊢;split at h
 .simp [o6] at h
 next a ha=>
  split at h
  .have hwf:a.wf:=by
    unfold dP at ha;split at ha
    .split at ha
     next b hb=>
      cases ha;exact (Q3 16 _ _ _ hb).2.1
     .cases ha
    .cases ha
   simp_all [DY]
  grind [o6]
theorem Qa {c:o9}{n:Nat}:∀(k i:Nat),br c n k i=0->∀j,i<=j->j<i+k->U6 c n j=0
 |0,i,_,j,h1,h2=>V
 |k+1,i,h,j,h1,h2=>by
  unfold br at h;cases he:x4 (U6 c n i) 0 with
  |false =>
   simp_all [Bool.not_false,if_true,o6]
  |true =>
   rw [he] at h
   by_cases hj:j=i
   .grind [W6]
   .exact Qa k (i+1) h j V V
theorem ep {c:o9}{k:Nat}(h:bF c k=0):1<=O (Y c.j7 k).o7/\O (Y c.j7 k).o7<=8/\∀x,x∈(Y c.j7 k).o7->good x.type:=by
 unfold bF at h;cases hc:(!p9 (O (Y c.j7 k).o7) 1 8|| !p9 (Y c.j7 k).erase 0 1|| !p9 (Y c.j7 k).Z7 0 1048576) with
 |true=>simp_all
 |false =>
  rw [hc] at h;simp [C7,B5,p9,c9,x6,decide_eq_true_eq] at hc;refine ⟨V,V,λx hx=>?_⟩;obtain ⟨j,hj,rfl⟩:=E9 hx;have h1:=Qa _ _ h j V V;rw [<- D6 hj];unfold U6 at h1
  by_cases hg:good (Y (Y c.j7 k).o7 j).type
  .exact hg
  .have ht:(!x4 (Y (Y c.j7 k).o7 j).type 1&& !x4 (Y (Y c.j7 k).o7 j).type 2)=W:=by
    unfold good at hg;simp [o6,c9,o3,beq_eq_false_iff_ne];omega
   grind
theorem mX {ty:List Int}:∀(l:List xS) (seen:List G4),V1 ty seen l=0->∀e,e∈l->(e.agg&&x4 e.f 0)=W\/x4 (J7 e.expr ty).2 0=W
 |[],_,_,e,he=>by cases he
 |a::l,seen,h,e,he=>by
  unfold V1 at h;split at h
  .omega
  .split at h
   .omega
   .split at h
    .omega
    .split at h
     next h0=>
      rcases List.mem_cons.1 he with rfl|he
      .exact .inl h0
      .exact mX l _ h e he
     .split at h
      .simp_all [o6]
      .split at h
       .omega
       .rcases List.mem_cons.1 he with rfl|he
        .simp_all
        .exact mX l _ h e he
theorem fo {c:o9}(hv:D0 c=W):∀(n k:Nat),k<n->k<o9.ns c->1<=O (O7 c k)/\O (O7 c k)<=8/\∀x,x∈O7 c k->good x
 |0,k,h,_=>V
 |n+1,k,h,hk=>by
  obtain ⟨h1,_,h3⟩:=Z1 hv;have hnl:=Q1 c;have he:=h1 k V
  rcases y7 k (O c.j7) with ht|ht
  .obtain ⟨a1,a2,a3⟩:=ep (S1 he ht)
   simp_all [O7,Y,P4.type,eP,if_pos,List.mem_map]
  .have sx:=bz he ht hk
   unfold S4 at sx;split at sx
   .omega
   .split at sx
    .omega
    next hl=>
     split at sx
     .omega
     next hsh=>
      simp only [Bool.not_eq_true,B5,o3,Bool.not_eq_false] at hsh;have hf:=J2 c (T1 c k).left k;split at sx
      next h2=>
       have e:O7 c k=O7 c (E5 c (T1 c k).left k).toNat:=by
        have h0:0<=E5 c (T1 c k).left k:=by
         simp_all [Bool.or_eq_true,y4,decide_eq_true_eq,not_or]
        conv=>lhs;unfold O7 eP
        rw [if_neg V,show (Y c.views (k - O c.j7))=T1 c k from rfl,if_pos h2,R6 c V]
       have h0:0<=E5 c (T1 c k).left k:=by
        simp_all [Bool.or_eq_true,y4,decide_eq_true_eq,not_or]
       rw [e];exact fo hv n _ V V
      next h2=>
       split at sx
       .simp_all [o6]
       .split at sx
        .simp_all [o6]
        .split at sx
         .omega
         .have e:O7 c k=W1 (T1 c k) (ins c k):=by
           unfold O7 eP;rw [if_neg V,show (Y c.views (k - O c.j7))=T1 c k from rfl,if_neg h2];rfl
          have hlen:1<=O (T1 c k).items+O (T1 c k).F6/\O (T1 c k).items+O (T1 c k).F6<=8:=by
           unfold Y6 gU at hsh;rw [if_neg h2] at hsh;split at hsh<;>simp only [c9,o3,C7,o6,beq_eq_false_iff_ne,x6,decide_eq_true_eq] at hsh<;>omega
          have hg:=mX _ _ sx;rw [e];refine ⟨by grind [W1],by grind [W1],λx hx=>?_⟩;simp only [W1,A5,List.mem_map] at hx
          rcases hx with ⟨y,hy,rfl⟩|⟨y,hy,rfl⟩
          .rcases hg ⟨F,y.name, -1,y.expr⟩ (List.mem_append_left _ (List.mem_map.2 ⟨y,hy,rfl⟩)) with h|h
           all_goals simp_all [wQ]
          .unfold rL
           split
           .exact .inl rfl
           next h0=>
            rcases hg ⟨W,y.name,y.func,y.expr⟩ (List.mem_append_right _ (List.mem_map.2 ⟨y,hy,rfl⟩)) with h|h
            all_goals simp_all [Bool.true_and,wQ]
theorem Cy {s:G4}:∀(l:List G4) (i:Nat),s∈l->(i:Int)<=F7 s l i/\F7 s l i<i+O l
 |[],_,h=>by cases h
 |x::r,i,h=>by
  simp only [F7];split
  .simp;omega
  next hx=>
   rcases List.mem_cons.1 h with rfl|h
   .simp [F3] at hx
   .have:=Cy r (i+1) h
    simp at this ⊢;omega
theorem NS {c:o9}(hv:D0 c=W){s:G4}(h:s∈o9.sn c):∃i:Nat,eV c s=(i:Int)/\i<o9.ns c:=by
 have hl:=S7 c;have h1:=Cy (o9.sn c) 0 h;have e:eV c s=F7 s (o9.sn c) 0:=by
  unfold eV E5;rw [hv,if_pos rfl,s4 V]
 rw [e];refine ⟨(F7 s (o9.sn c) 0).toNat,V,V⟩
theorem Lk {c:o9}(hv:D0 c=W){i:Nat}(hi:i<o9.ns c):X9 c i=W:=by
 unfold X9;rw [hv];simp [x6,y4];omega
end Go.Proofs.YtibjocmpkoepoaaGreat
namespace Go.y9.S
section
variable {A:Prog} {l:F9} {b:Nat}
variable {dr:Bool} {j8 ops:List x9} {T:List c7} {H:k9} {n:Nat} {rl:List c7} {l6:List Touch} {Q:List c7->k9->List c7->Prop}
theorem bq {op:BinOp}{a c r:Data}(h:H8 op a c=J r){x y:A3}{u:List Nat}(h2:Ry A l b dr j8 ops T H (n+1) (.d r::rl) l6 Q)(hx:rq T n rl x= .d a:=by rfl)(hy:rq T n rl y= .d c:=by rfl) :
  Ry A l b dr j8 (⟨.bin op x y,K,K,u⟩::ops) T H n rl l6 Q:=Ry.pure (rs:=[]) rfl (by simp only [l5,hx,hy,h]) h2
theorem ci {k k' :IntKind}{c d:Int}(h:k.wrap c=d){x:A3}{u:List Nat}(h2:Ry A l b dr j8 ops T H (n+1) (.d (.int k d)::rl) l6 Q)(hx:rq T n rl x= .d (.int k' c):=by rfl) :
  Ry A l b dr j8 (⟨.ox k x,K,K,u⟩::ops) T H n rl l6 Q:=Ry.pure (rs:=[]) rfl (by simp only [l5,hx,h]) h2
end
end Go.y9.S
namespace Go.Proofs.YtibjocmpkoepoaaGreat
open Go.y9 Go.y9.S
attribute [local irreducible] Rx Ry Rn Ex Pf
def tp (xs:List Int)(p:Nat):s6:= .cells [.d (s7 (λn=>[Z n]) xs),.d (Z (p:Int))]
theorem Tt (z:Int){n:Int}(h2:2<=n)(h3:n<=1000000):∃r q:Int,H8 .rem (.int .i64 z) (.int .i64 n)=J (.int .i64 q)/\ -n<q/\q<n/\H8 .rem (.int .i64 (q+n)) (.int .i64 n)=J (.int .i64 r)/\0<=r/\r<n:=by
 have h1:=Int.tmod_lt_of_pos z (show 0<n by omega);have h4: -n<z.tmod n:=by
  by_cases hz:z<0
  .have e:z.tmod n= -((-z).tmod n):=by rw [<- Int.neg_tmod,Int.neg_neg]
   have:=Int.tmod_lt_of_pos (-z) (show 0<n by omega);omega
  .have:=Int.tmod_nonneg (a:=z) n V
   omega
 have h5:=Int.tmod_lt_of_pos (z.tmod n+n) (show 0<n by omega);have h6:=Int.tmod_nonneg (a:=z.tmod n+n) n V;refine ⟨(z.tmod n+n).tmod n,z.tmod n,?_,h4,h1,?_,h6,h5⟩
 .simp [H8,Q8,W4];omega
 .simp [H8,Q8,W4];omega
theorem QI (o0:s6)(xs:List Int)(p:Nat)(n:Int)(l:F9)(hx:O xs<=35184372088832)(hp:p<=4 * O xs)(hn:n<=1000000)(hl:l.may 1=W) :
  Pq A 22 [.ptr 1 0,.d (Z n)] [o0,tp xs p] l λv H1=>∃(r:Int) (q:Nat),v= .d (Z r)/\0<=r/\(2<=n->r<n)/\(n<2->r=0)/\q<=4 * O xs/\H1=[o0,tp xs q]:=by
 unfold tp;have h0: -9223372036854775808<=(4:Int) * O xs/\(4:Int) * O xs<9223372036854775808:=V
 refine Pq.go 3 ?_;refine gr ?_;refine tB (D5 n 2||(x4 (O xs) 0||T5 (4 * O xs) p)) ?_ (λh=>?_) (λh=>?_)
 .repeat' (first|refine mu ?_ h0|refine gx ?_|refine fq (λhw=>?_) λhw=>?_|refine ⟨rfl,rfl,_,rfl,?_⟩|refine ⟨rfl,rfl⟩|fail)
  all_goals exact cc
 .refine gr ?_
  refine ⟨_,_,rfl,0,p,rfl,Int.le_refl _,λh=>V,λ_=>rfl,hp,rfl⟩
 have h' :=h;simp [y4,x6,o6] at h';obtain ⟨h1,h2,h3⟩:=h';have hlen:0<O xs:=by
  rcases Nat.eq_zero_or_pos (O xs) with e|e
  .exact absurd (List.eq_nil_of_length_eq_zero e) h2
  .exact e
 obtain ⟨i,hi,hb⟩:∃i:Nat,i<O xs/\H8 .rem (.int .i64 (p:Int)) (.int .i64 (O xs:Int))=J (.int .i64 (i:Int)) :=
  ⟨p % O xs,Nat.mod_lt _ hlen,by simp [H8,Q8,W4];exact ⟨V,rfl⟩⟩
 obtain ⟨s,hs,hq⟩:∃s:Nat,s<=4/\H8 .quo (.int .i64 (p:Int)) (.int .i64 (O xs:Int))=J (.int .i64 (s:Int)):=by
  have hd:p / O xs<=4:=Nat.div_le_of_le_mul (by rw [Nat.mul_comm];exact hp);have e:(p:Int).tdiv (O xs)=((p / O xs:Nat):Int):=rfl;generalize p / O xs=s at hd e;refine ⟨s,hd,?_⟩;have hne:¬ (O xs:Int)=0:=V
  simp only [H8,Q8,j6,if_false,if_true,W4,e,hne];have e2:IntKind.wrap .i64 (s:Int)=s:=Go.y9.wrap_small V V;exact congrArg (λz=>J (Data.int IntKind.i64 z)) e2
 repeat' (first|refine bq hb ?_|refine gx ?_|fail)
 repeat' (first|refine bq hq ?_|refine gx ?_|fail)
 refine Ex.xR (λst=>∃z:Int,st=⟨[.ptr 1 0,.d (Z n),.d (Z 0),.d (Z z),.d (Z (s:Int))],[o0,.cells [.d (s7 (λn=>[Z n]) xs),.d (Z (p:Int))]]⟩) ?_ ?_
 .have hc:IntKind.wrap .u64 (s:Int)=(s:Int):=by
   match s,hs with
   |0,_=>rfl
   |1,_=>rfl
   |2,_=>rfl
   |3,_=>rfl
   |4,_=>rfl
   |s+5,h=>omega
  have hsh:H8 .shr (.int .i64 (Y xs i)) (.int .u64 (s:Int))=J (.int .i64 ((Y xs i).fdiv (2 ^ (min s 64)))):=by simp [H8,Q8,uo];rfl
  obtain ⟨z,hz⟩:∃z,H8 .xor (.int .i64 ((Y xs i).fdiv (2 ^ (min s 64)))) (.int .i64 (s:Int))=J (.int .i64 z):=⟨_,by simp [H8,Q8,W4];rfl⟩;refine tb (D5 0 s) (λg=>?_) (λg=>?_)
  .repeat' (first|refine ci hc ?_|refine bq hsh ?_|refine bq hz ?_|refine gx ?_|fail)
   exact ⟨_,rfl⟩
  .refine gr ?_
   exact ⟨_,rfl⟩
 .rintro _ ⟨z,rfl⟩
  obtain ⟨r,q,r1,r2,r3,r4,r5,r6⟩:=Tt z (show 2<=n by omega) hn;refine gr ?_;refine so1 (hl:=hl) (hb:=x3 _) (hq:=Nat.lt_succ_self 1) (h2:=?_)
  repeat' (first|refine bq r1 ?_|refine bq r4 ?_|refine gx ?_|fail)
  refine ⟨_,_,rfl,r,p+1,rfl,r5,λ_=>r6,λh=>V,V,?_⟩;rfl
end Go.Proofs.YtibjocmpkoepoaaGreat
namespace Go.Proofs.YtibjocmpkoepoaaGreat
open Go.y9 Go.y9.S
attribute [local irreducible] Rx Ry Rn Ex Pf Rl
def l1:F9:=⟨0,0,2,2⟩
def Tq (xs:List Int)(o0:s6)(l:F9)(f:FuncId)(args:List c7)(q:Nat)(P:c7->Prop):Prop :=
 ∃v q',q' <=4 * O xs/\P v/\Pm A f args [o0,tp xs q] l v [o0,tp xs q']
section
variable {xs:List Int} {o0:s6} {l:F9} {b:Nat} {dr:Bool} {j8 ops:List x9} {T:List c7} {HD:k9} {k:Nat} {rl:List c7} {l6:List y9.Touch} {Q:List c7->k9->List c7->Prop} {f:FuncId} {args:List c7} {q:Nat} {P:c7->Prop} {os:List A3} {u:List Nat}
theorem Tq.go {af:p6}(n:Nat)(h:Ex A l1 2 af.body ⟨T,[o0,tp xs q]⟩ λx s=>∃w q',R4 af 2 (J (x,s))=J (w,[o0,tp xs q'])/\q' <=4 * O xs/\P w)
  (hf:A.fn f=J af:=by rfl) (hp:A.aB f=K:=by rfl) (hn:O args=af.nparams:=by rfl) (hT:args++c8 n .any=T:=by simp only [c8,x7,y6]<;>rfl) (hN:O af.names - O args=n:=by rfl):Tq xs o0 l1 f args q P:=by
 have:=Pq.go (A:=A) (l:=l1) (b:=2) (H:=[o0,tp xs q]) (Post:=λw H1=>∃q',H1=[o0,tp xs q']/\q' <=4 * O xs/\P w) n (h.mono λx s ⟨w,q',h1,h2,h3⟩=>⟨w,_,h1,q',rfl,h2,h3⟩) hf hp hn rfl hT hN;obtain ⟨v,_,⟨q',rfl,h1,h2⟩,p⟩:=this;exact ⟨v,q',h1,h2,p⟩
theorem tq (p:Tq xs o0 ⟨l.Ef,l.Ee,2,2⟩ f args q P)(h2:∀(v:c7) (q' :Nat),q' <=4 * O xs->P v->Ry A l b dr j8 ops T (o0::tp xs q' ::HD) (k+1) (v::rl) (.below 2::l6) Q)
  (ha:os.map (rq T k rl)=args:=by rfl) (hb:A2 args=2:=by rfl) (hs:l.strict=2:=by rfl) (ee:A.prom f=F:=by rfl) (hm:A.mode f=0:=by rfl) (hd:dr=W->Nat.ble (kf j8) k=W:=by intro;rfl) :
  Ry A l b dr j8 (⟨.call f os,K,K,u⟩::ops) T (o0::tp xs q::HD) k rl l6 Q:=by
 obtain ⟨v,q',h1,h3,p⟩:=p;have e:A6 (o0::tp xs q::HD) l.strict 2=2:=by simp [A6,hs]
 exact c0 (m:=2) p rfl (HD:=HD) (cQ:=by simp [hs,D3]) (hcl:=by rw [hs,hb];exact G9 (by simp [D3])) (jH:=by rw [e]) (hd:=hd) (ha:=ha) (ee:=ee) (hm:=hm) (h2:=h2 v q' h1 h3)
theorem lq' {na:Nat}{lg:List cT}(p:Tq xs o0 ⟨l.Ef,l.Ee,2,2⟩ f args q P)(h2:∀(v:c7) (q' :Nat),q' <=4 * O xs->P v->Rl A l b j8 ops T (o0::tp xs q' ::HD) (k+1) (v::rl) (.below 2::l6) na (⟨[],[.below 2],2,0⟩::lg) Q)
  (ha:os.map (rq T k rl)=args:=by rfl) (hb:A2 args=2:=by rfl) (hs:l.strict=2:=by rfl) (ee:A.prom f=F:=by rfl) (hm:A.mode f=0:=by rfl) :
  Rl A l b j8 (⟨.call f os,K,K,u⟩::ops) T (o0::tp xs q::HD) k rl l6 na lg Q:=by
 obtain ⟨v,q',h1,h3,p⟩:=p;have e:A6 (o0::tp xs q::HD) l.strict 2=2:=by simp [A6,hs]
 exact yc (m:=2) HD _ p rfl (by simp [hs,D3]) (by rw [hs,hb];exact G9 (by simp [D3])) rfl U (by rw [e]) rfl rfl (h2 v q' h1 h3) ha ee hm
theorem pN (hx:O xs<=35184372088832)(hq:q<=4 * O xs)(n:Int)(hn:1<=n/\n<=1000000)(hl:l.may 1=W):Tq xs o0 l 22 [.ptr 1 0,.d (Z n)] q λv=>∃r:Int,v= .d (Z r)/\0<=r/\r<n:=by
 obtain ⟨_,_,⟨r,q',rfl,h1,h2,h3,h4,rfl⟩,p⟩:=QI o0 xs q n l hx hq hn.2 hl;refine ⟨_,q',h4,⟨r,rfl,h1,?_⟩,p⟩
 rcases Int.lt_or_le n 2 with h5|h5
 .have:=h3 h5;omega
 .exact h2 h5
theorem nx {n:Int}(h2:∀(r:Int) (q' :Nat),q' <=4 * O xs->0<=r->r<n->Ry A l b dr j8 ops T (o0::tp xs q' ::HD) (k+1) (.d (Z r)::rl) (.below 2::l6) Q)
  (ha:os.map (rq T k rl)=[.ptr 1 0,.d (Z n)]:=by rfl) (hn:1<=n/\n<=1000000:=by omega) (hs:l.strict=2:=by rfl) (hm:l.may 1=W:=by rfl) (hd:dr=W->Nat.ble (kf j8) k=W:=by intro;rfl) (hx:O xs<=35184372088832:=by assumption) (hq:q<=4 * O xs:=by assumption) :
  Ry A l b dr j8 (⟨.call 22 os,K,K,u⟩::ops) T (o0::tp xs q::HD) k rl l6 Q :=
 tq (pN hx hq n hn hm) (by rintro _ q' Nl ⟨r,rfl,h3,h4⟩;exact h2 r q' Nl h3 h4) (ha:=ha) (hs:=hs) (hd:=hd)
theorem lx {n:Int}{na:Nat}{lg:List cT}(h2:∀(r:Int) (q' :Nat),q' <=4 * O xs->0<=r->r<n->Rl A l b j8 ops T (o0::tp xs q' ::HD) (k+1) (.d (Z r)::rl) (.below 2::l6) na (⟨[],[.below 2],2,0⟩::lg) Q)
  (ha:os.map (rq T k rl)=[.ptr 1 0,.d (Z n)]:=by rfl) (hn:1<=n/\n<=1000000:=by omega) (hs:l.strict=2:=by rfl) (hm:l.may 1=W:=by rfl) (hx:O xs<=35184372088832:=by assumption) (hq:q<=4 * O xs:=by assumption) :
  Rl A l b j8 (⟨.call 22 os,K,K,u⟩::ops) T (o0::tp xs q::HD) k rl l6 na lg Q :=
 lq' (pN hx hq n hn hm) (by rintro _ q' Nl ⟨r,rfl,h3,h4⟩;exact h2 r q' Nl h3 h4) (ha:=ha) (hs:=hs)
theorem tt {R:G6->St->Prop}{c:A3}{d e:K7}(h2:∀q',q' <=4 * O xs->Ex A l b d ⟨T,o0::tp xs q' ::HD⟩ R)(h3:∀q',q' <=4 * O xs->Ex A l b e ⟨T,o0::tp xs q' ::HD⟩ R)
  (h:Rn A l b ops dr T (o0::tp xs q::HD) λT' H' L=>T' =T/\(∃q',q' <=4 * O xs/\H' =o0::tp xs q' ::HD)/\∃t,F1 T' L c= .d (.bool t):=by (first|refine Rn.text ?_|refine Rn.draw ?_|fail);(repeat' (first|refine nx (λ_ _ _ _ _=>?_)|refine gx ?_|refine Bm (h2:=?_)|refine fq (λhw=>?_) λhw=>?_|exact ⟨rfl,⟨_,by assumption,rfl⟩,_,rfl⟩|fail))) :
  Ex A l b (.test ops dr c d e) ⟨T,o0::tp xs q::HD⟩ R:=Ex.XH _ h (by rintro _ ⟨q',h,rfl⟩;exact h2 q' h) (by rintro _ ⟨q',h,rfl⟩;exact h3 q' h)
end
theorem SP (n:Int):Pf A 110 [.d (Z n)] (.agg ((fQ ⟨1,n,[]⟩).enc.map .d)):=by
 refine Pf.go 1 ?_;refine gc (OQ ⟨1,n,[]⟩) ?_;exact ⟨_,rfl,rfl⟩
theorem ao1 (s:G4):Pf A 196 [.d (.str s)] (.agg ((fQ ⟨2,0,s⟩).enc.map .d)):=by
 refine Pf.go 1 ?_;refine gc (OQ ⟨2,0,s⟩) ?_;exact ⟨_,rfl,rfl⟩
def Yp (v:c7):Prop:=∃x:Vl,v= .agg (x.enc.map .d)
section
variable {xs:List Int} {o0:s6} {q:Nat} (hx:O xs<=35184372088832) (hq:q<=4 * O xs)
include hx hq
theorem Xu:Tq xs o0 l1 139 [.ptr 1 0] q Yp:=by
 refine Tq.go 1 ?_
 repeat' (first|refine bk Z [0,1,2,3, -1, -2,7,100,4294967296, -4294967296,5,4] ?_|refine cl (SP _) ?_|refine nx (λ_ _ _ _ _=>?_)|refine Bm (h2:=?_)|refine eN ?_|refine gx ?_|fail)
 exact ⟨_,_,rfl,by assumption,_,rfl⟩
theorem Xv:Tq xs o0 l1 140 [.ptr 1 0] q Yp:=by
 refine Tq.go 1 ?_
 repeat' (first|refine bk .str [[97],[98],[],[97,98],[97,32,98],[120,0,121],[255,34,92],[98,32,97,32,98],[108,111,110,103,32,116,101,120,116,32,111,102,32,116,104,105,114,116,121,45,116,119,111,32,98,121,116,101,115,32,105,116],[66]] ?_|refine cl (ao1 _) ?_|refine nx (λ_ _ _ _ _=>?_)|refine Bm (h2:=?_)|refine eN ?_|refine gx ?_|fail)
 exact ⟨_,_,rfl,by assumption,_,rfl⟩
theorem au9 (t:Int):Tq xs o0 l1 232 [.ptr 1 0,.d (Z t)] q Yp:=by
 refine Tq.go 1 ?_;refine gr ?_;refine tt (λq1 hq1=>?_) λq1 hq1=>?_
 .refine gr ?_
  exact ⟨_,_,rfl,hq1,⟨0,0,[]⟩,rfl⟩
 refine te trivial ?_ ?_
 .refine gr ?_
  refine tq (Xv hx hq1) ?_;rintro _ q2 gM ⟨x,rfl⟩;refine gr ?_;exact ⟨_,q2,rfl,gM,x,rfl⟩
 .refine gr ?_
  refine tq (Xu hx hq1) ?_;rintro _ q2 gM ⟨x,rfl⟩;refine gr ?_;exact ⟨_,q2,rfl,gM,x,rfl⟩
theorem Tp (t:Int):Tq xs o0 l1 176 [.ptr 1 0,.d (Z t)] q Yp:=by
 refine Tq.go 1 ?_;refine gr ?_;refine te trivial ?_ ?_
 .repeat' (first|refine bk .str [[97],[98],[99],[100]] ?_|refine nx (λ_ _ _ _ _=>?_)|refine Bm (h2:=?_)|refine eN ?_|refine gx ?_|fail)
  exact ⟨_,_,rfl,by assumption,⟨t,0,_⟩,rfl⟩
 .repeat' (first|refine nx (λ_ _ _ _ _=>?_)|refine Bm (h2:=?_)|refine eN ?_|refine gx ?_|fail)
  exact ⟨_,_,rfl,by assumption,⟨t,_,[]⟩,rfl⟩
end
theorem Rs (op:Int):iT op<=3:=by
 grind [iT]
def isE (m:Nat)(v:c7):Prop:=∃e:List R2,O e<=m/\(v=A8 5 R2.enc e\/v= .d (s7 R2.enc e))
def PE:Nat->Nat
 |0=>1
 |d+1=>1+3 * PE d
theorem Be:∀{d:Nat},d<=3->1<=PE d/\PE d<=40
 |0,_|1,_|2,_|3,_=>by decide
 |n+4,h=>V
theorem SI {a:Int}{n:Nat}(h:1<=n)(h0:0<=a)(h2:n<=100000):∃m:Int,H8 .rem (.int .i64 a) (.int .i64 (n:Int))=J (.int .i64 m)/\0<=m/\m<n :=
 ⟨a.tmod n,by grind [H8,Q8,W4],Int.tmod_nonneg _ h0,Int.tmod_lt_of_pos _ V⟩
def t93 (d:Nat)(ty:List Int)(want op a b:Int)(w:c7):List c7:=[.ptr 1 0,.d (Z ((d+1:Nat)+1)),.d (ints ty),.d (Z want),.own 5 0 [],.any,.any,.d (Z a),.d (Z b),.d (Z want),.d (Z op),.any,.any,.any,.d (Z op),w]
section
variable {xs:List Int} {o0:s6} {q:Nat} (hx:O xs<=35184372088832)
include hx
set_option maxHeartbeats 2000000 in
theorem Lr (ty:List Int)(h1:1<=O ty)(h2:O ty<=100000)(d9 want:Int){m:Nat}(hm:1<=m){q:Nat}(hq:q<=4 * O xs):Ex A l1 2 (match a93.body with| .seq _ (.seq (.test _ _ _ c _) _)=>c|c=>c)
  ⟨[.ptr 1 0,.d (Z d9),.d (ints ty),.d (Z want),.own 5 0 [],.any,.any,.any,.any,.any,.any,.any,.any,.any,.any,.any],[o0,tp xs q]⟩ λx s=>x= .ret/\∃w q',R4 a93 2 (J (x,s))=J (w,[o0,tp xs q'])/\q' <=4 * O xs/\isE m w:=by
 refine gr ?_;refine nx λr q1 hq1 r0 r1=>?_
 refine gr ?_;refine Ex.J4 (λk T' H' =>∃(i q:Nat),q<=4 * O xs/\i+k=O ty/\T' =[.ptr 1 0,.any,.d (ints ty),.d (Z want),.any,.d (Z r),.d (Z i),.any,.any,.any,.any,.any,.any,.any,.any,.any]/\H' =[o0,tp xs q]) ?_ (k:=O ty) ⟨0,q1,hq1,V,rfl,rfl⟩;rintro k _ _ ⟨i,q2,gM,hk,rfl,rfl⟩;refine Ex.seq ?_;refine tl i (O ty) (λh3=>?_) (λh3=>?_)
 .obtain ⟨j,hj,j0,j1⟩:=SI h1 (show 0<=r+i by omega) h2
  refine gr ?_;refine Ex.test (Rn.text ?_)
  repeat' (first|refine bq hj ?_|refine gx ?_|fail)
  refine fk (h1:=λhw=>?_) (h2:=λhw=>?_)
  .refine gr ?_
   refine nx λs q3 jQ s0 s1=>?_
   refine gr ?_;refine ⟨_,rfl,λh=>?_,λh=>?_⟩
   .repeat' (first|refine bq hj ?_|refine oN (enc:=R2.enc) ⟨2,0,0,[],j⟩ ?_|refine gx ?_|fail)
    exact ⟨rfl,_,q3,rfl,jQ,[⟨2,0,0,[],j⟩],hm,.inl rfl⟩
   .refine gr ?_
    exact kk ⟨i+1,q3,jQ,V,rfl,rfl⟩
  .refine gr ?_
   refine ⟨_,rfl,λh=>?_,λh=>?_⟩
   .cases h
   .refine gr ?_
    exact kk ⟨i+1,q2,gM,V,rfl,rfl⟩
 .refine gr ?_
  refine te trivial ?_ ?_
  .refine gr ?_
   refine tq (Xu hx gM) ?_;rintro _ q3 jQ ⟨x,rfl⟩
   repeat' (first|refine oN (enc:=R2.enc) ⟨1,x.k,x.n,x.t,0⟩ ?_|refine gx ?_|fail)
   exact ⟨rfl,_,q3,rfl,jQ,[⟨1,x.k,x.n,x.t,0⟩],hm,.inl rfl⟩
  .refine gr ?_
   refine tq (Xv hx gM) ?_;rintro _ q3 jQ ⟨x,rfl⟩
   repeat' (first|refine oN (enc:=R2.enc) ⟨1,x.k,x.n,x.t,0⟩ ?_|refine gx ?_|fail)
   exact ⟨rfl,_,q3,rfl,jQ,[⟨1,x.k,x.n,x.t,0⟩],hm,.inl rfl⟩
set_option maxHeartbeats 4000000 in
theorem q93 (ty:List Int)(h1:1<=O ty)(h2:O ty<=100000):∀(d:Nat),d<=3->∀(d9 want:Int) (q:Nat),q<=4 * O xs->d9=d+1->Tq xs o0 l1 93 [.ptr 1 0,.d (Z d9),.d (ints ty),.d (Z want)] q (isE (PE d)):=by
 intro d
 induction d with
 |zero =>
  rintro _ d9 want q hq rfl;refine Tq.go 12 ?_;refine gr ?_;refine Ex.test (Rn.text ?_);refine gr ?_;refine fk (h1:=λhw=>?_) (h2:=λhw=>?_)
  .refine gr ?_
   exact ⟨_,rfl,λ_=>(Lr hx ty h1 h2 _ _ (j9 _) hq).mono λ_ _ ⟨h,h'⟩=>h ▸ h',λh=>by cases h⟩
  .have:=kI hw
   omega
 |succ d ih =>
  rintro hd d9 want q hq rfl;have hz:=Be (d:=d+1) V;refine Tq.go 12 ?_;refine gr ?_;refine Ex.test (Rn.text ?_);refine gr ?_;refine fk (h1:=λhw=>?_) (h2:=λhw=>?_)
  .have:=ej hw
   omega
  refine gr ?_;refine nx λr q1 hq1 _ _=>?_
  refine gr ?_;refine ⟨_,rfl,λ_=>(Lr hx ty h1 h2 _ _ hz.1 hq1).mono λ_ _ ⟨h,h'⟩=>h ▸ h',λ_=>?_⟩
  repeat' (first|refine bk Z [17,18,8,10] ?_|refine gx ?_|fail)
  refine nx λr q2 gM r0 r1=>?_
  repeat' (first|refine Bm (h2:=?_)|refine gx ?_|fail)
  refine Ex.xR (λst=>∃(op:Int) (q:Nat),q<=4 * O xs/\st=⟨[.ptr 1 0,.d (Z ((d+1:Nat)+1)),.d (ints ty),.d (Z want),.own 5 0 [],.any,.any,.d (Z want),.d (Z want),.d (Z want),.d (Z op),.any,.any,.any,.any,.any],[o0,tp xs q]⟩) ?_ ?_
  .refine te trivial ?_ ?_
   .repeat' (first|refine bk Z [3,4,5,6,7,9,11,12,13,14,15,16,17,18] ?_|refine gx ?_|fail)
    refine nx λr q3 jQ r0 r1=>?_
    repeat' (first|refine Bm (h2:=?_)|refine gx ?_|fail)
    exact ⟨_,q3,jQ,rfl⟩
   .refine gr ?_
    exact ⟨_,q2,gM,rfl⟩
  rintro _ ⟨op,q3,jQ,rfl⟩;refine gr ?_;refine Ex.Hw (λst=>∃(a b:Int) (q:Nat) (w:c7),q<=4 * O xs/\st=⟨t93 d ty want op a b w,[o0,tp xs q]⟩) ?_ ?_
  .refine te trivial ?_ (te trivial ?_ (te trivial ?_ (Ex.seq ?_)))
   .refine gr ?_
    exact ⟨1,_,q3,_,jQ,rfl⟩
   .refine gr ?_
    exact ⟨_,1,q3,_,jQ,rfl⟩
   .refine gr ?_
    exact ⟨2,_,q3,_,jQ,rfl⟩
   .refine Ex.xR (λst=>∃t,st=⟨t93 d ty want op want want (.d (.bool t)),[o0,tp xs q3]⟩) ?_ ?_
    .refine gr ?_
     refine Ex.cond rfl (λ_=>Ex.skip ⟨_,rfl⟩) (λ_=>?_);refine gr ?_;refine Ex.cond rfl (λ_=>Ex.skip ⟨_,rfl⟩) (λ_=>?_);refine gr ?_;exact ⟨_,rfl⟩
    .rintro _ ⟨t,rfl⟩
     unfold t93;refine Ex.cond rfl (λ_=>?_) (λ_=>Ex.skip ⟨_,_,q3,_,jQ,rfl⟩);refine gr ?_;refine nx λr q4 qn r0 r1=>?_
     refine gr ?_;exact ⟨_,_,q4,_,qn,rfl⟩
  rintro _ ⟨a,b,q4,w,qn,rfl⟩;unfold t93
  repeat' (first|refine Ry.pure (v:=A8 1 (λn=>[Z n]) [a,b,want]) (rs:=[]) rfl (by rfl) ?_|refine oN (enc:=R2.enc) ⟨op,0,0,[],0⟩ ?_|refine gx ?_|fail)
  refine Ex.J4 (λk T' H' =>∃(i q:Nat) (e:List R2),q<=4 * O xs/\i+k=3/\O e<=1+i * PE d/\T' =[.ptr 1 0,.d (Z ((d+1:Nat)+1)),.d (ints ty),.any,.any,.any,.any,.any,.any,.any,.d (Z op),A8 5 R2.enc e,A8 1 (λn=>[Z n]) [a,b,want],.d (Z i),.any,.any]/\H' =[o0,tp xs q]) ?_ (k:=3) ⟨0,q4,[⟨op,0,0,[],0⟩],qn,V,U,rfl,rfl⟩;rintro k _ _ ⟨i,q5,e,vm,hk,he,rfl,rfl⟩;have ha:=Rs op;have Cu:PE (d+1)=1+3 * PE d:=rfl;have hz3:i * PE d<=3 * PE d:=E1 _ V;refine Ex.seq ?_;refine tc (D5 i (iT op)) (Hi op) (λh=>?_) (λh=>?_)
  .have h:=A7 h
   repeat' (first|refine Bm (h2:=?_)|refine gx ?_|fail)
   refine tq (ih V ((d+1:Nat)+1 - 1) _ q5 vm V) ?_;rintro _ q6 GL ⟨e2,he2,rfl|rfl⟩
   all_goals
    refine gr ?_;exact kk ⟨i+1,q6,e++e2,GL,V,by rw [k8,Nat.succ_mul];omega,rfl,rfl⟩
  .refine gr ?_
   exact ⟨_,q5,rfl,vm,e,V,.inr rfl⟩
end
theorem QH (s:G4)(hs:O s<=1000){n:Int}(hn:0<=n)(h2:n<=1000000):∃c,Pf A 41 [.d (.str s),.d (Z n)] (.d (.str (s++[c]))):=by
 obtain ⟨m,hm,m0,m1⟩:∃m:Int,H8 .rem (Z n) (Z 10)=J (.int .i64 m)/\0<=m/\m<10 :=
  ⟨n.tmod 10,by rfl,Int.tmod_nonneg _ hn,Int.tmod_lt_of_pos _ V⟩
 have hw:IntKind.wrap .u8 (48+m)=48+m:=by
  have:m=0\/m=1\/m=2\/m=3\/m=4\/m=5\/m=6\/m=7\/m=8\/m=9:=V
  rcases this with rfl|rfl|rfl|rfl|rfl|rfl|rfl|rfl|rfl|rfl<;>rfl
 refine ⟨UInt8.ofNat (48+m).toNat,?_⟩;have hb:H8 .add (.str s) (.str [UInt8.ofNat (48+m).toNat])=J (.str (s++[UInt8.ofNat (48+m).toNat])):=by grind [H8,qq]
 refine Pf.go 1 ?_
 repeat' (first|refine bq hm ?_|refine ci hw ?_|refine Ry.pure (v:= .d (.str [UInt8.ofNat (48+m).toNat])) (rs:=[]) rfl (by rfl) ?_|refine bq hb ?_|refine gx ?_|fail)
 exact ⟨_,rfl,rfl⟩
section
variable {xs:List Int} {o0:s6} {q:Nat} (hx:O xs<=35184372088832) (hq:q<=4 * O xs)
include hx hq
theorem q94 (ty:List Int)(h1:1<=O ty)(h2:O ty<=100000)(n:Int)(hn:1<=n/\n<=10):Tq xs o0 l1 94 [.ptr 1 0,.d (ints ty),.d (Z n),.d (Z 0)] q λv=>∃l:List tM,v= .d (s7 tM.enc l)/\O l<=n/\∀x∈l,O x.expr<=100:=by
 refine Tq.go 3 ?_;refine gr ?_;refine nx λr q1 hq1 r0 r1=>?_
 refine gr ?_;refine Ex.J4 (λk T' H' =>∃(m:Int) (q:Nat) (l:List tM),q<=4 * O xs/\m=k/\O l+k<=n/\(∀x∈l,O x.expr<=100)/\T' =[.ptr 1 0,.d (ints ty),.any,.d (Z 0),.any,A8 2 tM.enc l,.d (Z m)]/\H' =[o0,tp xs q]) ?_ (k:=(1+r).toNat) ⟨1+r,q1,[],hq1,V,D,U,rfl,rfl⟩;rintro k _ _ ⟨m,q2,l,gM,hm,hl,hle,rfl,rfl⟩;refine Ex.seq ?_;refine tl 0 m (λh=>?_) (λh=>?_)
 .obtain ⟨c,QH⟩:=QH [120] (by decide) (n:=0+O l) V V
  refine gc QH ?_;refine nx λr2 q3 jQ s0 s1=>?_
  refine gr ?_;refine nx λr3 q4 qn t0 t1=>?_
  refine gr ?_;refine tq (q93 hx ty h1 h2 r2.toNat V (1+r2) _ _ qn V) ?_;have hz:=Be (d:=r2.toNat) V;rintro _ q5 vm ⟨e,he,rfl|rfl⟩
  all_goals
   repeat' (first|refine oN (enc:=tM.enc) ⟨[120]++[c],e⟩ ?_|refine Ew (enc:=tM.enc) (ys:=[⟨[120]++[c],e⟩]) (h2:=?_)|refine gx ?_|fail)
   refine kk ⟨m - 1,q5,l++[⟨[120]++[c],e⟩],vm,V,D,?_,rfl,rfl⟩
   grind
 .refine gr ?_
  exact ⟨_,q2,rfl,gM,l,rfl,V,hle⟩
end
end Go.Proofs.YtibjocmpkoepoaaGreat
namespace Go.y9
theorem lD :∀l:List Data,A2 (l.map .d)=0
 |[]=>rfl
 |_::l=>by simp [A2,c7.F4,lD l]
end Go.y9
namespace Go.y9.S
theorem xF {A:Prog}{l:F9}{b:Nat}{dr:Bool}{j8 ops:List x9}{T:List c7}{H:k9}{n:Nat}{rl:List c7}{l6:List Touch}{Q:List c7->k9->List c7->Prop}{x:A3}{u:List Nat}{id o m:Nat}{vs ws:List c7}(hr:rd H id o m=J vs)(hv:vs.map c7.I7=ws)(h2:Ry A l b dr j8 ops T H (n+1) (.agg ws::rl) l6 Q)(hx:rq T n rl x= .ptr id o:=by rfl) :
  Ry A l b dr j8 (⟨.load (J m) x,K,K,u⟩::ops) T H n rl l6 Q:=Ry.pure (rs:=[id]) rfl (by simp_all [l5]) h2
end Go.y9.S
namespace Go.Proofs.YtibjocmpkoepoaaGreat
open Go.y9 Go.y9.S
attribute [local irreducible] Rx Ry Rn Ex Pf Rl
structure Uz (v:Vw):Prop where
 on:O v.on<=100
 wh:O v.wh<=100
 items:O v.items<=100
 CD:∀x,x∈v.items->O x.expr<=100
 F6:O v.F6<=100
 JS:∀x,x∈v.F6->O x.expr<=100
def UO (p:Int×Int):List y9.Data:=[Z p.1,Z p.2]
def Ou {α:Type}(enc:α->List y9.Data)(l:List α)(w:c7):Prop:=w.I7= .d (s7 enc l)/\w.F4=0
def vL (nm:G4)(kd:Int)(lf rt:G4)(on:List (Int×Int))(w5 w6:c7)(ds:Bool)(ag:List sZ):List c7:=[.d (.str nm),.d (Z kd),.d (.str lf),.d (.str rt),A8 2 UO on,w5,w6,.d (.bool ds),A8 3 sZ.enc ag]
def vO (nm:G4)(kd:Int)(lf rt:G4)(on:List (Int×Int))(w5 w6:c7)(ds:Bool)(ag:List sZ):s6:= .cells (vL nm kd lf rt on w5 w6 ds ag)
def t38 (c:o9)(w6 w7 w8 w9 rG El Em En:c7):List c7:=[.ptr 1 0,cat c,.d (s7 encS (o9.sn c)),.ptr 2 0,.ptr 3 0,.ptr 4 0,w6,w7,w8,w9,rG,El,Em,En]
def Rf (ins:List Int)(m:Int)(Em En:c7):List c7:=[.ptr 1 0,.any,.any,.any,.ptr 3 0,.ptr 4 0,.any,A8 1 (λn=>[Z n]) ins,.any,.any,.any,.d (Z m),Em,En]
def z9:s6:= .cells [.d (.str []),.d (Z 0),.d (.str []),.d (.str []),.own 2 0 [],.own 5 0 [],.own 2 0 [],.d (.bool F),.own 3 0 []]
theorem FP {nm lf rt:G4}{kd:Int}{on:List (Int×Int)}{wh:List R2}{it:List tM}{w5 w6:c7}{ds:Bool}{ag:List sZ}(h5:Ou R2.enc wh w5)(h6:Ou tM.enc it w6):(vL nm kd lf rt on w5 w6 ds ag).map c7.I7=(Vw.enc ⟨nm,kd,lf,rt,on,wh,it,ds,ag⟩).map .d:=by
 simp [vL,E8,h5.1,h6.1];rfl
theorem MT {c:o9}(hs:E7 c)(hv:D0 c=W){s:G4}(h:s∈o9.sn c):∃(n:Int) (ty:List Int),(1<=O ty/\O ty<=8)/\Pf A 86 [cat c,.d (.str s)] (.d (Z n))/\Pf A 20 [cat c,.d (Z n)] (.d (ints ty)):=by
 obtain ⟨i,e,hi⟩:=NS hv h;have p:=Td c hs s;have g:=fo hv (i+1) i V hi
 grind [WW,Lk]
section
variable {xs:List Int} {o0:s6} {q:Nat} (hx:O xs<=35184372088832) (hq:q<=4 * O xs)
include hx hq
set_option maxHeartbeats 4000000 in
theorem q38 (c:o9)(hs:E7 c)(hv:D0 c=W)(hn:1<=O c.j7):Tq xs o0 l1 38 [.ptr 1 0,cat c,.d (s7 encS (o9.sn c))] q λv=>∃w:Vw,v= .agg (w.enc.map .d)/\Uz w:=by
 have vj:=hs.sm.eD;have qo:=S7 c;unfold o9.ns at qo;obtain ⟨f0,f1,_⟩:=vj;obtain ⟨nm,pn⟩:=QH [118] (by decide) (n:=O c.views) V V;refine Tq.go 11 ?_;refine gr ?_;refine Ex.region (rg 1 (h:=?_));refine gm ?_;refine yl pn ?_;refine yp _ (pBk Z [0,0,0,1,1,2]) ?_;refine gm ?_;refine lx λr q1 hq1 r0 r1=>?_
 refine gm ?_;refine lx λr2 q2 gM s0 s1=>?_
 refine gm ?_;obtain ⟨kd,hkd⟩:∃kd,Y [(0:Int),0,0,1,1,2] r.toNat=kd:=⟨_,rfl⟩;have hlf:=C5 (show r2.toNat<O (o9.sn c) by omega);obtain ⟨lf,hle⟩:∃lf,Y (o9.sn c) r2.toNat=lf:=⟨_,rfl⟩;rw [hkd,hle];rw [hle] at hlf;refine Ex.nS (t38 c .any .any .any .any .any .any .any .any) [o0,tp xs q2,.cells (c.enc.map .d),z9,vO ([118]++[nm]) kd lf [] [] (.own 5 0 []) (.own 2 0 []) F []] ?_;obtain ⟨nm,hnm⟩:∃n,[118]++[nm]=n:=⟨_,rfl⟩;rw [hnm];refine Ex.seq ?_;refine Ex.block ?_;refine Ex.VW (λst=>∃(rt:G4) (q:Nat),q<=4 * O xs/\(rt=[]\/rt∈o9.sn c)/\st=⟨t38 c .any .any .any .any .any .any .any .any,[o0,tp xs q,.cells (c.enc.map .d),z9,vO nm kd lf rt [] (.own 5 0 []) (.own 2 0 []) F []]⟩) ?_ ?_
 .unfold t38 vO vL
  refine te trivial ?_ ?_
  .repeat' (first|refine xF (vs:=vL nm kd lf _ [] (.own 5 0 []) (.own 2 0 []) F []) rfl (FP (wh:=[]) (it:=[]) ⟨rfl,rfl⟩ ⟨rfl,rfl⟩) ?_|refine nx (λ_ _ _ _ _=>?_)|refine Bm (h2:=?_)|refine eN ?_|refine gx ?_|fail)
   exact ⟨_,_,rfl,by assumption,_,rfl,U,U,U,U,U,U⟩
  refine tt (λq3 jQ=>?_) λq3 jQ=>?_
  .repeat' (first|refine nx (λ_ _ _ _ _=>?_)|refine Bm (h2:=?_)|refine eN ?_|refine gx ?_|fail)
   exact ⟨_,_,by assumption,.inr (C5 V),rfl⟩
  refine tt (λq4 qn=>?_) λq4 qn=>?_
  .refine Ex.region (rg 0 (h:=?_))
   refine gm ?_;refine lx λr5 q5 vm t0 t1=>?_
   refine gm ?_;exact ⟨_,_,by assumption,.inr (List.mem_append_left _ (List.mem_map_of_mem (C5 V))),rfl⟩
  .exact Ex.skip ⟨_,_,qn,.inl rfl,rfl⟩
 rintro _ ⟨rt,q3,jQ,Lb,rfl⟩;obtain ⟨n1,ty,⟨ty0,ty1⟩,pl1,pl2⟩:=MT hs hv hlf;unfold t38 vO vL;refine gc (And.intro pl1 pl2) ?_;refine Ex.join (λst=>∃(ins:List Int) (on:List (Int×Int)) (w8 w9 rG:c7) (q:Nat),q<=4 * O xs/\1<=O ins/\O ins<=16/\O on<=1/\st=⟨t38 c (.d (ints ty)) (A8 1 (λn=>[Z n]) ins) w8 w9 rG .any .any .any,[o0,tp xs q,.cells (c.enc.map .d),z9,vO nm kd lf rt on (.own 5 0 []) (.own 2 0 []) F []]⟩) ?_ ?_
 .rcases Lb with rfl|Lb
  .refine tc F trivial (λh=>by cases h) (λ_=>?_)
   exact Ex.skip ⟨ty,[],_,_,_,q3,jQ,ty0,V,U,rfl⟩
  refine te trivial ?_ (Ex.skip ⟨ty,[],_,_,_,q3,jQ,ty0,V,U,rfl⟩);obtain ⟨n2,ty2,⟨tz0,tz1⟩,pr1,pr2⟩:=MT hs hv Lb
  repeat' (first|refine cl (pr1) ?_|refine cl (pr2) ?_|refine nx (λ_ _ _ _ _=>?_)|refine Bm (h2:=?_)|refine eN ?_|refine gx ?_|fail)
  refine tt (λq4 qn=>?_) λq4 qn=>?_
  .repeat' (first|refine oN (enc:=UO) (_,_) ?_|refine Bp (h2:=?_)|refine gx ?_|fail)
   exact ⟨ty++ty2,[(_,_)],_,_,_,q4,qn,D,D,U,rfl⟩
  .exact Ex.skip ⟨ty++ty2,[],_,_,_,q4,qn,D,D,U,rfl⟩
 rintro _ ⟨ins,on,w8,w9,rG,q4,qn,i0,i1,ho,rfl⟩;refine Ex.seq ?_;refine Ex.join (λst=>∃(e:List R2) (w5:c7) (q:Nat),q<=4 * O xs/\O e<=100/\Ou R2.enc e w5/\st=⟨t38 c (.d (ints ty)) (A8 1 (λn=>[Z n]) ins) w8 w9 rG .any .any .any,[o0,tp xs q,.cells (c.enc.map .d),z9,vO nm kd lf rt on w5 (.own 2 0 []) F []]⟩) ?_ ?_
 .unfold t38 vO vL
  refine tt (λq5 vm=>?_) λq5 vm=>Ex.skip ⟨[],_,q5,vm,U,⟨rfl,rfl⟩,rfl⟩
  refine gr ?_;refine nx λr q6 GL r0 r1=>?_
  refine gr ?_;refine tq (q93 hx ins i0 V (1+r.toNat) V (2+r) _ _ GL V) ?_;have hz:=Be (d:=1+r.toNat) V;rintro _ q7 wZ ⟨e,he,rfl|rfl⟩
  all_goals
   repeat' (first|refine Bp (h2:=?_)|refine gx ?_|fail)
   exact ⟨e,_,q7,wZ,V,⟨rfl,rfl⟩,rfl⟩
 rintro _ ⟨wh,w5,q5,vm,Yn,h5,rfl⟩;unfold t38 vO vL;refine Ex.seq ?_;refine te trivial ?_ ?_
 .refine gr ?_
  refine tq (q94 hx vm ins i0 V 3 V) ?_;rintro _ q6 GL ⟨it,rfl,hi,hie⟩
  repeat' (first|refine xF (vs:=vL nm kd lf rt on w5 (.d (s7 tM.enc it)) _ []) rfl (FP (it:=it) h5 ⟨rfl,rfl⟩) ?_|refine nx (λ_ _ _ _ _=>?_)|refine Bm (h2:=?_)|refine eN ?_|refine gx ?_|fail)
  exact ⟨_,_,rfl,by assumption,_,rfl,by simp only;omega,Yn,by simp only;omega,λx h=>hie x h,U,U⟩
 refine Ex.skip ?_;refine Ex.seq ?_;refine Ex.join (λst=>∃(it:List tM) (w6:c7) (q:Nat),q<=4 * O xs/\O it<=100/\(∀x∈it,O x.expr<=100)/\Ou tM.enc it w6/\st=⟨t38 c (.d (ints ty)) (A8 1 (λn=>[Z n]) ins) w8 w9 rG .any .any .any,[o0,tp xs q,.cells (c.enc.map .d),z9,vO nm kd lf rt on w5 w6 F []]⟩) ?_ ?_
 .refine tt (λq6 GL=>?_) λq6 GL=>Ex.skip ⟨[],_,q6,GL,U,U,⟨rfl,rfl⟩,rfl⟩
  refine gr ?_;refine tq (q94 hx GL ins i0 V 2 V) ?_;rintro _ q7 wZ ⟨it,rfl,hi,hie⟩;refine gr ?_;exact ⟨it,_,q7,wZ,V,hie,⟨rfl,rfl⟩,rfl⟩
 rintro _ ⟨it,w6,q6,GL,hi,hie,h6,rfl⟩;unfold t38;refine gr ?_;refine nx λr q7 wZ r0 r1=>?_
 refine gr ?_;refine Ex.L9 (λk T' H' =>∃(m:Int) (q:Nat) (ag:List sZ),q<=4 * O xs/\m=k/\O ag+k<=3/\(∀x∈ag,O x.expr<=100)/\T' =Rf ins m .any .any/\H' =[o0,tp xs q,.cells (c.enc.map .d),z9,vO nm kd lf rt on w5 w6 F ag]) ?_ (k:=(1+r).toNat) ⟨1+r,q7,[],wZ,V,D,U,rfl,rfl⟩;rintro k _ _ ⟨m,q8,ag,JD,hm,hl,hae,rfl,rfl⟩;unfold Rf vO vL;refine Ex.seq ?_;refine tl 0 m (λh=>?_) (λh=>?_)
 .obtain ⟨c1,pn⟩:=QH [121] (by decide) (n:=O ag) V V
  obtain ⟨nn,Aq⟩:∃n,[121]++[c1]=n:=⟨_,rfl⟩;rw [Aq] at pn;refine gc pn ?_;refine nx λf q9 Qs _ _=>?_
  repeat' (first|refine qm (cs:=[.d (.str nn),.d (Z f),.own 5 0 []]) ?_|refine gx ?_|fail)
  refine Ex.join (λst=>∃(f:Int) (q:Nat),q<=4 * O xs/\st=⟨Rf ins m (.ptr 5 0) .any,[o0,tp xs q,.cells (c.enc.map .d),z9,vO nm kd lf rt on w5 w6 F ag,.cells [.d (.str nn),.d (Z f),.own 5 0 []]]⟩) ?_ ?_
  .refine tt (λq9 Qs=>?_) λq9 Qs=>Ex.skip ⟨_,q9,Qs,rfl⟩
   refine gr ?_;exact ⟨0,q9,Qs,rfl⟩
  rintro _ ⟨f,q9,Qs,rfl⟩;unfold Rf vO vL;refine Ex.seq ?_;refine Ex.join (λst=>∃(e:List R2) (w2 En:c7) (q:Nat),q<=4 * O xs/\O e<=100/\Ou R2.enc e w2/\st=⟨Rf ins m (.ptr 5 0) En,[o0,tp xs q,.cells (c.enc.map .d),z9,vO nm kd lf rt on w5 w6 F ag,.cells [.d (.str nn),.d (Z f),w2]]⟩) ?_ ?_
  .refine te trivial ?_ (Ex.skip ⟨[],_,_,q9,Qs,U,⟨rfl,rfl⟩,rfl⟩)
   refine gr ?_;refine nx λt q10 VA t0 t1=>?_
   refine gr ?_;refine Ex.join (λst=>∃t:Int,st=⟨Rf ins m (.ptr 5 0) (.d (Z t)),[o0,tp xs q10,.cells (c.enc.map .d),z9,vO nm kd lf rt on w5 w6 F ag,.cells [.d (.str nn),.d (Z f),.own 5 0 []]]⟩) ?_ ?_
   .refine te trivial ?_ (Ex.skip ⟨_,rfl⟩)
    refine gr ?_;exact ⟨1,rfl⟩
   rintro _ ⟨t,rfl⟩;unfold Rf vO vL;refine gr ?_;refine nx λr q11 ai5 r0 r1=>?_
   refine gr ?_;refine tq (q93 hx ins i0 V r.toNat V (1+r) _ _ ai5 V) ?_;have hz:=Be (d:=r.toNat) V;rintro _ q12 ai6 ⟨e,he,rfl|rfl⟩
   all_goals
    repeat' (first|refine Bp (h2:=?_)|refine gx ?_|fail)
    exact ⟨e,_,_,q12,ai6,V,⟨rfl,rfl⟩,rfl⟩
  rintro _ ⟨e,w2,En,q10,VA,he,h2,rfl⟩;unfold Rf vO vL;have hv:[c7.d (.str nn),.d (Z f),w2].map c7.I7=(sZ.enc ⟨nn,f,e⟩).map .d:=by
   simp only [E8,List.map_nil,h2.1];rfl
  repeat' (first|refine xF (vs:=[.d (.str nn),.d (Z f),w2]) rfl hv ?_|refine oN (enc:=sZ.enc) ⟨nn,f,e⟩ ?_|refine XS (enc:=sZ.enc) (xs:=ag) ⟨nn,f,e⟩ (Tw V (by decide)) (h2:=?_)|refine Bp (h2:=?_)|refine gx ?_|fail)
  refine kk ⟨_,_,B2 (j4 rfl) ?_,m - 1,q10,ag++[⟨nn,f,e⟩],VA,V,D,?_,rfl,rfl⟩
  .show D3 [.cells (c.enc.map .d),z9,vO nm kd lf rt on w5 w6 F _]<=5
   simp [D3,vO,vL,z9,s6.F4,A2,c7.F4,h5.2,h6.2,lD,A8]
  .intro x hx
   rcases A5.1 hx with hx|hx
   .exact hae x hx
   .rw [L1] at hx
    rw [hx];exact he
 .repeat' (first|refine xF (vs:=vL nm kd lf rt on w5 w6 F ag) rfl (FP h5 h6) ?_|refine gx ?_|fail)
  exact ⟨_,q8,rfl,JD,⟨nm,kd,lf,rt,on,wh,it,F,ag⟩,rfl,by simp only;omega,Yn,hi,hie,by simp only;omega,hae⟩
end
structure Uy (t:cw):Prop where
 n:O t.o7<=100
 o:∀x,x∈t.o7->O x.C6<=200
structure gY (c:o9)(a b n:Nat):Prop where
 tl:O c.j7<=a
 vl:O c.views<=b
 ts:∀x,x∈c.j7->Uy x
 vs:∀x,x∈c.views->Uz x
 il:O c.idxs<=n
 sl:O c.G7<=n
 cl:O c.I5<=n
 rl:O c.J5<=n
 ml:O c.J6<=n
 bl:O c.L4<=n
 bk:∀x,x∈c.L4->O x.tables<=100
theorem gY.small {c:o9}{a b n:Nat}(h:gY c a b n)(ha:a<=100)(hb:b<=100)(hn:n<=100):E7 c:=by
 obtain ⟨h1,h2,h3,h4,h5,h6,h7,h8,h9,RO,UU⟩:=h;refine ⟨⟨⟨V,V,V,V,V,V,V,V⟩,?_,?_⟩,?_,?_,?_,?_,?_,?_,?_⟩
 .intro k hk;have:=(h3 _ (C5 hk)).n;omega
 .intro k i hk hi;have:=(h3 _ (C5 hk)).o _ (C5 hi);omega
 .intro k hk;have:=(h4 _ (C5 hk)).items;omega
 .intro k hk;have:=(h4 _ (C5 hk)).F6;omega
 .intro k hk;have:=(h4 _ (C5 hk)).on;omega
 .intro k hk;have:=(h4 _ (C5 hk)).wh;omega
 .intro k i hk hi;have:=(h4 _ (C5 hk)).CD _ (C5 hi);omega
 .intro k i hk hi;have:=(h4 _ (C5 hk)).JS _ (C5 hi);omega
 .intro k hk;have:=UU _ (C5 hk);omega
theorem oQ {α:Type}{P:α->Prop}{l:List α}{a:α}(h:∀x,x∈l->P x)(ha:P a):∀x,x∈l++[a]->P x:=λx hx=>by
 rcases A5.1 hx with hx|hx
 .exact h x hx
 .rw [L1.1 hx]
  exact ha
theorem WV (c:o9)(hf:c.eD):Pf A 39 [cat c] (.d (s7 encS (o9.sn c))):=by
 obtain ⟨f0,f1,_⟩:=hf;refine Pf.gr 5 ?_;refine Ex.bW (λk T H=>∃(i:Nat) (acc:List G4) (v0 v2 w5:c7),T=[v0,.ptr 0 0,v2,A8 1 encS acc,.d (Z i),w5]/\H=[.cells (c.enc.map .d)]/\i+k=O c.j7/\acc=(c.j7.take i).map cw.name) ?_ (k:=O c.j7) ⟨0,[],_,_,_,rfl,rfl,U,U⟩;rintro k _ _ ⟨i,acc,v0,v2,w5,rfl,rfl,hk,hacc⟩;have hl:O acc=i:=by rw [hacc];simp;omega
 refine Ex.nT ?_
 repeat' (first|refine gy ?_|refine ft (λht=>?_) λht=>?_|refine ⟨_,rfl,?_⟩|fail)
 .have h1:=A7 ht
  refine kk ⟨i+1,acc++[(Y c.j7 i).name],_,_,_,rfl,rfl,V,?_⟩;rw [E4 V,hacc];simp
 have h1:=B8 ht;rw [s4 V] at hacc;clear ht h1 hk hl;subst hacc;refine Ex.bW (λk T H=>∃(i:Nat) (acc:List G4) (v0 v2 w4:c7),T=[v0,.ptr 0 0,v2,A8 1 encS acc,w4,.d (Z i)]/\H=[.cells (c.enc.map .d)]/\i+k=O c.views/\acc=c.j7.map cw.name++(c.views.take i).map Vw.name) ?_ (k:=O c.views) ⟨0,c.j7.map cw.name,_,_,_,rfl,rfl,U,U⟩;rintro k _ _ ⟨i,acc,v0,v2,w4,rfl,rfl,hk,hacc⟩;have hl:O acc=O c.j7+i:=by rw [hacc];simp;omega
 refine Ex.nT ?_
 repeat' (first|refine gy ?_|refine ft (λht=>?_) λht=>?_|refine ⟨_,rfl,?_⟩|fail)
 .have h1:=A7 ht
  refine kk ⟨i+1,acc++[(Y c.views i).name],_,_,_,rfl,rfl,V,?_⟩;rw [E4 V,hacc];simp
 have h1:=B8 ht;rw [s4 V] at hacc;clear ht h1 hk hl;subst hacc;simp [j5,s7,A8,o9.sn]
def z8:s6:= .cells [.own 4 0 [],.own 9 0 [],.own 3 0 [],.own 6 0 [],.own 4 0 [],.own 3 0 [],.own 2 0 [],.own 3 0 []]
section
variable {xs:List Int} {o0:s6} {q:Nat} (hx:O xs<=35184372088832) (hq:q<=4 * O xs)
include hx hq
set_option maxHeartbeats 4000000 in
theorem q13 {c:o9}(hv:D0 c=W){a b n:Nat}(hs:gY c a b n)(hab:a<=50/\b<=50/\n<=50)(h1:1<=O c.j7)(m:Nat)(hm:m<=20) :
  Tq xs o0 l1 13 [.ptr 1 0,cat c,.d (Z m)] q λv=>∃c',v=cat c' /\D0 c' =W/\gY c' a (b+m) n/\c'.j7=c.j7:=by
 refine Tq.go 4 ?_;refine gr ?_;refine Ex.L9 (λk T' H' =>∃(i:Nat) (q:Nat) (c' :o9),q<=4 * O xs/\i+k=m/\D0 c' =W/\gY c' a (b+i) n/\c'.j7=c.j7/\T' =[.ptr 1 0,.any,.d (Z m),.ptr 2 0,.ptr 3 0,.d (Z i),.any]/\H' =[o0,tp xs q,.cells (c'.enc.map .d),z8]) ?_ (k:=m) ⟨0,q,c,hq,V,hv,hs,rfl,rfl,rfl⟩;rintro k _ _ ⟨i,q1,c',hq1,hk,Oj,hs',ht,rfl,rfl⟩;refine Ex.seq ?_;have JE:=hs'.small V V V;have hvl:=hs'.vl;refine tl i m (λh=>?_) (λh=>?_)
 .repeat' (first|refine cl (WV c' JE.sm.eD) ?_|refine eN ?_|refine gx ?_|fail)
  refine tq (q38 hx hq1 c' JE Oj (by rw [ht];exact h1)) ?_;rintro _ q2 gM ⟨w,rfl,hw⟩
  repeat' (first|refine oN (enc:=Vw.enc) w ?_|refine Nv (enc:=Vw.enc) (ys:=[w]) (h2:=?_)|refine Bp (h2:=?_)|refine gx ?_|fail)
  obtain ⟨d,hd⟩:∃d:o9,{ c' with views:=c'.views++[w] }=d:=⟨_,rfl⟩;have hds:gY d a (b+(i+1)) n:=by
   subst hd;exact { hs' with vl:=D,vs:=oQ hs'.vs hw }
  have hdt:d.j7=c.j7:=by subst hd;exact ht
  refine Ex.test (Rn.text ?_)
  repeat' (first|refine xF (vs:=(c'.enc.map .d).set 1 (A8 9 Vw.enc (c'.views++[w]))) (ws:=d.enc.map .d) rfl (hd ▸ rfl) ?_|refine cl (Fu d (hds.small V V V)) ?_|refine gx ?_|fail)
  refine ⟨_,rfl,λh5=>?_,λh5=>?_⟩
  .repeat' (first|refine xF (vs:=(c'.enc.map .d).set 1 (A8 9 Vw.enc (c'.views++[w]))) (ws:=d.enc.map .d) rfl (hd ▸ rfl) ?_|refine gx ?_|fail)
   exact kk ⟨_,_,B2 (j4 rfl) (j4 rfl),i+1,q2,d,gM,V,h5,hds,hdt,rfl,rfl⟩
  .refine gr ?_
   exact kk ⟨_,_,B2 (j4 rfl) (j4 rfl),i+1,q2,c',gM,V,Oj,{ hs' with vl:=by omega },ht,rfl,rfl⟩
 .refine gr ?_
  exact ⟨_,q1,rfl,hq1,c',rfl,Oj,{ hs' with vl:=by omega },ht⟩
end
end Go.Proofs.YtibjocmpkoepoaaGreat
namespace Go.y9
theorem Ex.blk {A:Prog}{l:F9}{b id:Nat}{c:K7}{st:St}{R:G6->St->Prop}{go:St->Prop}(P:St->Prop)(h1:Ex A l b c st λx s=>(x= .normal\/x= .exit id)/\P s)(h2:∀s,P s->go s):Ex A l b c st (lY id (jO R go)):=by
 refine h1.mono λx s h=>?_
 obtain ⟨rfl|rfl,h⟩:=h
 .exact h2 s h
 .simp [lY]
  exact h2 s h
def fI (p:P4×c7):List c7:=[.d (.str p.1.name),.d (Z p.1.type),.d (.str p.1.space),.d (.str p.1.refs),p.2,.d (Z p.1.bU),.d (Z p.1.fZ)]
def cO (l:List (P4×c7)):s6:= .cells (l.flatMap fI)
theorem Gg:∀{l:List (P4×c7)} {i k:Nat},i<O l->k<7->(l.flatMap fI)[0+i * 7+k]? =(fI (Y l i))[k]? /\∀w p,(fI (Y l i)).set k w=fI p->(l.flatMap fI).set (0+i * 7+k) w=(l.set i p).flatMap fI
 |a::l,0,k,_,hk=>by
  grind [fI,O2,s9,List.set_append_left]
 |a::l,i+1,k,hi,hk=>by
  have hl:O (fI a)=7:=rfl;have ih:=Gg (l:=l) (i:=i) (k:=k) M hk
  grind [aS,s5,Nat.add_sub_cancel_left,List.set_append_right]
 |[],_,_,h,_=>by simp at h
theorem JX (l:List (P4×c7)):O (l.flatMap fI)=O l * 7:=by
 induction l with
 |nil=>rfl
 |cons a l ih=>grind [k8,o8,fI]
theorem Gi {H:k9}{id i k:Nat}{l:List (P4×c7)}{v:c7}(hi:i<O l)(hO:H[id]? =J (cO l))(hk:k<7)(h:(fI (Y l i))[k]? =J v):rd H id (0+i * 7+k) 1=J [v]:=by
 have h1:=(Gg hi hk).1.trans h;obtain ⟨h3,h4⟩:=List.getElem?_eq_some_iff.1 h1;simp only [rd,hO,cO];rw [if_pos V,List.drop_eq_getElem_cons h3,h4];rfl
theorem xZ {H:k9}{id i k:Nat}{l:List (P4×c7)}{w:c7}(p:P4×c7)(hi:i<O l)(hO:H[id]? =J (cO l))(hk:k<7)(hp:(fI (Y l i)).set k w=fI p):wr H id (0+i * 7+k) [w]=J (H.set id (cO (l.set i p))):=by
 have h2:=JX l;have h3:0+i * 7+k<O (l.flatMap fI):=V
 have e:splice (l.flatMap fI) (0+i * 7+k) [w]=(l.flatMap fI).set (0+i * 7+k) w:=by
  simp_all [splice,D9,M1,if_pos]
 simp only [wr,hO,cO,e,(Gg hi hk).2 w p hp]
 grind
theorem Db {α:Type} [Inhabited α] {l:List α}{i:Nat}{p:α}(h:i<O l):Y (l.set i p) i=p:=by simp_all [D6]
namespace S
section
variable {A:Prog} {l:F9} {b:Nat} {dr:Bool} {j8 ops:List x9} {T:List c7} {H:k9} {n:Nat} {rl:List c7} {l6:List Touch} {Q:List c7->k9->List c7->Prop}
theorem QA {x:A3}{u:List Nat}{id o:Nat}{v w:c7}(hr:rd H id o 1=J [v])(hv:v.I7=w)(h2:Ry A l b dr j8 ops T H (n+1) (w::rl) l6 Q)(hx:rq T n rl x= .ptr id o:=by rfl):Ry A l b dr j8 (⟨.load K x,K,K,u⟩::ops) T H n rl l6 Q :=
 Ry.pure (rs:=[id]) rfl (by simp_all [l5]) h2
theorem ixS {x y:A3}{u:List Nat}{id lo len sz i:Nat}(h2:Ry A l b dr j8 ops T H (n+1) (.ptr id (lo+i * sz)::rl) l6 Q)(hx:rq T n rl x= .r7 id sz lo len:=by rfl)(hy:rq T n rl y= .d (.int .i64 (i:Int)):=by rfl)(h:i<len:=by omega):Ry A l b dr j8 (⟨.gN sz x y,K,K,u⟩::ops) T H n rl l6 Q :=
 Ry.pure (rs:=[]) rfl (IU hx hy h) h2
theorem lnS {x:A3}{u:List Nat}{id sz lo len:Nat}(h2:Ry A l b dr j8 ops T H (n+1) (.d (.int .i64 (len:Int))::rl) l6 Q)(hx:rq T n rl x= .r7 id sz lo len:=by rfl):Ry A l b dr j8 (⟨.len x,K,K,u⟩::ops) T H n rl l6 Q :=
 Ry.pure (rs:=[]) rfl (by grind [l5,i64]) h2
theorem lcO {x:A3}{u:List Nat}{id i k:Nat}{c:List (P4×c7)}{v w:c7}(hx:rq T n rl x= .ptr id (0+i * 7+k):=by rfl)(hO:H[id]? =J (cO c):=by rfl)(hi:i<O c:=by omega)(hk:k<7:=by decide)(h:(fI (Y c i))[k]? =J v:=by rfl)(hv:v.I7=w:=by rfl)
  (h2:Ry A l b dr j8 ops T H (n+1) (w::rl) l6 Q):Ry A l b dr j8 (⟨.load K x,K,K,u⟩::ops) T H n rl l6 Q:=QA (Gi hi hO hk h) hv h2 hx
theorem Py {id off j z n0:Nat}{y:A3}{u:List Nat}{cs:List Data}{H1 H2:k9}{r2:List c7}(hw:wr H id off [.own z n0 cs]=J H1)(hy:rq T n rl y= .ptr id off:=by rfl)(hj:lk n rl j=J (.own z n0 cs):=by rfl)(hjb:Nat.ble (j+1) n=W:=by rfl)(hl:l.may id=W:=by rfl)
  (hH:H1=H2:=by simp only [o5,o4]<;>rfl) (hS:rl.set (n - (j+1)) (.d (.slice n0 cs))=r2:=by simp only [K2,Nat.reduceSub,o5,o4]<;>rfl)
  (h2:Ry A l b F j8 ops T H2 (n+1) (.any::r2) (.obj id::l6) Q):Ry A l b F j8 (⟨.store 1 y (.loc j),K,K,u⟩::ops) T H n rl l6 Q:=λhn=>by
 subst hH hS;have hjl:rl.reverse[j]? =J (.own z n0 cs):=by simp_all [aJ]
 have hL:∀r:List c7,(rl.reverse++ .any::r)[j]? =J (.own z n0 cs):=λr=>gP hjl _
 have hjn:j<O rl.reverse:=by grind
 have hlen:O (rl.reverse.set j (.d (.slice n0 cs)))=O rl.reverse:=U
 have h4:∀r:List c7,(rl.reverse.set j (.d (.slice n0 cs))++ .any::r).set (O rl.reverse) .any=rl.reverse.set j (.d (.slice n0 cs))++ .any::r:=λr=>M
 have Ng :=h2.to (by simp [hn]);rw [<- uc hn hjb] at Ng;refine Rx.stepT (N1:=0) (rs:=[]) hlen (λk _=>?_) Ng;have hl' :(I4 A k l b).lim.may id=W:=hl;have hx:y9.E2 ⟨T,H,rl.reverse++ .any::c8 (O ops) .any,l6⟩ (.loc j)=(.own z n0 cs,⟨T,H,rl.reverse.set j (.d (.slice n0 cs))++ .any::c8 (O ops) .any,l6⟩):=by
  simp_all [y9.E2]
 have hb0:A2 [c7.own z n0 cs]<=id+1:=x3 _;have hc1:(c7.own z n0 cs).cells? =J [.own z n0 cs]:=rfl;simp_all [x8,y5,B1,F0.A9,if_true,B9,M0,O4,D9,true_or,and_self,put,s8,C9]
theorem TA {id off:Nat}{x y:A3}{u:List Nat}{v:c7}{H1 H2:k9}(hw:wr H id off [v]=J H1)(hy:rq T n rl y= .ptr id off:=by rfl)(hx:Oq T n rl x v:=by exact ⟨rfl,rfl⟩)(hc:v.cells? =J [v]:=by rfl)(hl:l.may id=W:=by rfl)(hb:v.F4<=id+1:=by exact x3 _)
  (hH:H1=H2:=by simp only [o5,o4]<;>rfl) (h2:Ry A l b F j8 ops T H2 (n+1) (.any::rl) (.obj id::l6) Q):Ry A l b F j8 (⟨.store 1 y x,K,K,u⟩::ops) T H n rl l6 Q :=
 fD hy hx hc rfl hl (by simp_all [A2]) (hH ▸ hw) h2
theorem ctT {f:FuncId}{xs:List A3}{u:List Nat}{v:c7}{args T2:List c7}{m s:Nat}{H0 HD H1 H2:k9}{l2:F9}(hc:Pm A f args H0 l2 v H1)(GF:O H1=m)(cQ:D3 ((H.take m).drop l.strict)<=m)(hcl:D4 H l.strict 8 (A2 args)=m)
  (EX:H.take m=H0) (hle:m<=O H) (jH:(⟨l.Ef,l.Ee,m,A6 H l.strict m⟩:F9)=l2) (ha:xs.map (rq T n rl)=args) (ee:A.prom f=F) (hm:A.mode f=0) (hD:H.drop m=HD) (hA:H1++HD=H2) (hv:v.I7=v) (hs:s<O T) (hT:T.set s v=T2)
  (h2:Ry A l b F j8 ops T2 H2 (n+1) (v::rl) (.slot s:: .below m::l6) Q):Ry A l b F j8 (⟨.call f xs,J s,K,u⟩::ops) T H n rl l6 Q:=λhn=>by
 obtain ⟨d8,hc⟩:=hc;subst EX hD hA hT;refine Rx.stepT (N1:=d8) (rs:=[]) rfl (λk hk=>?_) (h2.to hn);have h3:B7 (I4 A k l b) (O rl.reverse) f args ⟨T,H,rl.reverse++ .any::c8 (O ops) .any,l6⟩=J (put ⟨T,H1++H.drop m,rl.reverse++ .any::c8 (O ops) .any,.below m::l6⟩ (O rl.reverse) v) :=
  ig ee hm hcl hle cQ jH (hc k hk) GF
 have h5:∀r,y9.E2 ⟨T,H1++H.drop m,rl.reverse++v::r,.below m::l6⟩ (.loc (O rl.reverse))=(v,⟨T,H1++H.drop m,rl.reverse++v::r,.below m::l6⟩):=λr=>by
  grind [y9.E2,c7.I7,y9.F1]
 simp_all [x8,y5,B1,F0.A9,if_true,B9,aq,s8,C9,put,I6]
theorem tS {c:A3}{d e:K7}{Q:G6->St->Prop}(x y:Int)(h2:x<y->Ex A l b d ⟨T,H⟩ Q)(h3:y<=x->Ex A l b e ⟨T,H⟩ Q)
  (h:Rn A l b ops F T H λT' H' L=>T' =T/\H' =H/\∃t',F1 T' L c= .d (.bool t')/\t' =D5 x y:=by refine Rn.text ?_;(repeat' (first|refine lnS ?_|refine gx ?_|refine ⟨rfl,rfl,_,rfl,?_⟩|fail));rfl) :
  Ex A l b (.test ops F c d e) ⟨T,H⟩ Q:=Ex.cM (D5 x y) h (λh=>h2 (A7 h)) λh=>h3 (B8 h)
end
end S
end Go.y9
namespace Go.Proofs.YtibjocmpkoepoaaGreat
open Go.y9 Go.y9.S
attribute [local irreducible] Rx Ry Rn Ex Pf Rl
def Ed (n:Int):List y9.Data:=[Z n]
theorem Yu (l:List Int)(hl:O l<=1000)(m:Int):∃v,(∃k:List Int,O k<=O l+1/\(v=A8 1 Ed k\/v= .d (s7 Ed k)))/\Pf A 97 [.d (s7 Ed l),.d (Z m)] v:=by
 refine Pe.go 2 ?_;refine gr ?_;refine Ex.J4 (λk T H=>∃i:Nat,i+k=O l/\T=[.d (s7 Ed l),.d (Z m),.any,.d (Z i)]/\H=[]) ?_ (k:=O l) ⟨0,V,rfl,rfl⟩;rintro k _ _ ⟨i,hk,rfl,rfl⟩;refine Ex.seq ?_;refine tc (D5 i (O l)&&D5 (Y l i) m) trivial (λh=>?_) (λh=>?_)
 .have h:=A7 (c9 _ _ ▸ h).1
  refine gr ?_;exact kk ⟨i+1,V,rfl,rfl⟩
 .refine gr ?_
  refine te trivial ?_ ?_
  .refine gr ?_
   exact ⟨_,rfl,l,V,.inr rfl⟩
  .refine gr ?_
   exact ⟨_,rfl,l.take i++[m]++l.drop i,D,.inl rfl⟩
def h6 (o0:s6)(xs:List Int)(q:Nat)(X3 X4:s6)(l:List (P4×c7)):k9:=[o0,tp xs q,z8,X3,X4,cO l]
def tA (nm:G4)(n:Nat)(er rt:Int):List c7:=[.d (.str nm),.r7 5 7 0 n,.d (Z er),.d (Z rt)]
set_option maxHeartbeats 1000000 in
theorem Uk {o0:s6}{xs:List Int}{q:Nat}{X3 X4:s6}(l:List (P4×c7))(hl:O l<=100)(nm:G4)(er rt:Int):∃k:List Int,O k<=O l/\Pm A 96 [.agg (tA nm (O l) er rt)] (h6 o0 xs q X3 X4 l) ⟨0,6,6,2⟩ (.d (s7 Ed k)) (h6 o0 xs q X3 X4 l):=by
 have key:Pq A 96 [.agg (tA nm (O l) er rt)] (h6 o0 xs q X3 X4 l) ⟨0,6,6,2⟩ λv H=>∃k:List Int,O k<=O l/\v= .d (s7 Ed k)/\H=h6 o0 xs q X3 X4 l:=by
  unfold h6 tA;refine Pq.go (b:=6) 4 ?_;refine gr ?_;refine Ex.J4 (λk T H=>∃(i:Nat) (a:List Int),i+k=O l/\O a<=i/\T=[.any,.ptr 6 0,.any,A8 1 Ed a,.d (Z i)]/\H=h6 o0 xs q X3 X4 l++[.cells (tA nm (O l) er rt)]) ?_ (k:=O l) ⟨0,[],V,U,rfl,rfl⟩;rintro k _ _ ⟨i,a,hk,ha,rfl,rfl⟩;refine Ex.seq ?_;refine tS i (O l) (λh=>?_) (λh=>?_)
  .refine gr ?_
   refine Ex.DP (Rn.text ?_) ?_ ?_
   .repeat' (first|refine ixS ?_|refine lcO (h2:=?_)|refine gx ?_|refine fq (λhw=>?_) λhw=>?_|refine ⟨rfl,rfl,_,rfl,?_⟩|refine ⟨rfl,rfl⟩|fail)
    all_goals exact ⟨rfl,rfl,_,rfl⟩
   .refine gr ?_
    exact kk ⟨i+1,a++[(i:Int)],V,D,rfl,rfl⟩
   .refine gr ?_
    exact kk ⟨i+1,a,V,V,rfl,rfl⟩
  .refine gr ?_
   exact ⟨_,_,rfl,a,V,rfl,rfl⟩
 obtain ⟨_,_,⟨k,hk,rfl,rfl⟩,p⟩:=key
 grind
end Go.Proofs.YtibjocmpkoepoaaGreat
namespace Go.y9
section
variable {A:Prog} {l:F9} {b:Nat} {j8 ops:List x9} {T:List c7} {H:k9} {n:Nat} {rl:List c7} {l6:List Touch} {na:Nat} {lg:List cT} {Q:List c7->k9->List c7->Prop}
theorem Rl.XF {i:x9}{T' Xy :List c7}{H' :k9}{v:c7}{V8 :List Touch}{rs:List Nat}{e:cT}(hu:j8.any (λa=>a.Y2.contains n)=F)(hlen:O Xy=O rl)
  (h:O rl=n->∀k,x8 (I4 A k l b) j8 (if i.op.y3 then J na else K) n i ⟨T,H,rl.reverse++ .any::c8 (O ops) .any,l6⟩=J (⟨T',H',Xy.reverse++v::c8 (O ops) .any,V8⟩,rs))
  (he:O rl=n->∀k,T0 (I4 A k l b) i (if i.op.y3 then J na else K) ⟨T,H,rl.reverse++ .any::c8 (O ops) .any,l6⟩ ⟨T',H',Xy.reverse++v::c8 (O ops) .any,V8⟩ rs=e)
  (h2:Rl A l b j8 ops T' H' (n+1) (v::Xy) V8 (if i.op.y3 then na+1 else na) (e::lg) Q):Rl A l b j8 (i::ops) T H n rl l6 na lg Q:=λhn=>by
 obtain ⟨r,N,hq,h2⟩:=h2 M;refine ⟨r,N,hq,λk hkk=>?_⟩;obtain ⟨SF,e1,e2⟩:=h2 k hkk;have e1' :M4 (I4 A k l b) j8 ops (n+1) (if i.op.y3 then na+1 else na) ⟨T',H',Xy.reverse++v::c8 (O ops) .any,V8⟩=J (r,SF):=M
 have hf:∀st,j8.any (λa=>a.Y2.contains n&& !calm st i.op a)=F:=λst=>by
  simp_all
 grind [M4,eS]
namespace S
theorem lAk {x y:A3}{u:List Nat}{sz bytes id len m k2 xI :Nat}{old cs T2 rl2:List c7}{H2:k9}(hx:rq T n rl x= .r7 id sz 0 len:=by rfl)(ho:H[id]? =J (.cells old):=by rfl)(hr:roomFor (len+m) bytes=W)(hc:B4 H sz (rq T n rl y)=J (m,cs))(Uc:len * sz=O old)(hone:cs.all c7.one=W)(hbc:A2 cs=0)
  (hid:Nat.ble l.base id=W:=by rfl) (KR:Nat.ble b id=W:=by rfl) (hl:l.may id=W:=by rfl) (hsz:Nat.ble 1 sz=W:=by rfl) (hu:j8.any (λa=>a.Y2.contains n)=F:=by rfl)
  (hT:K8 id T=T2:=by rfl) (hL:K8 id rl=rl2:=by rfl) (hH:(H.take l.base++(H.drop l.base).map (s6.kill id)).set id (.cells (K8 id old++cs))=H2:=by rfl)
  (hk2:len+m=k2:=by rfl) (hna:na+1=xI :=by rfl) (h2:Rl A l b j8 ops T2 H2 (n+1) (.r7 id sz 0 k2::rl2) (.obj id::l6) xI (⟨[],[.obj na,.obj id],0,na⟩::lg) Q):Rl A l b j8 (⟨.append sz bytes W x y,K,K,u⟩::ops) T H n rl l6 na lg Q:=by
 subst hT hH hL hk2 hna;have hid:=j4 hid;have KR:=j4 KR;have hsz:0<sz:=j4 hsz;refine Rl.XF (rs:=[]) hu (by simp [O0]) (λhn k=>?_) (λhn k=>?_) h2
 .have hl' :(I4 A k l b).lim.may id=W:=hl
  have he:(I4 A k l b).lim.base<=id/\(I4 A k l b).entry<=id/\(I4 A k l b).lim.may id=W:=⟨hid,KR,hl'⟩;have hk:A2 cs<=id:=V
  have hn2:O (K8 id rl)=n:=by grind [O0]
  have h5:S0 (I4 A k l b) n sz bytes ⟨T,H,rl.reverse++ .any::c8 (O ops) .any,l6⟩ id 0 len (rq T n rl y)=J (put ⟨K8 id T,(H.take l.base++(H.drop l.base).map (s6.kill id)).set id (.cells (K8 id old++cs)),(K8 id rl).reverse++ .any::c8 (O ops) .any,.obj id::l6⟩ n (.r7 id sz 0 (len+m))):=by
   simp [S0,he,ho,hc,Uc,hr,hk,hone,hsz,IA];rfl
  simp_all [F0.y3,if_true,x8,y5,B1,F0.A9,B9,M0,s8,Q4,put,iM]
 simp_all [T0,W8,F0.y3,F8]
theorem lAz {sz bytes j j2 id off m xI :Nat}{y:A3}{u:List Nat}{a:x9}{cs l0:List c7}{H2:k9}(hc:B4 H sz (rq T n rl y)=J (m,cs))(V7:roomFor m bytes=W/\0<sz)(hm:m≠0)(hL:lk n rl j=J (.d (.slice 0 [])):=by rfl)(ha:j8[j]? =J a:=by rfl)(hz:a.op= .load K (.loc j2):=by rfl)(hp:lk n rl j2=J (.ptr id off):=by rfl)(ht:l6.any (Touch.V0 id off)=F:=by rfl)(hmay:l.may id=W:=by rfl)
  (hO:H[id]? =J (.cells l0):=by rfl) (h0:l0[off]? =J .N9:=by rfl) (hH:H.set na (.cells cs)=H2:=by simp only [o5,o4]<;>rfl) (hna:na+1=xI :=by rfl)
  (h2:Rl A l b j8 ops T H2 (n+1) (.r7 na sz 0 m::rl) l6 xI (⟨[],[.obj na],0,na⟩::lg) Q):Rl A l b j8 (⟨.append sz bytes W (.loc j) y,K,K,u⟩::ops) T H n rl l6 na lg Q:=by
 have QW:∀{i v},O rl=n->lk n rl i=J v->(rl.reverse++ .any::c8 (O ops) .any)[i]? =J v:=λhn h=>gP (by simp_all [aJ]) _
 have hx:O rl=n->y9.F1 T (rl.reverse++ .any::c8 (O ops) .any) (.loc j)= .d (.slice 0 []):=λhn=>by
  simp [y9.F1,List.getD_eq_getElem?_getD,QW hn hL];rfl
 have hnil:O rl=n->∀k,isNil (I4 A k l b).lim j8 ⟨T,H,rl.reverse++ .any::c8 (O ops) .any,l6⟩ (.loc j)=W:=λhn k=>by
  simp_all [I4,isNil,eG,Y9]
 have hk:∀L,O rl=n->L=rl.reverse++ .any::c8 (O ops) .any->F2 ⟨T,H,L,l6⟩ (.append sz bytes W (.loc j) y)=F:=λL hn e=>by
  simp_all [F2]
 intro hn;obtain ⟨r,N,hq,h2⟩:=h2 (by simp [hn]);refine ⟨r,N,hq,λk hkk=>?_⟩;obtain ⟨SF,e1,e2⟩:=h2 k hkk;have e1' :M4 (I4 A k l b) j8 ops (n+1) (na+1) ⟨T,H.set na (.cells cs),rl.reverse++ .r7 na sz 0 m::c8 (O ops) .any,l6⟩=J (r,SF):=M
 have h4:x8 (I4 A k l b) j8 (J na) n ⟨.append sz bytes W (.loc j) y,K,K,u⟩ ⟨T,H,rl.reverse++ .any::c8 (O ops) .any,l6⟩=J (⟨T,H.set na (.cells cs),rl.reverse++ .r7 na sz 0 m::c8 (O ops) .any,l6⟩,[]):=by
  simp_all [x8,y5,B1,F0.A9,if_true,B9,M0,J1,and_self,if_false,C8,newId,Option.getD_some,put,iM,s8,Q4]
 simp_all [M4,o8,L3,eS,Bool.false_and,j6,if_false,F0.y3,if_true,T0,W8,F8]
theorem lC2 {f:FuncId}{xs:List A3}{u:List Nat}{v:c7}{args:List c7}{m nn:Nat}{H0 H1 H2:k9}{l2:F9}(hc:Pm A f args H0 l2 v H1)(GF:O H1=nn)(cQ:D3 ((H.take nn).drop l.strict)<=nn)(hcl:D4 H l.strict 8 (A2 args)=nn)(hmn:m<=nn)(hm' :(args.headD .any).F4=m)
  (EX:H.take nn=H0) (hle:nn<=O H) (jH:l.fM m nn nn (A6 H l.strict nn)=l2) (hD:H1.take m++H.drop m=H2:=by simp only [List.take_succ_cons,List.take_zero,List.drop_succ_cons,List.drop_zero,x7,y6]<;>rfl)
  (h2:Rl A l b j8 ops T H2 (n+1) (v::rl) (.below m::l6) na (⟨[],[.below m],nn,0⟩::lg) Q) (ha:xs.map (rq T n rl)=args:=by rfl) (ee:A.prom f=F:=by rfl) (hm:A.mode f=2:=by rfl):Rl A l b j8 (⟨.call f xs,K,K,u⟩::ops) T H n rl l6 na lg Q:=by
 obtain ⟨d8,hc⟩:=hc;subst EX hD jH hm';have Od :∀k,(I4 A k l b).prom f=F:=λ_=>ee
 have hmo:∀k,(I4 A k l b).mode f=2:=λ_=>hm
 have Vg :∀k,D4 H (I4 A k l b).lim.strict 8 (A2 args)=nn:=λ_=>hcl
 refine Rl.step (N1:=d8) (rs:=[]) (λ_=>rfl) (λhn k hk=>?_) (λhn k=>?_) h2
 .have Eg:(I4 A k l b).cf f args (H.take nn) ((I4 A k l b).lim.fM (args.headD .any).F4 nn nn (A6 H (I4 A k l b).lim.strict nn))=J (v,H1):=hc k hk
  have aP3 :D3 ((H.take nn).drop (I4 A k l b).lim.strict)<=nn:=cQ;have h3:B7 (I4 A k l b) n f args ⟨T,H,rl.reverse++ .any::c8 (O ops) .any,l6⟩=J (put ⟨T,H1.take (args.headD .any).F4++H.drop (args.headD .any).F4,rl.reverse++ .any::c8 (O ops) .any,.below (args.headD .any).F4::l6⟩ n v):=by
   simp_all [B7,and_self,if_true,j6,if_false]
  simp_all [F0.y3,j6,if_false,x8,y5,B1,F0.A9,if_true,B9,aq,s8,C9,put,iM]
 simp_all [T0,W8,F8,F0.y3,aq]
end S
end
end Go.y9
namespace Go.Proofs.YtibjocmpkoepoaaGreat
open Go.y9 Go.y9.S
attribute [local irreducible] Rx Ry Rn Ex Pf Rl
def xL (nm:G4)(ty:Int)(ns rf:G4):s6:= .cells [.d (.str nm),.d (Z ty),.d (.str ns),.d (.str rf),.own 1 0 [],.d (Z 0),.d (Z 0)]
def t42 (c:o9)(ts:List c7)(i p:Nat)(w7 w8:c7):List c7:=[.ptr 1 0,cat c,.agg ts,.d (Z i),.ptr p 0,.ptr (p+2) 0,.ptr (p+3) 0,w7,w8]
def z7:s6:= .cells [.d (.str []),.d (Z 0),.d (.str []),.d (.str []),.own 1 0 [],.d (Z 0),.d (Z 0)]
def Yr (c:o9)(ts:List c7)(nm:G4)(ty:Int)(ns rf:G4):k9:=[.cells (c.enc.map .d),.cells ts,z7,xL nm ty ns rf]
theorem av2 {r:Int}(h0:0<=r)(h1:r<4):∃t:Int,H8 .quo (Z r) (Z 3)=J (.int .i64 t)/\0<=t/\t<=1:=by
 have:r=0\/r=1\/r=2\/r=3:=V
 rcases this with rfl|rfl|rfl|rfl
 .exact ⟨0,rfl,by decide,by decide⟩
 .exact ⟨0,rfl,by decide,by decide⟩
 .exact ⟨0,rfl,by decide,by decide⟩
 .exact ⟨1,rfl,by decide,by decide⟩
section
variable {xs:List Int} {o0:s6} {q:Nat} (hx:O xs<=35184372088832) (hq:q<=4 * O xs)
include hx hq
set_option maxHeartbeats 4000000 in
theorem Ui (c:o9)(hc:O c.j7<=1000)(hc1:∀t,t∈c.j7->1<=O t.o7)(i:Nat)(hi:i<=1000)(p:Nat)(HD:k9)(ts:List c7)(hp:(p=2/\HD=[]/\∃a b c d,ts=[.d a,.d b,.d c,.d d])\/(p=6/\∃X2 X3 X4 X5 a m b c,HD=[X2,X3,X4,X5]/\ts=[.d a,.r7 5 7 0 m,.d b,.d c])) :
  ∃(x:P4) (q' :Nat),x.C6=[]/\q' <=4 * O xs/\Pm A 42 [.ptr 1 0,cat c,.agg ts,.d (Z i)] (o0::tp xs q::HD) ⟨2,p,p,2⟩ (.agg (x.enc.map .d)) (o0::tp xs q' ::HD):=by
 obtain ⟨nm,pn⟩:=QH [99] (by decide) (n:=i) V V;have key:Pq A 42 [.ptr 1 0,cat c,.agg ts,.d (Z i)] (o0::tp xs q::HD) ⟨2,p,p,2⟩ λv H=>∃(x:P4) (q' :Nat),x.C6=[]/\q' <=4 * O xs/\v= .agg (x.enc.map .d)/\H=o0::tp xs q' ::HD:=by
  rcases hp with ⟨hp,hD,a1,a2,a3,a4,ht⟩|⟨hp,X2,X3,X4,X5,a1,m,a3,a4,hD,ht⟩
  all_goals
   refine Pq.go (b:=p) 5 ?_ (hb:=by rw [hp,hD];rfl);rw [hp,hD,ht];refine gc pn ?_;refine nx λr q1 hq1 r0 r1=>?_
   repeat' (first|refine qm (cs:=[.d (.str ([99]++[nm])),.d (Z (1+r)),.d (.str []),.d (.str []),.own 1 0 [],.d (Z 0),.d (Z 0)]) ?_|refine gx ?_|fail)
   refine Ex.join (λst=>∃(ty:Int) (q:Nat),q<=4 * O xs/\1<=ty/\ty<=2/\st=⟨t42 c ts i p .any .any,o0::tp xs q::(HD++Yr c ts ([99]++[nm]) ty [] [])⟩) ?_ ?_
   .refine te trivial ?_ (Ex.skip ⟨1+r,q1,hq1,V,V,by rw [hp,hD,ht];rfl⟩)
    refine gr ?_;refine nx λr2 q2 gM s0 s1=>?_
    obtain ⟨t,e,t0,t1⟩:=av2 s0 s1
    repeat' (first|refine bq e ?_|refine gx ?_|fail)
    exact ⟨1+t,q2,gM,V,V,by rw [hp,hD,ht];rfl⟩
   rintro _ ⟨ty,q2,gM,ty0,ty1,rfl⟩;unfold t42 Yr;rw [hp,hD,ht];simp only [x7,y6,K2];refine gr ?_;refine nx λr2 q3 jQ s0 s1=>?_
   refine gr ?_;refine Ex.Hw (λst=>∃(ty:Int) (ns rf:G4) (w8:c7) (q:Nat) (X:k9),q<=4 * O xs/\st=⟨t42 c ts i p (.d (Z r2)) w8,o0::tp xs q::(HD++Yr c ts ([99]++[nm]) ty ns rf++X)⟩) ?_ ?_
   .refine te trivial ?_ ?_
    .repeat' (first|refine bk .str [[112,101,114,115,111,110],[109,97,105,108]] ?_|refine Bm (h2:=?_)|refine gx ?_|fail)
     exact ⟨ty,_,[],_,q3,[],jQ,by rw [hp,hD,ht];rfl⟩
    refine tc (T5 r2 2&&(D5 0 (O c.j7)&&D5 0 i)) trivial (λh=>?_) (λh=>?_)
    .have h0:0<O c.j7:=by
      have:=A7 (c9 _ _ ▸ (c9 _ _ ▸ h).2).1;omega
     refine Ex.seq ?_;refine Ex.region (rg 1 (h:=?_));refine gm ?_;refine lx λr3 q4 qn t0 t1=>?_
     have h1:=hc1 _ (C5 (show r3.toNat<O c.j7 by omega));obtain ⟨t,hte⟩:∃t,Y c.j7 r3.toNat=t:=⟨_,rfl⟩;rw [hte] at h1;refine gm ?_;rw [hte];refine yp _ (LP (cs:=t.enc) rfl rfl) ?_;refine gm ?_;refine Ex.region (rg 0 (h:=?_));refine gm ?_;exact ⟨(Y t.o7 0).type,[],t.name,_,q4,[.cells (t.enc.map .d)],qn,by rw [hp,hD,ht];rfl⟩
    .exact Ex.skip ⟨ty,[],[],_,q3,[],jQ,by rw [hp,hD,ht];rfl⟩
   rintro _ ⟨ty,ns,rf,w8,q4,X,qn,rfl⟩;unfold t42 Yr;rw [hp,hD,ht];simp only [x7,y6,K2]
   repeat' (first|refine xF (ws:=(P4.enc ⟨[99]++[nm],ty,ns,rf,[],0,0⟩).map .d) rfl rfl ?_|refine gx ?_|fail)
   exact ⟨_,_,rfl,_,q4,rfl,qn,rfl,rfl⟩
 obtain ⟨_,_,⟨x,q',h1,h2,rfl,rfl⟩,p⟩:=key;exact ⟨x,q',h1,h2,p⟩
end
end Go.Proofs.YtibjocmpkoepoaaGreat
namespace Go.y9
theorem bC (l:List c7):(s6.cells l).F4=A2 l:=rfl
end Go.y9
namespace Go.y9.S
section
variable {A:Prog} {l:F9} {b:Nat} {dr:Bool} {j8 ops:List x9} {T:List c7} {H:k9} {n:Nat} {rl:List c7} {l6:List Touch} {Q:List c7->k9->List c7->Prop}
theorem acO {i j k id len m:Nat}{c:List (P4×c7)}{x:P4}{cells new:List Data}{y:A3}{u u' :List Nat}{d' :Option Nat}{g' :Option (Nat×Bool)}{n' :Nat}{cs' :List Data}{H2:k9}(hn:Y c i=(x,.own 1 len cells))(hi:i<O c)(hr:roomFor (len+m) 8=W)(hy:rq T n rl y= .d (.slice m new):=by rfl)(hm:O new=m * 1:=by rfl)
  (hj:lk n rl j=J (.d (.slice n' cs')):=by rfl) (ha:j8[j]? =J ⟨.load K (.loc k),d',g',u'⟩:=by rfl) (hk:lk n rl k=J (.ptr id (0+i * 7+4)):=by rfl) (ht:l6.any (Touch.V0 id (0+i * 7+4))=F:=by rfl) (hl:l.may id=W:=by rfl) (ho:H[id]? =J (cO c):=by rfl)
  (hH:H.set id (cO (c.set i (x,.d (.slice len cells))))=H2:=by simp only [o5,o4]<;>rfl)
  (h2:Ry A l b dr j8 ops T H2 (n+1) (.own 1 (len+m) (cells++new)::rl) (.cell id (0+i * 7+4)::l6) Q):Ry A l b dr j8 (⟨.append 1 8 F (.loc j) y,K,K,u⟩::ops) T H n rl l6 Q:=by
 have h7:=Gg (l:=c) (k:=4) hi (by decide);refine Ry.Nw (cells:=cells) hj ha hk ht hl ho ?_ hy hm hr (by decide) ?_
 .rw [h7.1,hn]
  rfl
 .rw [h7.2 _ (x,.d (.slice len cells)) (by rw [hn];rfl)]
  subst hH;exact h2
end
end Go.y9.S
namespace Go.Proofs.YtibjocmpkoepoaaGreat
open Go.y9 Go.y9.S
attribute [local irreducible] Rx Ry Rn Ex Pf Rl
def wf (f8:Nat)(l:List (P4×c7)):Prop:=∀p,p∈l->Ou Ed p.1.C6 p.2/\O p.1.C6<=f8
theorem wf.set {f8:Nat}{l:List (P4×c7)}(h:wf f8 l){i:Nat}(hi:i<O l){p:P4×c7}(hp:Ou Ed p.1.C6 p.2)(hb:O p.1.C6<=f8):wf f8 (l.set i p)/\O (l.set i p)=O l/\Y (l.set i p) i=p :=
 ⟨λx hx=>(List.mem_or_eq_of_mem_set hx).elim (h x) λe=>e ▸ ⟨hp,hb⟩,U,Db hi⟩
theorem wf.mono {f8 C:Nat}{l:List (P4×c7)}(h:wf f8 l)(hb:f8<=C):wf C l:=λp hp=>⟨(h p hp).1,p7 (h p hp).2 hb⟩
theorem wf.F4 {f8:Nat}:∀{l:List (P4×c7)},wf f8 l->A2 (l.flatMap fI)=0
 |[],_=>rfl
 |p::l,h=>by
  have h1:=(h p U).1.2;have h2:=wf.F4 (l:=l) λx hx=>h x (by simp [hx])
  simp [fI,A2,c7.F4,h1,h2]
def tO (nm:G4)(n:Nat)(er rt:Int):s6:= .cells (tA nm n er rt)
def z4:s6:= .cells [.d (.str []),.N9,.d (Z 0),.d (Z 0)]
def Nn (c:o9)(nm:G4)(n:Nat)(er rt:Int):k9:=[.cells (c.enc.map .d),tO nm n er rt,z4]
def t43 (L:List Int)(i:Int)(w8 w9 rG El Em En:c7):List c7:=[.ptr 1 0,.any,.any,.ptr 6 0,.ptr 7 0,.ptr 8 0,.d (s7 Ed L),.d (Z i),w8,w9,rG,El,Em,En]
def Yx (i:Int)(Em En:c7):List c7:=[.any,.any,.any,.ptr 6 0,.ptr 7 0,.ptr 8 0,.any,.any,.any,.any,.any,.d (Z i),Em,En]
section
variable {xs:List Int} {o0:s6} {q:Nat} (hx:O xs<=35184372088832) (hq:q<=4 * O xs)
include hx hq
set_option maxHeartbeats 8000000 in
theorem Wh (c:o9)(hc:O c.j7<=10)(hc1:∀t,t∈c.j7->1<=O t.o7)(X3:s6)(h3:X3.F4=0)(l:List (P4×c7))(hl:O l<=10)(hw:wf 2 l)(nm:G4)(er rt:Int) :
  ∃(UQ :Int) (l' :List (P4×c7)) (q' :Nat),O l'=O l/\wf 102 l' /\q' <=4 * O xs/\Pm A 43 [.ptr 1 0,cat c,.agg (tA nm (O l) er rt)] (h6 o0 xs q X3 (tO nm (O l) er rt) l) ⟨0,0,6,2⟩ (.agg (tA nm (O l) UQ rt)) (h6 o0 xs q' X3 (tO nm (O l) er rt) l'):=by
 have key:Pq A 43 [.ptr 1 0,cat c,.agg (tA nm (O l) er rt)] (h6 o0 xs q X3 (tO nm (O l) er rt) l) ⟨0,0,6,2⟩ λv H=>∃(UQ :Int) (l' :List (P4×c7)) (q' :Nat),O l'=O l/\wf 102 l' /\q' <=4 * O xs/\v= .agg (tA nm (O l) UQ rt)/\H=h6 o0 xs q' X3 (tO nm (O l) er rt) l' :=by
  obtain ⟨L,hL,Uk⟩:=Uk (o0:=o0) (xs:=xs) (q:=q) (X3:=X3) (X4:=tO nm (O l) er rt) l V nm er rt;obtain ⟨TV,he0⟩:∃e,er=e:=⟨_,rfl⟩;rw [he0] at Uk ⊢;unfold h6 at Uk ⊢;unfold tO tA at Uk ⊢;refine Pq.go (b:=6) 11 ?_;refine gr ?_;have hb:D3 [z8,X3,s6.cells [.d (.str nm),.r7 5 7 0 (O l),.d (Z er),.d (Z rt)],cO l]<=6:=by simp [D3,bC,A2,c7.F4,z8,cO,hw.F4,h3]
  refine c1 Uk rfl ?_ (cQ:=hb) (hcl:=G9 hb) (jH:=by simp [A6,T7,bC,A2,c7.F4,z8,h3]);refine gr ?_;refine Ex.J4 (λk T' H' =>∃(i q:Nat) (er:Int) (m:List (P4×c7)),q<=4 * O xs/\i+k=O l/\O m=O l/\wf 2 m/\T' =t43 L i .any .any .any .any .any .any/\H' =h6 o0 xs q X3 (tO nm (O l) TV rt) m++Nn c nm (O l) er rt) ?_ (k:=O l) ⟨0,q,TV,l,hq,V,rfl,hw,rfl,rfl⟩;rintro k _ _ ⟨i,q1,er,m,hq1,hk,hm,hw,rfl,rfl⟩;unfold t43 h6 Nn tO tA;simp only [x7,y6];refine Ex.seq ?_;refine Ex.cM (D5 i (O l)&&D5 0 (O L)) (Rn.text ?_) (λh=>?_) (λh=>?_)
  .repeat' (first|refine lnS ?_|refine gx ?_|refine fq (λhw=>?_) λhw=>?_|refine ⟨rfl,rfl,_,rfl,?_⟩|refine ⟨rfl,rfl⟩|fail)
   all_goals exact cc
  .have hi:=A7 (c9 _ _ ▸ h).1
   have hL0:=A7 (c9 _ _ ▸ h).2;have hi' :i<O m:=V
   refine Ex.skip ?_;refine Ex.seq ?_;refine Ex.block ?_;refine Ex.blk (λst=>∃(q:Nat) (er:Int) (m:List (P4×c7)) (w8 w9 rG:c7),q<=4 * O xs/\O m=O l/\wf 2 m/\st=⟨t43 L i w8 w9 rG .any .any .any,h6 o0 xs q X3 (tO nm (O l) TV rt) m++Nn c nm (O l) er rt⟩) ?_ ?_
   .repeat' (first|refine ixS ?_|refine gx ?_|fail)
    refine nx λr q2 gM _ _=>?_
    refine gr ?_;refine tt (λq3 jQ=>?_) λq3 jQ=>?_
    .exact Ex.exit ⟨.inr rfl,q3,er,m,_,_,_,jQ,hm,hw,rfl⟩
    refine gr ?_;refine nx λr2 q4 qn r0 r1=>?_
    obtain ⟨a,ha⟩:∃a,Y L r2.toNat=a:=⟨_,rfl⟩;obtain ⟨w1,e1,n1⟩:=hw.set hi' (p:=({ (Y m i).1 with C6:=[a] },.own 1 1 [Z a])) ⟨rfl,rfl⟩ U
    repeat' (first|refine nx (λ_ _ _ _ _=>?_)|refine Bm (h2:=?_)|refine eN ?_|refine gx ?_|fail)
    rw [ha];refine Py (xZ (id:=5) (k:=4) ({ (Y m i).1 with C6:=[a] },.own 1 1 [Z a]) hi' rfl (by decide) rfl) (h2:=?_);obtain ⟨m1,Eh⟩:∃m1,m.set i ({ (Y m i).1 with C6:=[a] },.own 1 1 [Z a])=m1:=⟨_,rfl⟩;obtain ⟨x1,hx1⟩:∃x1:P4,{ (Y m i).1 with C6:=[a] }=x1:=⟨_,rfl⟩;rw [Eh] at w1 e1 n1 ⊢;rw [hx1] at n1;have hi1:i<O m1:=V
    refine gr ?_;refine nx λr3 q5 vm r0 r1=>?_
    repeat' (first|refine nx (λ_ _ _ _ _=>?_)|refine Bm (h2:=?_)|refine eN ?_|refine gx ?_|fail)
    have g1:∀H:k9,H[5]? =J (cO m1)->rd H 5 (0+i * 7+4) 1=J [.own 1 1 [Z a]]:=λH hH=>Gi hi1 hH (by decide) (by rw [n1];rfl)
    refine Ex.join (λst=>∃(m:List (P4×c7)) (rG:c7),O m=O l/\wf 2 m/\st=⟨t43 L i (.ptr 5 (0+i * 7)) (.d (.bool (x4 r 0))) rG .any .any .any,h6 o0 xs q5 X3 (tO nm (O l) TV rt) m++Nn c nm (O l) er rt⟩) ?_ ?_
    .refine Ex.DP (Rn.text ?_) ?_ (Ex.skip ⟨m1,_,V,w1,rfl⟩)
     .repeat' (first|refine QA (g1 _ rfl) rfl ?_|refine Bm (enc:=Ed) (xs:=[a]) (h2:=?_)|refine gx ?_|refine fq (λhw=>?_) λhw=>?_|refine ⟨rfl,rfl,_,rfl,?_⟩|refine ⟨rfl,rfl⟩|fail)
      all_goals exact ⟨rfl,rfl,_,rfl⟩
     .obtain ⟨o,ho⟩:∃o,Y L r3.toNat=o:=⟨_,rfl⟩
      rw [ho]
      repeat' (first|refine QA (g1 _ rfl) rfl ?_|refine acO (m:=1) n1 hi1 (by decide) (h2:=?_)|refine gx ?_|fail)
      obtain ⟨w2,e2,n2⟩:=w1.set hi1 (p:=({ x1 with C6:=[a,o] },.own 1 2 [Z a,Z o])) ⟨rfl,rfl⟩ U;refine Py (xZ (id:=5) (k:=4) ({ x1 with C6:=[a,o] },.own 1 2 [Z a,Z o]) (by simpa using hi1) rfl (by decide) (by rw [Db hi1];rfl)) (h2:=?_);refine gr ?_;exact ⟨m1.set i ({ x1 with C6:=[a,o] },.own 1 2 [Z a,Z o]),_,V,w2,by rw [List.set_set];rfl⟩
    rintro _ ⟨m2,rG,hm2,w2,rfl⟩;unfold t43 h6 Nn tO tA;simp only [x7,y6];have hi2:i<O m2:=V
    refine gr ?_;refine nx λr4 q6 GL r0 r1=>?_
    obtain ⟨w3,e3,n3⟩:=w2.set hi2 (p:=({ (Y m2 i).1 with bU:=r4 },(Y m2 i).2)) (w2 _ (C5 hi2)).1 (w2 _ (C5 hi2)).2
    repeat' (first|refine TA (xZ (id:=5) (k:=5) (w:= .d (Z r4)) ({ (Y m2 i).1 with bU:=r4 },(Y m2 i).2) hi2 rfl (by decide) rfl) (h2:=?_)|refine gx ?_|fail)
    obtain ⟨m3,Vx⟩:∃m3,m2.set i ({ (Y m2 i).1 with bU:=r4 },(Y m2 i).2)=m3:=⟨_,rfl⟩;rw [Vx] at w3 e3 ⊢;have Ql:i<O m3:=V
    repeat' (first|refine bk Z [0,0,0,5,20] ?_|refine gx ?_|fail)
    refine nx λr5 q7 wZ r0 r1=>?_
    obtain ⟨d,hd⟩:∃d,Y [(0:Int),0,0,5,20] r5.toNat=d:=⟨_,rfl⟩;obtain ⟨w4,e4,n4⟩:=w3.set Ql (p:=({ (Y m3 i).1 with fZ:=d },(Y m3 i).2)) (w3 _ (C5 Ql)).1 (w3 _ (C5 Ql)).2;refine Bm (h2:=?_);rw [hd]
    repeat' (first|refine TA (xZ (id:=5) (k:=6) (w:= .d (Z d)) ({ (Y m3 i).1 with fZ:=d },(Y m3 i).2) Ql rfl (by decide) rfl) (h2:=?_)|refine gx ?_|fail)
    refine te trivial ?_ (Ex.skip ⟨.inl rfl,q7,er,_,_,_,_,wZ,V,w4,rfl⟩);refine gr ?_;exact ⟨.inl rfl,q7,1,_,_,_,_,wZ,V,w4,rfl⟩
   rintro _ ⟨q5,er,m2,w8,w9,rG,vm,hm2,w2,rfl⟩;unfold t43 h6 Nn tO tA;simp only [x7,y6];refine gr ?_;exact kk ⟨i+1,q5,er,m2,vm,V,hm2,w2,rfl,rfl⟩
  refine Ex.exit ?_;clear h hk;refine gr ?_;refine Ex.J4 (λk T' H' =>∃(i:Nat) (m:List (P4×c7)),i+k=O l/\O m=O l/\wf (2+i * O c.j7) m/\T' =Yx i .any .any/\H' =h6 o0 xs q1 X3 (tO nm (O l) TV rt) m++Nn c nm (O l) er rt) ?_ (k:=O l) ⟨0,m,V,hm,by simpa using hw,rfl,rfl⟩;clear hw hm;rintro k _ _ ⟨i,m,hk,hm,hw,rfl,rfl⟩;unfold Yx h6 Nn tO tA;simp only [x7,y6];refine Ex.seq ?_;refine tS i (O l) (λh=>?_) (λh=>?_)
  .repeat' (first|refine ixS ?_|refine gx ?_|fail)
   refine Ex.J4 (λk T' H' =>∃(j:Nat) (m:List (P4×c7)),j+k=O c.j7/\O m=O l/\wf (2+i * O c.j7+j) m/\T' =Yx i (.ptr 5 (0+i * 7)) (.d (Z j))/\H' =h6 o0 xs q1 X3 (tO nm (O l) TV rt) m++Nn c nm (O l) er rt) ?_ (k:=O c.j7) ⟨0,m,V,hm,hw,rfl,rfl⟩;clear hw hm;rintro k2 _ _ ⟨j,m,hk2,hm,hw,rfl,rfl⟩;unfold Yx h6 Nn tO tA;simp only [x7,y6];have hi:i<O m:=V
   refine Ex.seq ?_;refine tl j (O c.j7) (λh2=>?_) (λh2=>?_)
   .have h1:=hc1 _ (C5 (show j<O c.j7 by omega))
    refine gr ?_;refine Ex.DP (Rn.draw ?_) ?_ ?_
    .repeat' (first|refine lcO (h2:=?_)|refine gx ?_|refine fq (λhw=>?_) λhw=>?_|refine ⟨rfl,rfl,_,rfl,?_⟩|refine ⟨rfl,rfl⟩|fail)
     all_goals exact ⟨rfl,rfl,_,rfl⟩
    .have hwi:=hw _ (C5 hi)
     obtain ⟨v97,⟨ks,hks,e⟩,Yu⟩:=Yu (Y m i).1.C6 (by have:=hwi.2;have:i * O c.j7<=10 * 10:=Nat.mul_le_mul V hc;omega) i;obtain ⟨w1,e1,n1⟩:=(hw.mono (show 2+i * O c.j7+j<=2+i * O c.j7+(j+1) by omega)).set hi (p:=({ (Y m i).1 with C6:=ks },v97)) (show Ou Ed ks v97 from by rcases e with e|e<;>exact ⟨by rw [e];rfl,by rw [e];rfl⟩) (by simp only;omega)
     rcases e with rfl|rfl
     .repeat' (first|refine QA (Gi (id:=5) (k:=4) hi rfl (by decide) rfl) hwi.1.1 ?_|refine cl (Yu) ?_|refine Py (xZ (id:=5) (k:=4) ({ (Y m i).1 with C6:=ks },A8 1 Ed ks) hi rfl (by decide) rfl) (h2:=?_)|refine gx ?_|fail)
      exact ⟨k2 - 1,V,j+1,_,V,V,w1,rfl,rfl⟩
     .repeat' (first|refine QA (Gi (id:=5) (k:=4) hi rfl (by decide) rfl) hwi.1.1 ?_|refine cl (Yu) ?_|refine TA (xZ (id:=5) (k:=4) (w:= .d (s7 Ed ks)) ({ (Y m i).1 with C6:=ks },.d (s7 Ed ks)) hi rfl (by decide) rfl) (h2:=?_)|refine gx ?_|fail)
      exact ⟨k2 - 1,V,j+1,_,V,V,w1,rfl,rfl⟩
    .refine gr ?_
     exact ⟨k2 - 1,V,j+1,m,V,hm,hw.mono V,rfl,rfl⟩
   .refine gr ?_
    exact kk ⟨i+1,m,V,hm,hw.mono (by rw [Nat.succ_mul];omega),rfl,rfl⟩
  .repeat' (first|refine xF (ws:=tA nm (O l) er rt) rfl rfl ?_|refine gx ?_|fail)
   refine Rc rfl ⟨rfl,rfl⟩ rfl rfl rfl (.inl (show 6<=9 by decide)) rfl ?_;refine gr ?_;exact ⟨_,_,rfl,er,m,q1,hm,hw.mono (by have:i * O c.j7<=10 * 10:=Nat.mul_le_mul V hc;omega),hq1,rfl,rfl⟩
 obtain ⟨_,_,⟨UQ,l',q',h1,h2,h3,rfl,rfl⟩,p⟩:=key;exact ⟨UQ,l',q',h1,h2,h3,p⟩
end
end Go.Proofs.YtibjocmpkoepoaaGreat
namespace Go.y9
theorem GW (id:Nat):∀l:List Data,K8 id (l.map .d)=l.map .d
 |[]=>rfl
 |_::l=>by simp [K8,c7.kill,GW id l]
theorem eZ {H:k9}{id m:Nat}{cs:List c7}(hO:H[id]? =J (.cells cs))(h:O cs=m):rd H id 0 m=J cs:=by
 simp only [rd,hO];rw [if_pos V,List.drop_zero,s4 V]
theorem ye {mask:List Bool}{strict m:Nat}{T:List c7}{H:k9}(h:¬D3 ((H.take m).drop strict)<=m):clean mask strict m ⟨T,H⟩=⟨P8 mask T,H⟩:=by simp [clean,h]
namespace S
section
variable {ρ:A3->c7} {G:k9} {x y:A3}
theorem SY {id o m:Nat}{vs ws:List c7}(hx:ρ x= .ptr id o)(hr:rd G id o m=J vs)(hv:vs.map c7.I7=ws):l5 ρ G (.load (J m) x)=J (.agg ws,[id]):=by simp [l5,hx,hr,hv]
theorem ap5 {id sz lo len:Nat}(hx:ρ x= .r7 id sz lo len):l5 ρ G (.len x)=J (.d (.int .i64 (len:Int)),[]):=by simp only [l5,hx,i64]
theorem pLs {m:Nat}{cs:List Data}(hx:ρ x= .d (.slice m cs)):l5 ρ G (.len x)=J (.d (.int .i64 (m:Int)),[]):=by simp only [l5,hx,i64]
theorem pOn {enc:List Data}{sz:Nat}{zero:List c7}(hx:ρ x= .agg (enc.map .d))(hc:O enc=sz)(hz:O zero=sz)(h0:0<sz):l5 ρ G (.M8 sz 1 zero [(0,sz,x)] F)=J (.own sz 1 enc,[]):=by
 have h1:T4 zero [(0,sz,c7.agg (enc.map .d))]=J (enc.map .d):=by
  simp only [T4,c7.cells?,QG,if_true,A1,hc,hz,Nat.zero_add,j9,and_self,splice,List.take_zero,y6];rw [List.drop_eq_nil_of_le V];simp
 have h2:=(Gp (λd:Data=>d) enc).1;simp only [List.map_id'] at h2;simp [l5,hx,h1,h2,h0,hc]
end
end S
end Go.y9
namespace Go.Proofs.YtibjocmpkoepoaaGreat
open Go.y9 Go.y9.S
attribute [local irreducible] Rx Ry Rn Ex Pf Rl
def dO (cs:List P4):s6:= .cells ((cs.flatMap P4.enc).map .d)
structure CO (c:o9)(v:List c7):Prop where
 len:O v=8
 I7:v.map c7.I7=c.enc.map .d
 F4:A2 v=0
 kill:∀id,K8 id v=v
theorem CO.enc (c:o9):CO c (c.enc.map .d):=⟨rfl,rfl,rfl,λ_=>rfl⟩
def xu:o9:=⟨[],[],[],[],[],[],[],[]⟩
def vz8:List c7:=[.own 4 0 [],.own 9 0 [],.own 3 0 [],.own 6 0 [],.own 4 0 [],.own 3 0 [],.own 2 0 [],.own 3 0 []]
theorem CO.zero:CO xu vz8:=⟨rfl,rfl,rfl,λ_=>rfl⟩
def t14 (n i:Int)(w5 w6 w7:c7):List c7:=[.ptr 1 0,.d (Z n),.ptr 2 0,.ptr 3 0,.d (Z i),w5,w6,w7]
def Qv (o0:s6)(xs:List Int)(q:Nat)(v:List c7)(nm:G4)(er rt:Int):List P4->k9
 |[]=>[o0,tp xs q,z8,.cells v,.cells [.d (.str nm),.N9,.d (Z er),.d (Z rt)]]
 |x::r=>[o0,tp xs q,z8,.cells v,tO nm (O r+1) er rt,dO (x::r)]++c8 (O r) .dead
section
variable {xs:List Int} {o0:s6} {q:Nat} (hx:O xs<=35184372088832) (hq:q<=4 * O xs)
include hx hq
set_option maxHeartbeats 8000000 in
theorem ak8 (c:o9)(v:List c7)(hC:CO c v)(hc:O c.j7<=10)(hc1:∀t,t∈c.j7->1<=O t.o7)(n i:Int)(nm:G4)(er rt:Int)(d8:Nat)(hM:1<=d8)(hM2:d8<=4)(w7:c7) :
  Ex A l1 2 (match XR.body with| .seq _ (.seq _ (.seq (.seq _ (.block _ (.loop _ (.seq _ (.seq (.block _ (.seq _ (.seq (.seq _ (.block _ c)) _))) _))))) _))=>c|c=>c) ⟨t14 n i (.ptr 4 0) (.d (Z d8)) w7,Qv o0 xs q v nm er rt []⟩ λx s=>x= .exit 2/\∃(cs:List P4) (q:Nat),q<=4 * O xs/\O cs=d8/\(∀x,x∈cs->x.C6=[])/\s=⟨t14 n i (.ptr 4 0) (.d (Z 0)) .any,Qv o0 xs q v nm er rt cs⟩:=by
 show Ex A l1 2 (.loop _ _) _ _
 refine Ex.L9 (λk T' H' =>∃(m:Int) (q:Nat) (cs:List P4),m=k/\q<=4 * O xs/\O cs+k=d8/\(∀x,x∈cs->x.C6=[])/\T' =t14 n i (.ptr 4 0) (.d (Z m)) .any/\H' =Qv o0 xs q v nm er rt cs) ?_ (k:=d8) ⟨d8,q,[],rfl,hq,U,U,rfl,rfl⟩;rintro k _ _ ⟨m,q1,cs,hmk,hq1,hk,Bk,rfl,rfl⟩;unfold t14;refine Ex.seq ?_;refine tl 0 m (λh=>?_) (λh=>?_)
 .have hcs:O cs<=3:=V
  have hb:∀j,D3 [z8,s6.cells v,.cells [.d (.str nm),.r7 5 7 0 j,.d (Z er),.d (Z rt)]]=6:=λj=>by simp [D3,bC,A2,c7.F4,z8,hC.F4]
  match cs,hk,hcs,Bk with
  |[],hk,hcs,Bk =>
   obtain ⟨x,q2,hxo,gM,Ui⟩:=Ui hx hq1 c V hc1 0 V 2 [] [.d (.str nm),.d (.slice 0 []),.d (Z er),.d (Z rt)] (.inl ⟨rfl,rfl,_,_,_,_,rfl⟩);unfold Qv;refine gr ?_;refine Ex.region (rg 1 (h:=?_));refine gm ?_;refine yp _ (SY rfl (eZ rfl hC.len) hC.I7) ?_;refine yp _ (SY rfl rfl rfl) ?_;refine gm ?_;refine yp _ (pLs rfl) ?_;refine lC2 (m:=2) (nn:=2) Ui rfl (x3 _) rfl (by decide) rfl rfl U rfl (h2:=?_);refine yp _ (pOn rfl rfl rfl (by decide)) ?_;refine lAz rfl ⟨by decide,by decide⟩ (by decide) (h2:=?_);refine gl ?_;refine ys (H2:=[o0,tp xs q2,z8,.cells v,.cells [.d (.str nm),.r7 5 7 0 1,.d (Z er),.d (Z rt)],dO [x]]) rfl ⟨rfl,rfl⟩ rfl rfl rfl (.inr ⟨by decide,by decide⟩) rfl ?_;refine lN ?_;refine gr ?_;exact kk ⟨_,_,ye (λh' =>by have h2:D3 [z8,s6.cells v,.cells [.d (.str nm),.r7 5 7 0 1,.d (Z er),.d (Z rt)]]<=5:=h';rw [hb] at h2;omega),m - 1,q2,[x],V,gM,by simp at hk ⊢;omega,by simp [hxo],rfl,rfl⟩
  |x0::r,hk,hcs,Bk =>
   obtain ⟨cs,he⟩:∃cs,x0::r=cs:=⟨_,rfl⟩;obtain ⟨d,hd⟩:∃d,O r=d:=⟨_,rfl⟩;have hl:O cs=d+1:=by rw [<- he,<- hd];rfl
   refine Ex.nS _ ([o0,tp xs q1,z8,.cells v,tO nm (O r+1) er rt,dO (x0::r)]++c8 (O r) .dead) ?_;have hsn:∀(x:P4) (q2:Nat),[o0,tp xs q2,z8,.cells v,tO nm (d+1+1) er rt,.cells ((cs.flatMap P4.enc).map .d++x.enc.map .d)]++c8 (d+1) .dead=Qv o0 xs q2 v nm er rt (cs++[x]):=λx q2=>by
    rw [<- he,<- hd];simp [Qv,dO]
   rw [he] at hk hcs Bk ⊢;rw [hd];obtain ⟨x,q2,hxo,gM,Ui⟩:=Ui hx hq1 c V hc1 (d+1) V 6 [z8,.cells v,tO nm (d+1) er rt,dO cs] (tA nm (d+1) er rt) (.inr ⟨rfl,_,_,_,_,_,d+1,_,_,rfl,rfl⟩);have Ve:D3 [z8,s6.cells v,tO nm (d+1) er rt,dO cs]<=6:=by
    have e:(dO cs).F4=0:=lD _;simp only [D3,e];simp [bC,A2,c7.F4,z8,hC.F4,tO,tA]
   have hst:∀X,l1.fM 2 6 6 (A6 ([o0,tp xs q1,z8,.cells v,tO nm (d+1) er rt,dO cs]++X) 2 6)=⟨2,6,6,2⟩:=λX=>by simp [F9.fM,l1,A6,T7,bC,A2,c7.F4,z8,hC.F4,tO,tA]
   have Sb:d=0\/d=1\/d=2:=V
   rcases Sb with rfl|rfl|rfl
   all_goals
    simp only [c8,x7,y6];refine gr ?_;refine Ex.region (rg 1 (h:=?_));refine gm ?_;refine yp _ (SY rfl (eZ rfl hC.len) hC.I7) ?_;refine gm ?_;refine yp _ (ap5 rfl) ?_;refine lC2 (m:=2) (nn:=6) Ui rfl Ve (G9 Ve) (by decide) rfl rfl U (hst _) (h2:=?_);refine yp _ (pOn rfl rfl rfl (by decide)) ?_;refine lAk (m:=1) (cs:=x.enc.map .d) (old:=(cs.flatMap P4.enc).map .d) (T2:=[.ptr 1 0,.d (Z n),.ptr 2 0,.ptr 3 0,.d (Z i),.ptr 4 0,.d (Z m),.any]) (hr:=by decide) (hc:=rfl) (Uc:=by rw [A1,S9 (enc:=P4.enc) (sz:=7) (λ_=>rfl),hl]) (hone:=rfl) (hbc:=rfl) (hT:=rfl) (hH:=by simp only [show l1.base=2 from rfl,List.take_succ_cons,List.take_zero,List.drop_succ_cons,List.drop_zero,E8,List.map_nil,x7,y6,o4,o5,s6.kill,hC.kill,GW]<;>rfl) (h2:=?_);refine gl ?_;refine ys rfl ⟨rfl,rfl⟩ rfl rfl rfl (.inr ⟨by decide,by decide⟩) rfl ?_;refine lN ?_;refine gr ?_;refine kk ⟨_,_,ye (λh' =>?_),m - 1,q2,cs++[x],V,gM,D,oQ Bk hxo,rfl,?_⟩
    .have h2:D3 [z8,s6.cells v,.cells [.d (.str nm),.r7 5 7 0 _,.d (Z er),.d (Z rt)]]<=5:=h'
     rw [hb] at h2;omega
    .rw [<- hsn x q2]
     rfl
 .refine Ex.exit ?_
  have hm0:m=0:=V
  exact ⟨rfl,cs,q1,hq1,V,Bk,by rw [hm0]⟩
end
def zZ (cs:List P4):List (P4×c7):=cs.map λx=>(x,.d (s7 Ed x.C6))
theorem UN:∀cs:List P4,dO cs=cO (zZ cs):=λcs=>by
 unfold dO cO
 congr 1
 induction cs with
 |nil=>rfl
 |cons x cs ih=>rw [List.flatMap_cons,List.map_append,ih];rfl
theorem Gl {cs:List P4}(h:∀x,x∈cs->x.C6=[]):wf 2 (zZ cs):=λp hp=>by
 obtain ⟨x,hx,rfl⟩:=List.mem_map.1 hp;exact ⟨⟨rfl,rfl⟩,M⟩
theorem yj:∀(a b:List c7) (x y:List y9.Data),H7 a=J x->H7 b=J y->H7 (a++b)=J (x++y)
 |[],b,x,y,h,h2=>by simp_all [H7,Option.some.injEq]
 |v::a,b,x,y,h,h2=>by
  simp [H7,x7] at h ⊢;split at h
  .split at h
   next zs hzs=>
    cases h;simp [yj a b zs y hzs h2]
   .cases h
  .cases h
theorem Li {α:Type}{enc:α->List y9.Data}{l:List α}{w:c7}(h:Ou enc l w):w.data? =J (s7 enc l):=by
 have h1:=h.1;cases w<;>simp_all [c7.I7,c7.data?]
theorem BG:∀{l:List (P4×c7)} {f8:Nat},wf f8 l->H7 (l.flatMap fI)=J ((l.map (·.1)).flatMap P4.enc)
 |[],_,_=>rfl
 |p::l,f8,h=>by
  refine yj _ _ _ _ ?_ (BG λx hx=>h x (by simp [hx]));have:=Li (h p U).1;simp [fI,H7,this];rfl
theorem ae3 {o0:s6}{xs:List Int}{q:Nat}{v:List c7}{c:o9}(hC:CO c v){l:List (P4×c7)}{f8:Nat}(hw:wf f8 l)(nm:G4)(er rt n i m:Int)(w7:c7)(d:Nat)(hl:O l=d+1) :
  jN l1 2 5 ⟨[.ptr 1 0,.d (Z n),.ptr 2 0,.ptr 3 0,.d (Z i),.ptr 4 0,.d (Z m),.any],[o0,tp xs q,z8,.cells v,tO nm (d+1) er rt,cO l]++c8 d .dead⟩ =
   J ⟨[.ptr 1 0,.d (Z n),.ptr 2 0,.ptr 3 0,.d (Z i),.ptr 4 0,.d (Z m),.any],[o0,tp xs q,z8,.cells v,.cells [.d (.str nm),.d (s7 P4.enc (l.map (·.1))),.d (Z er),.d (Z rt)],.dead]++c8 d .dead⟩:=by
 have e:rd ([o0,tp xs q,z8,.cells v,.cells [.d (.str nm),.r7 5 7 0 (d+1),.d (Z er),.d (Z rt)],cO l]++c8 d .dead) 5 0 ((d+1) * 7)=J (l.flatMap fI):=eZ rfl (by rw [JX,hl]);simp [x7,y6] at e;simp [jN,oF,List.getElem?_cons_succ,List.getElem?_cons_zero,x7,y6,tO,tA,pE,e,BG hw];simp [l1,F9.may,K8,c7.kill,s6.kill,hC.kill,z8,hl,s7]
theorem sU {c:o9}(hv:D0 c=W):∀t,t∈c.j7->1<=O t.o7:=λt ht=>by
 obtain ⟨k,hk,rfl⟩:=E9 ht;rw [<- D6 hk];exact (ep (S1 ((Z1 hv).1 k (by have:=Q1 c;grind [o9.ns])) hk)).1
def Ls:cw:=⟨[116,48],[⟨[99,48],1,[112,101,114,115,111,110],[],[],0,0⟩,⟨[99,49],2,[],[],[0],0,0⟩],0,0⟩
def Ox:o9:=⟨[Ls],[],[],[],[],[],[],[]⟩
theorem SH:D0 Ox=W:=by kernel_rfl
theorem SG:gY Ox 1 0 0:=by
 refine ⟨by decide,by decide,?_,?_,by decide,by decide,by decide,by decide,by decide,by decide,?_⟩
 .intro x hx
  rw [L1.1 hx];refine ⟨by decide,λy hy=>?_⟩;have:y∈[(⟨[99,48],1,[112,101,114,115,111,110],[],[],0,0⟩:P4),⟨[99,49],2,[],[],[0],0,0⟩]:=hy
  grind
 .intro x hx;cases hx
 .intro x hx;cases hx
theorem ac6:gY xu 0 0 0:=⟨by decide,by decide,(by simp [xu]),(by simp [xu]),by decide,by decide,by decide,by decide,by decide,by decide,(by simp [xu])⟩
theorem gY.mono {c:o9}{a b n a' b' n' :Nat}(h:gY c a b n)(ha:a<=a')(hb:b<=b')(hn:n<=n'):gY c a' b' n' :=by
 obtain ⟨h1,h2,h3,h4,h5,h6,h7,h8,h9,RO,UU⟩:=h;exact ⟨V,V,h3,h4,V,V,V,V,V,V,UU⟩
theorem CO.wr0 {c:o9}{v:List c7}(h:CO c v){H:k9}(hH:H[3]? =J (.cells v))(w:c7):wr H 3 0 [w]=J (H.set 3 (.cells (v.set 0 w))):=by
 have hl:=h.len;simp_all [wr,pV,if_pos]
theorem CO.wrA {c:o9}{v:List c7}(h:CO c v){H:k9}(hH:H[3]? =J (.cells v))(d:o9):wr H 3 0 (d.enc.map .d)=J (H.set 3 (.cells (d.enc.map .d))):=by
 have hl:=h.len;have hd:O (d.enc.map c7.d)=8:=rfl;simp_all [splice,List.take_zero,y6,n5,List.append_nil,wr,if_pos]
theorem CO.av4 {c:o9}{v:List c7}(h:CO c v)(ts:List cw):(v.set 0 (A8 4 cw.enc ts)).map c7.I7=(o9.enc { c with j7:=ts }).map .d:=by
 rw [List.map_set,h.I7];rfl
theorem CO.at0 {c:o9}{v:List c7}(h:CO c v):∃w,(∀H:k9,H[3]? =J (.cells v)->rd H 3 0 1=J [w])/\w.I7= .d (s7 cw.enc c.j7):=by
 obtain ⟨h1,h2,_,_⟩:=h
 match v,h1 with
 |w::r,h1 =>
  have h3:w.I7= .d (s7 cw.enc c.j7):=(List.cons.inj h2).1
  grind [rd]
section
variable {xs:List Int} {o0:s6} {q:Nat} (hx:O xs<=35184372088832) (hq:q<=4 * O xs)
include hx hq
set_option maxHeartbeats 4000000 in
theorem UC (c:o9)(v:List c7)(hC:CO c v){m:Nat}(hm:1<=m)(hcs:gY c m 0 0)(RY:c=xu\/D0 c=W/\1<=O c.j7)(n i:Int)(w5 w6 w7:c7)(X:k9) :
  Ex A l1 2 (match XR.body with| .seq _ (.seq _ (.seq _ c))=>c|c=>c) ⟨t14 n i w5 w6 w7,[o0,tp xs q,z8,.cells v]++X⟩ λx s=>∃w q',R4 XR 2 (J (x,s))=J (w,[o0,tp xs q'])/\q' <=4 * O xs/\∃c,w=cat c/\D0 c=W/\gY c m 0 0/\1<=O c.j7:=by
 obtain ⟨w,hr,hw⟩:=hC.at0;simp [x7];refine gx ?_;refine Ex.cM (x4 (O c.j7) 0) (Rn.text ?_) (λh=>?_) (λh=>?_)
 .repeat' (first|refine QA (hr _ rfl) hw ?_|refine gx ?_|refine fq (λhw=>?_) λhw=>?_|refine ⟨rfl,rfl,_,rfl,?_⟩|refine ⟨rfl,rfl⟩|fail)
  rfl
 .have h0:=W6 h
  have hc0:c=xu:=by
   simp_all
  subst hc0
  repeat' (first|refine Ry.pure (v:=A8 7 P4.enc Ls.o7) (rs:=[]) rfl (by rfl) ?_|refine oN (enc:=cw.enc) Ls ?_|refine gx ?_|fail)
  refine Py (hC.wr0 rfl (A8 4 cw.enc [Ls])) (h2:=?_)
  repeat' (first|refine xF (ws:=Ox.enc.map .d) (eZ rfl (by rw [List.length_set,hC.len])) (hC.av4 [Ls]) ?_|refine gx ?_|fail)
  exact ⟨_,q,rfl,hq,Ox,rfl,SH,SG.mono V V V,by decide⟩
 .repeat' (first|refine xF (eZ rfl hC.len) hC.I7 ?_|refine gx ?_|fail)
  refine ⟨_,q,rfl,hq,c,rfl,?_,hcs,?_⟩
  .rcases RY with rfl|h2
   .cases (jF h) rfl
   .exact h2.1
  grind [jF]
set_option maxHeartbeats 16000000 in
theorem q14 (n:Nat)(hn:1<=n/\n<=10):Tq xs o0 l1 14 [.ptr 1 0,.d (Z n)] q λv=>∃c,v=cat c/\D0 c=W/\gY c n 0 0/\1<=O c.j7:=by
 refine Tq.go 6 ?_;refine gr ?_;refine Ex.L9 (λk T' H' =>∃(i q:Nat) (c:o9) (v:List c7),q<=4 * O xs/\i+k=n/\CO c v/\gY c i 0 0/\(c=xu\/D0 c=W/\1<=O c.j7)/\T' =t14 n i .any .any .any/\H' =[o0,tp xs q,z8,.cells v]) ?_ (k:=n) ⟨0,q,xu,vz8,hq,V,CO.zero,ac6,.inl rfl,rfl,rfl⟩;rintro k _ _ ⟨i,q1,c,v,hq1,hk,hC,hcs,RY,rfl,rfl⟩;have hc1:∀t,t∈c.j7->1<=O t.o7:=by
  rcases RY with rfl|RY
  .intro t ht;cases ht
  .exact sU RY.1
 have Sv:=hcs.tl;unfold t14;refine Ex.seq ?_;refine tl i n (λh=>?_) (λh=>?_)
 .obtain ⟨a,pn⟩:=QH [116] (by decide) (n:=i) V V
  obtain ⟨nm,hnm⟩:∃n,[116]++[a]=n:=⟨_,rfl⟩;rw [hnm] at pn;refine gc pn ?_;refine nx λer q2 gM _ _=>?_
  repeat' (first|refine bk Z [0,0,25,40] ?_|refine gx ?_|fail)
  refine nx λr2 q3 jQ s0 s1=>?_
  refine Bm (h2:=?_);obtain ⟨rt,Lb⟩:∃d,Y [(0:Int),0,25,40] r2.toNat=d:=⟨_,rfl⟩;rw [Lb]
  repeat' (first|refine qm (cs:=[.d (.str nm),.N9,.d (Z er),.d (Z rt)]) ?_|refine gx ?_|fail)
  refine nx λr3 q4 qn t0 t1=>?_
  obtain ⟨d8,hM⟩:∃d8:Nat,(d8:Int)=2+r3:=⟨(2+r3).toNat,V⟩;refine gx ?_;rw [<- hM];refine gr ?_;refine Ex.blk (λs=>∃(cs:List P4) (q:Nat),q<=4 * O xs/\O cs=d8/\(∀x,x∈cs->x.C6=[])/\s=⟨t14 n i (.ptr 4 0) (.d (Z 0)) .any,Qv o0 xs q v nm er rt cs⟩) ((ak8 hx qn c v hC V hc1 n i nm er rt d8 V V .any).mono λx s ⟨h1,h2⟩=>⟨.inr h1,h2⟩) ?_;rintro _ ⟨cs,q5,vm,hcl,Bk,rfl⟩;obtain ⟨d,hd⟩:∃d,O cs=d+1:=⟨d8 - 1,V⟩;have ah4:Qv o0 xs q5 v nm er rt cs=[o0,tp xs q5,z8,.cells v,tO nm (d+1) er rt,cO (zZ cs)]++c8 d .dead:=by
   rw [<- UN];cases cs with
   |nil=>simp at hd
   |cons x r =>
    have:O r=d:=by simpa using hd
    rw [<- this];rfl
  have hl:O (zZ cs)=d+1:=by rw [<- hd];simp [zZ]
  obtain ⟨XU,l',q6,hl',Yl,GL,Wh⟩:=Wh hx vm c V hc1 (.cells v) hC.F4 (zZ cs) V (Gl Bk) nm er rt;rw [hl] at Wh hl';unfold h6 at Wh;rw [ah4];have Ve:D3 [z8,s6.cells v,tO nm (d+1) er rt,cO (zZ cs)]<=6:=by
   have e:(cO (zZ cs)).F4=0:=(Gl Bk).F4;simp only [D3,e];simp [bC,A2,c7.F4,z8,hC.F4,tO,tA]
  have hst:∀X,(⟨l1.Ef,l1.Ee,6,A6 ([o0,tp xs q5,z8,.cells v,tO nm (d+1) er rt,cO (zZ cs)]++X) 2 6⟩:F9)=⟨0,0,6,2⟩:=λX=>by simp [l1,A6,T7,bC,A2,c7.F4,z8,hC.F4,tO,tA]
  unfold t14;simp only [x7,y6]
  repeat' (first|refine xF (eZ rfl hC.len) hC.I7 ?_|refine xF (ws:=tA nm (d+1) er rt) rfl rfl ?_|refine gx ?_|fail)
  refine ct (m:=6) Wh (cQ:=Ve) (hcl:=G9 Ve) (jH:=hst _) (h2:=?_);refine Rc rfl ⟨rfl,rfl⟩ rfl rfl rfl (.inr ⟨by decide,by decide⟩) rfl ?_;refine gr ?_;refine Ex.nS _ ([o0,tp xs q6,z8,.cells v,tO nm (d+1) XU rt,cO l']++c8 d .dead) ?_;refine Ex.fz (ae3 hC Yl nm XU rt n i 0 .any d hl') ?_;obtain ⟨w,hr,hw⟩:=hC.at0;obtain ⟨M6,Ar⟩:∃M6:cw,⟨nm,l'.map (·.1),XU,rt⟩=M6:=⟨_,rfl⟩;have hte:[c7.d (.str nm),.d (s7 P4.enc (l'.map (·.1))),.d (Z XU),.d (Z rt)].map c7.I7=M6.enc.map .d:=by rw [<- Ar];rfl
  have htS:Uy M6:=by
   subst Ar;refine ⟨D,λx hx=>?_⟩;obtain ⟨p,hp,rfl⟩:=List.mem_map.1 hx;have:=(Yl p hp).2;omega
  obtain ⟨c',nR⟩:∃c' :o9,{ c with j7:=c.j7++[M6] }=c' :=⟨_,rfl⟩;have jP :gY c' (i+1) 0 0:=by
   subst nR;exact { hcs with tl:=D,ts:=oQ hcs.ts htS }
  have hce:((c.enc.map c7.d).set 0 (A8 4 cw.enc (c.j7++[M6]))).map c7.I7=c'.enc.map .d:=by rw [<- nR];rfl
  have hct:1<=O c'.j7:=by rw [<- nR];simp
  have JE:=jP.small V V V;have Sb:d=1\/d=2\/d=3:=V
  rcases Sb with Sb|Sb|Sb
  all_goals
   rw [Sb];simp only [c8,x7,y6]
   repeat' (first|refine xF (eZ rfl hC.len) hC.I7 ?_|refine eN ?_|refine QA (hr _ rfl) hw ?_|refine xF rfl hte ?_|refine oN (enc:=cw.enc) M6 ?_|refine Nv (enc:=cw.enc) (ys:=[M6]) (h2:=?_)|refine Bp (h2:=?_)|refine gx ?_|fail)
   refine Ex.join (λst=>∃(c:o9) (v:List c7) (w5 w7:c7) (X:k9),CO c v/\gY c (i+1) 0 0/\(c=xu\/D0 c=W/\1<=O c.j7)/\st=⟨t14 n i w5 (.d (Z 0)) w7,[o0,tp xs q6,z8,.cells v]++X⟩) ?_ ?_
   .refine Ex.test (Rn.text ?_)
    repeat' (first|refine xF rfl hce ?_|refine cl (Fu c' JE) ?_|refine gx ?_|fail)
    refine ⟨_,rfl,λh5=>?_,λh5=>?_⟩
    .repeat' (first|refine xF rfl hce ?_|refine gx ?_|fail)
     refine Rc rfl ⟨rfl,rfl⟩ rfl rfl rfl (.inl (x3 _)) (hC.wrA rfl c') ?_;refine gr ?_;exact ⟨c',_,_,_,_,CO.enc c',jP,.inr ⟨h5,hct⟩,rfl⟩
    .exact Ex.skip ⟨c,v,_,_,_,hC,hcs.mono V V V,RY,rfl⟩
   rintro _ ⟨c2,v2,w5,w7,X,Qe,Vj,Vk,rfl⟩;obtain ⟨w2,Fb,Iw⟩:=Qe.at0;unfold t14;simp only [x7,y6];refine tt (λq7 wZ=>?_) (λq7 wZ=>?_) (h:=?_)
   .exact Ex.exit (UC hx wZ c2 v2 Qe hn.1 (Vj.mono V V V) Vk n i _ _ _ X)
   .refine gr ?_
    exact kk ⟨_,_,B2 (j4 rfl) (by show D3 [z8,.cells v2]<=4;simp [D3,bC,Qe.F4,z8,A2,c7.F4]),i+1,q7,c2,v2,wZ,V,Qe,Vj,Vk,rfl,rfl⟩
   .refine Rn.text ?_
    repeat' (first|refine QA (Fb _ rfl) Iw ?_|refine nx (λ_ _ _ _ _=>?_)|refine gx ?_|refine fk (h1:=λhw=>?_) (h2:=λhw=>?_)|exact ⟨rfl,⟨_,by assumption,rfl⟩,_,rfl⟩|fail)
 .exact Ex.exit (UC hx hq1 c v hC hn.1 (hcs.mono V V V) RY n i _ _ _ [])
end
section
variable {xs:List Int} {o0:s6} {l:F9} {b:Nat} {j8 ops:List x9} {T:List c7} {HD:k9} {k:Nat} {rl:List c7} {l6:List y9.Touch} {Q:List c7->k9->List c7->Prop} {q:Nat} {os:List A3} {u:List Nat}
theorem nxT {n:Int}{s:Nat}(hx:O xs<=35184372088832)(hq:q<=4 * O xs)(h2:∀(r:Int) (q' :Nat),q' <=4 * O xs->0<=r->r<n->Ry A l b F j8 ops (T.set s (.d (Z r))) (o0::tp xs q' ::HD) (k+1) (.d (Z r)::rl) (.slot s:: .below 2::l6) Q)
  (ha:os.map (rq T k rl)=[.ptr 1 0,.d (Z n)]:=by rfl) (hn:1<=n/\n<=1000000:=by omega) (hs:l.strict=2:=by rfl) (hm:l.may 1=W:=by rfl) (ht:Nat.ble (s+1) (O T)=W:=by rfl) :
  Ry A l b F j8 (⟨.call 22 os,J s,K,u⟩::ops) T (o0::tp xs q::HD) k rl l6 Q:=by
 obtain ⟨_,q',h1,⟨r,rfl,h3,h4⟩,p⟩:=pN (o0:=o0) (l:=⟨l.Ef,l.Ee,2,2⟩) hx hq n hn hm;have e:A6 (o0::tp xs q::HD) l.strict 2=2:=by simp [A6,hs]
 refine ctT (m:=2) (H0:=[o0,tp xs q]) (HD:=HD) (H2:=o0::tp xs q' ::HD) p rfl ?_ ?_ rfl ?_ ?_ ha rfl rfl rfl rfl rfl (j4 ht) rfl (h2 r q' h1 h3 h4)
 .simp [hs,D3]
 .rw [hs,show A2 [c7.ptr 1 0,.d (Z n)]=2 from rfl];exact G9 (by simp [D3])
 .simp
 .rw [e]
end
theorem pF (s:G4)(hs:O s<=1000)(n:Nat)(hn:n<=1000):∃c,Pf A 41 [.d (.str s),.d (Z n)] (.d (.str (s++[c]))):=QH s hs V V
section
variable {xs:List Int} {o0:s6} {q:Nat} (hx:O xs<=35184372088832) (hq:q<=4 * O xs)
include hx hq
set_option maxHeartbeats 8000000 in
theorem q65:Tq xs o0 l1 65 [.ptr 1 0] q λv=>∃c,v=cat c/\D0 c=W/\gY c 3 3 6/\1<=O c.j7:=by
 refine Tq.go 8 ?_;refine gr ?_;refine tq (q14 hx hq 3 (by decide)) ?_;rintro _ q1 hq1 ⟨c0',rfl,VM,hs0,VI⟩;refine tq (q13 hx hq1 VM hs0 (by decide) VI 3 (by decide)) ?_;rintro _ q2 gM ⟨cb,rfl,hvb,vp,htb⟩;refine gc (WV cb (vp.small (by decide) (by decide) (by decide)).sm.eD) ?_;have hnb:1<=O (o9.sn cb)/\O (o9.sn cb)<=100:=by
  have h1:=S7 cb;have h2:=vp.tl;have h3:=vp.vl;unfold o9.ns at h1;rw [<- htb] at VI;omega
 refine Ex.L9 (λk T' H' =>∃(i q:Nat) (c:o9),q<=4 * O xs/\i+k=6/\D0 c=W/\gY c 3 3 i/\1<=O c.j7/\T' =[.ptr 1 0,.ptr 2 0,.ptr 3 0,.d (s7 encS (o9.sn cb)),.d (Z i),.any,.any,.any,.any]/\H' =[o0,tp xs q,z8,.cells (c.enc.map .d)]) ?_ (k:=6) ⟨0,q2,cb,gM,V,hvb,vp.mono V V V,by rw [htb];exact VI,rfl,rfl⟩;rintro k _ _ ⟨i,q3,c,jQ,hk,hv,hs,ht,rfl,rfl⟩;refine Ex.seq ?_;refine tl i 6 (λh=>?_) (λh=>?_)
 .obtain ⟨a0,pa0⟩:=pF [105] (by decide) i V
  obtain ⟨a1,pa1⟩:=pF [115] (by decide) i V;obtain ⟨a2,pa2⟩:=pF [104] (by decide) i V;obtain ⟨a3,pa3⟩:=pF [114] (by decide) i V;obtain ⟨a4,pa4⟩:=pF [109] (by decide) i V;obtain ⟨a5,pa5⟩:=pF [98] (by decide) i V;have sr:=hs.il;have qo:=hs.sl;have hcl:=hs.cl;have hrl:=hs.rl;have hml:=hs.ml;have hbl:=hs.bl
  iterate 9 refine gx ?_
  refine Ex.seq ?_;refine Ex.region (rg 0 (h:=?_));refine gm ?_;refine lx λr q4 qn r0 r1=>?_
  refine gm ?_;refine lx λwX q5 vm _ _=>?_
  refine gm ?_;obtain ⟨s,hsn⟩:∃s,Y (o9.sn cb) r.toNat=s:=⟨_,rfl⟩;rw [hsn];refine gr ?_;refine nxT hx vm λr q6 GL r0 r1=>?_
  refine gr ?_;have hs2:=hs.mono (j9 _) (j9 _) (Nat.le_succ i);refine Ex.Hw (λst=>∃(d:o9) (vs:List c7) (q:Nat),q<=4 * O xs/\gY d 3 3 (i+1)/\d.j7=c.j7/\O vs=8/\vs.map c7.I7=d.enc.map .d/\st=⟨[.ptr 1 0,.ptr 2 0,.ptr 3 0,.d (s7 encS (o9.sn cb)),.d (Z i),.ptr 4 0,.d (.str s),.d (Z wX),.d (Z r)],[o0,tp xs q,z8,.cells (c.enc.map .d),.cells vs]⟩) ?_ ?_
  .refine te trivial ?_ (te trivial ?_ (te trivial ?_ (te trivial ?_ (te trivial ?_ ?_))))
   .repeat' (first|refine cl (pa0) ?_|refine eN ?_|refine gx ?_|fail)
    repeat' (first|refine oN (enc:=gZ.enc) ⟨[105]++[a0],s,wX⟩ ?_|refine Nv (enc:=gZ.enc) (ys:=[⟨[105]++[a0],s,wX⟩]) (h2:=?_)|refine Bp (h2:=?_)|refine gx ?_|fail)
    exact ⟨{ c with idxs:=c.idxs++[⟨[105]++[a0],s,wX⟩] },(c.enc.map .d).set 2 (A8 3 gZ.enc (c.idxs++[⟨[105]++[a0],s,wX⟩])),q6,GL,{ hs2 with il:=by simp;omega },rfl,rfl,rfl,rfl⟩
   .repeat' (first|refine cl (pa1) ?_|refine eN ?_|refine gx ?_|fail)
    refine nx λn0 q7 wZ _ _=>?_
    refine gr ?_;refine nx λn1 q8 JD _ _=>?_
    refine gr ?_;refine nx λn2 q9 Qs _ _=>?_
    repeat' (first|refine oN (enc:=gW.enc) ⟨[115]++[a1],s,wX,n0,1+n1,1+n2⟩ ?_|refine Nv (enc:=gW.enc) (ys:=[⟨[115]++[a1],s,wX,n0,1+n1,1+n2⟩]) (h2:=?_)|refine Bp (h2:=?_)|refine gx ?_|fail)
    exact ⟨{ c with G7:=c.G7++[⟨[115]++[a1],s,wX,n0,1+n1,1+n2⟩] },(c.enc.map .d).set 3 (A8 6 gW.enc (c.G7++[⟨[115]++[a1],s,wX,n0,1+n1,1+n2⟩])),q9,Qs,{ hs2 with sl:=by simp;omega },rfl,rfl,rfl,rfl⟩
   .repeat' (first|refine cl (pa2) ?_|refine eN ?_|refine gx ?_|fail)
    refine nx λn0 q7 wZ _ _=>?_
    repeat' (first|refine oN (enc:=jK.enc) ⟨[104]++[a2],s,wX,1+n0⟩ ?_|refine Nv (enc:=jK.enc) (ys:=[⟨[104]++[a2],s,wX,1+n0⟩]) (h2:=?_)|refine Bp (h2:=?_)|refine gx ?_|fail)
    exact ⟨{ c with I5:=c.I5++[⟨[104]++[a2],s,wX,1+n0⟩] },(c.enc.map .d).set 4 (A8 4 jK.enc (c.I5++[⟨[104]++[a2],s,wX,1+n0⟩])),q7,wZ,{ hs2 with cl:=by simp;omega },rfl,rfl,rfl,rfl⟩
   .repeat' (first|refine cl (pa3) ?_|refine eN ?_|refine gx ?_|fail)
    refine nx λn0 q7 wZ _ _=>?_
    repeat' (first|refine oN (enc:=jD.enc) ⟨[114]++[a3],s,1+n0⟩ ?_|refine Nv (enc:=jD.enc) (ys:=[⟨[114]++[a3],s,1+n0⟩]) (h2:=?_)|refine Bp (h2:=?_)|refine gx ?_|fail)
    exact ⟨{ c with J5:=c.J5++[⟨[114]++[a3],s,1+n0⟩] },(c.enc.map .d).set 5 (A8 3 jD.enc (c.J5++[⟨[114]++[a3],s,1+n0⟩])),q7,wZ,{ hs2 with rl:=by simp;omega },rfl,rfl,rfl,rfl⟩
   .repeat' (first|refine cl (pa4) ?_|refine eN ?_|refine gx ?_|fail)
    repeat' (first|refine oN (enc:=me.enc) ⟨[109]++[a4],s⟩ ?_|refine Nv (enc:=me.enc) (ys:=[⟨[109]++[a4],s⟩]) (h2:=?_)|refine Bp (h2:=?_)|refine gx ?_|fail)
    exact ⟨{ c with J6:=c.J6++[⟨[109]++[a4],s⟩] },(c.enc.map .d).set 6 (A8 2 me.enc (c.J6++[⟨[109]++[a4],s⟩])),q6,GL,{ hs2 with ml:=by simp;omega },rfl,rfl,rfl,rfl⟩
   .repeat' (first|refine cl (pa5) ?_|refine eN ?_|refine gx ?_|fail)
    refine nx λn0 q7 wZ _ _=>?_
    repeat' (first|refine oN (enc:=mc.enc) ⟨[98]++[a5],[s],1+n0⟩ ?_|refine Nv (enc:=mc.enc) (ys:=[⟨[98]++[a5],[s],1+n0⟩]) (h2:=?_)|refine Bp (h2:=?_)|refine gx ?_|fail)
    exact ⟨{ c with L4:=c.L4++[⟨[98]++[a5],[s],1+n0⟩] },(c.enc.map .d).set 7 (A8 3 mc.enc (c.L4++[⟨[98]++[a5],[s],1+n0⟩])),q7,wZ,{ hs2 with bl:=D,bk:=oQ hs.bk U },rfl,rfl,rfl,rfl⟩
  rintro _ ⟨d,vs,q7,wZ,hd,hdt,hvl,hva,rfl⟩;refine Ex.test (Rn.text ?_)
  repeat' (first|refine xF (eZ rfl hvl) hva ?_|refine cl (Fu d (hd.small (by decide) (by decide) V)) ?_|refine gx ?_|fail)
  refine ⟨_,rfl,λh5=>?_,λh5=>?_⟩
  .repeat' (first|refine xF (eZ rfl hvl) hva ?_|refine gx ?_|fail)
   exact kk ⟨_,_,B2 (j4 rfl) (j4 rfl),i+1,q7,d,wZ,V,h5,hd,by rw [hdt];exact ht,rfl,rfl⟩
  .refine gr ?_
   exact kk ⟨_,_,B2 (j4 rfl) (j4 rfl),i+1,q7,c,wZ,V,hv,hs2,ht,rfl,rfl⟩
 .refine gr ?_
  exact ⟨_,q3,rfl,jQ,c,rfl,hv,hs.mono V V V,ht⟩
end
end Go.Proofs.YtibjocmpkoepoaaGreat


import Derived.Test.YtibjocmpkoepoaaGreatS0
import Derived.Test.YtibjocmpkoepoaaGreatX0
set_option linter.all false
open Bool renaming and_eq_true→c7,false_eq_true→j4,true→W,false→F
open List renaming map_cons→K0,mem_cons→B6,mem_singleton→q8,replicate→c9,take_of_length_le→z7,length→O
open Nat renaming beq→u5,eq_of_beq_eq_true→j5,zero_le→O0
open Option renaming some→J,none→K
namespace Go.A1.S
section
variable {A:Prog} {l:I7} {b:Nat}
variable {dr:Bool} {l5 ops:List p7} {T:List c8} {H:q6} {n:Nat} {rl:List c8} {o9:List Touch} {Q:List c8->q6->List c8->Prop}
def bq {op:BinOp}{a c r:Data}(h:Q9 op a c=J r){x y:y7}{u:List Nat}(h2:Ry A l b dr l5 ops T H (n+1) (.d r::rl) o9 Q)(hx:rq T n rl x= .d a:=by rfl)(hy:rq T n rl y= .d c:=by rfl) :
  Ry A l b dr l5 (⟨.bin op x y,K,K,u⟩::ops) T H n rl o9 Q:=Ry.pure (rs:=[]) rfl (by simp only [o7,hx,hy,h]) h2
def ci {k k' :IntKind}{c d:Int}(h:k.wrap c=d){x:y7}{u:List Nat}(h2:Ry A l b dr l5 ops T H (n+1) (.d (.int k d)::rl) o9 Q)(hx:rq T n rl x= .d (.int k' c):=by rfl) :
  Ry A l b dr l5 (⟨.ql k x,K,K,u⟩::ops) T H n rl o9 Q:=Ry.pure (rs:=[]) rfl (by simp only [o7,hx,h]) h2
end
end Go.A1.S
namespace Go.Proofs.YtibjocmpkoepoaaGreat
open Go.A1 Go.A1.S
attribute [local irreducible] Rx Ry Rn Ex Pf
def tp (xs:List Int)(p:Nat):y6:= .cells [.d (C6 (λn=>[Z n]) xs),.d (Z (p:Int))]
def bc1 (z:Int){n:Int}(h2:2<=n)(h3:n<=1000000):∃r q:Int,Q9 .rem (.int .i64 z) (.int .i64 n)=J (.int .i64 q)/\ -n<q/\q<n/\Q9 .rem (.int .i64 (q+n)) (.int .i64 n)=J (.int .i64 r)/\0<=r/\r<n:=by
 have h1:=Int.tmod_lt_of_pos z (show 0<n by omega);have h4: -n<z.tmod n:=by
  by_cases hz:z<0
  .have e:z.tmod n= -((-z).tmod n):=by rw [<- Int.neg_tmod,Int.neg_neg]
   have:=Int.tmod_lt_of_pos (-z) (show 0<n by omega);omega
  .have:=Int.tmod_nonneg (a:=z) n V
   omega
 have h5:=Int.tmod_lt_of_pos (z.tmod n+n) (show 0<n by omega);have h6:=Int.tmod_nonneg (a:=z.tmod n+n) n V;refine ⟨(z.tmod n+n).tmod n,z.tmod n,?_,h4,h1,?_,h6,h5⟩
 .simp [Q9,aT,cZ];omega
 .simp [Q9,aT,cZ];omega
def Tt (xs:List Int)(p:Nat)(n:Int)(l:I7)(hx:O xs<=35184372088832)(hp:p<=4 * O xs)(hn:n<=1000000)(hl:l.may 0=W) :
  Pq A 22 [.ptr 0 0,.d (Z n)] [tp xs p] l λv H1=>∃(r:Int) (q:Nat),v= .d (Z r)/\0<=r/\(2<=n->r<n)/\(n<2->r=0)/\q<=4 * O xs/\H1=[tp xs q]:=by
 unfold tp;have h0: -9223372036854775808<=(4:Int) * O xs/\(4:Int) * O xs<9223372036854775808:=V
 refine Pq.go 3 ?_;refine gr ?_;refine tB (F6 n 2||(u7 (O xs) 0||cg (4 * O xs) p)) ?_ (λh=>?_) (λh=>?_)
 .repeat' (first|refine mu ?_ h0|refine gx ?_|refine fq (λhw=>?_) λhw=>?_|refine ⟨rfl,rfl,_,rfl,?_⟩|refine ⟨rfl,rfl⟩|fail)
  all_goals exact cc
 .refine gr ?_
  refine ⟨_,_,rfl,0,p,rfl,Int.le_refl _,λh=>V,λ_=>rfl,hp,rfl⟩
 have h' :=h;simp [s9,s8,o8] at h';obtain ⟨h1,h2,h3⟩:=h';have hlen:0<O xs:=by
  rcases Nat.eq_zero_or_pos (O xs) with e|e
  .exact absurd (List.eq_nil_of_length_eq_zero e) h2
  .exact e
 obtain ⟨i,hi,hb⟩:∃i:Nat,i<O xs/\Q9 .rem (.int .i64 (p:Int)) (.int .i64 (O xs:Int))=J (.int .i64 (i:Int)) :=
  ⟨p % O xs,Nat.mod_lt _ hlen,by simp [Q9,aT,cZ];exact ⟨V,rfl⟩⟩
 obtain ⟨s,hs,hq⟩:∃s:Nat,s<=4/\Q9 .quo (.int .i64 (p:Int)) (.int .i64 (O xs:Int))=J (.int .i64 (s:Int)):=by
  have hd:p / O xs<=4:=Nat.div_le_of_le_mul (by rw [Nat.mul_comm];exact hp);have e:(p:Int).tdiv (O xs)=((p / O xs:Nat):Int):=rfl;generalize p / O xs=s at hd e;refine ⟨s,hd,?_⟩;have hne:¬ (O xs:Int)=0:=V
  simp only [Q9,aT,j4,if_false,if_true,cZ,e,hne];have e2:IntKind.wrap .i64 (s:Int)=s:=Go.A1.wrap_small V V;exact congrArg (λz=>J (Data.int IntKind.i64 z)) e2
 repeat' (first|refine bq hb ?_|refine gx ?_|fail)
 repeat' (first|refine bq hq ?_|refine gx ?_|fail)
 refine Ex.RL (λst=>∃z:Int,st=⟨[.ptr 0 0,.d (Z n),.d (Z 0),.d (Z z),.d (Z (s:Int))],[.cells [.d (C6 (λn=>[Z n]) xs),.d (Z (p:Int))]]⟩) ?_ ?_
 .have hc:IntKind.wrap .u64 (s:Int)=(s:Int):=by
   match s,hs with
   |0,_=>rfl
   |1,_=>rfl
   |2,_=>rfl
   |3,_=>rfl
   |4,_=>rfl
   |s+5,h=>omega
  have hsh:Q9 .shr (.int .i64 (Y xs i)) (.int .u64 (s:Int))=J (.int .i64 ((Y xs i).fdiv (2 ^ (min s 64)))):=by simp [Q9,aT,Cy];rfl
  obtain ⟨z,hz⟩:∃z,Q9 .xor (.int .i64 ((Y xs i).fdiv (2 ^ (min s 64)))) (.int .i64 (s:Int))=J (.int .i64 z):=⟨_,by simp [Q9,aT,cZ];rfl⟩;refine tb (F6 0 s) (λg=>?_) (λg=>?_)
  .repeat' (first|refine ci hc ?_|refine bq hsh ?_|refine bq hz ?_|refine gx ?_|fail)
   exact ⟨_,rfl⟩
  .refine gr ?_
   exact ⟨_,rfl⟩
 .rintro _ ⟨z,rfl⟩
  obtain ⟨r,q,r1,r2,r3,r4,r5,r6⟩:=bc1 z (show 2<=n by omega) hn;refine gr ?_;refine so1 (hl:=hl) (hb:=O0 _) (hq:=Nat.lt_succ_self 1) (h2:=?_)
  repeat' (first|refine bq r1 ?_|refine bq r4 ?_|refine gx ?_|fail)
  refine ⟨_,_,rfl,r,p+1,rfl,r5,λ_=>r6,λh=>V,V,?_⟩;rfl
end Go.Proofs.YtibjocmpkoepoaaGreat
namespace Go.Proofs.YtibjocmpkoepoaaGreat
open Go.A1 Go.A1.S Go.A1.Sh
attribute [local irreducible] Rx Ry Rn Ex Pf
def sI:SD:= .int .i64 (-9223372036854775808) 9223372036854775807 .no
def sS:SD:= .str 1000
def sL (n:Nat)(r:List SD):SD:= .slice K 0 n r
def Np:List SD:=[sI,sI,sI,sS,sI]
def bz7:List SD:=[sS,sI,sS,sS,sL 100 [sI],sI,sI]
def bz9:List SD:=[sS,sL 100 bz7,sI,sI]
def bz8:List SD:=[sS,sL 100 Np]
def bz5:List SD:=[sS,sI,sL 100 Np]
def rVw:List SD:=[sS,sI,sS,sS,sL 100 [sI,sI],sL 100 Np,sL 100 bz8,.bool .vQ,sL 100 bz5]
def bc0:List SD:=[sL 100 bz9,sL 100 rVw,sL 100 [sS,sS,sI],sL 100 [sS,sS,sI,sI,sI,sI],sL 100 [sS,sS,sI,sI],sL 100 [sS,sS,sI],sL 100 [sS,sS],sL 100 [sS,sL 100 [sS],sI]]
section
variable {C:Ctx} {vs:List Nat}
def dI {d:A1.Data}(h:sI.g C vs d):∃n,d=Z n:=by
 obtain ⟨n,rfl,_⟩:=h;exact ⟨n,rfl⟩
def dS {d:A1.Data}(h:sS.g C vs d):∃s:M3,d= .str s:=by
 grind [sS,SD.g]
def dB {d:A1.Data}(h:(SD.bool .vQ).g C vs d):∃b,d= .bool b:=by
 grind [SD.g]
def dL {α:Type}{enc:α->List A1.Data}{P:α->Prop}{row:List SD}(hr:∀r,L0.g C vs row r->∃a,r=enc a/\P a){n:Nat}{d:A1.Data}(h:(sL n row).g C vs d):∃l:List α,d=C6 enc l/\O l<=n/\∀a,a∈l->P a:=by
 obtain ⟨rows,rfl,_,h2,_,h4⟩:=h;have key:∀rows:List (List A1.Data),(∀r,r∈rows->L0.g C vs row r)->∃l:List α,O l=O rows/\rows.flatten=l.flatMap enc/\∀a,a∈l->P a:=by
  intro rows
  induction rows with
  |nil=>simp_all
  |cons r rs ih =>
   intro h;obtain ⟨a,ha,hok⟩:=hr r (h r U);obtain ⟨l,h1,h2,h3⟩:=ih (λr hr' =>h r (by simp [hr']));refine ⟨a::l,by simp [h1],by simp [h2,ha],?_⟩;simp_all
 obtain ⟨l,h1,h2',h3⟩:=key rows h4
 grind [C6]
def s1 {a:SD}{ds:List A1.Data}(h:L0.g C vs [a] ds):∃x,ds=[x]/\a.g C vs x:=by
 simp_all [L0.g]
theorem sc {a b:SD}{l:List SD}{ds:List A1.Data}(h:L0.g C vs (a::b::l) ds):∃x xs,ds=x::xs/\a.g C vs x/\L0.g C vs (b::l) xs:=by
 simp_all [L0.g]
def aS2 (r:List A1.Data)(h:L0.g C vs Np r):∃a:Y8,r=a.enc/\True:=by
 obtain ⟨x0,_,rfl,h0,h⟩:=sc h;obtain ⟨x1,_,rfl,h1,h⟩:=sc h;obtain ⟨x2,_,rfl,h2,h⟩:=sc h;obtain ⟨x3,_,rfl,h3,h⟩:=sc h;obtain ⟨x4,rfl,h4⟩:=s1 h;obtain ⟨a0,rfl⟩:=dI h0;obtain ⟨a1,rfl⟩:=dI h1;obtain ⟨a2,rfl⟩:=dI h2;obtain ⟨a3,rfl⟩:=dS h3;obtain ⟨a4,rfl⟩:=dI h4;exact ⟨⟨a0,a1,a2,a3,a4⟩,rfl,trivial⟩
def bS6 (r:List A1.Data)(h:L0.g C vs [sI] r):∃a:Int,r=[Z a]/\True:=by
 obtain ⟨x0,rfl,h0⟩:=s1 h;obtain ⟨a0,rfl⟩:=dI h0
 grind
def bT1 (r:List A1.Data)(h:L0.g C vs [sS] r):∃a:M3,r=[.str a]/\True:=by
 obtain ⟨x0,rfl,h0⟩:=s1 h;obtain ⟨a0,rfl⟩:=dS h0;simp_all
def bl0 (r:List A1.Data)(h:L0.g C vs [sI,sI] r):∃a:Int×Int,r=[Z a.1,Z a.2]/\True:=by
 obtain ⟨x0,_,rfl,h0,h⟩:=sc h;obtain ⟨x1,rfl,h1⟩:=s1 h;obtain ⟨a0,rfl⟩:=dI h0;obtain ⟨a1,rfl⟩:=dI h1;simp_all<;>grind
def bS4 (r:List A1.Data)(h:L0.g C vs bz7 r):∃a:gu,r=a.enc/\O a.L8<=100:=by
 obtain ⟨x0,_,rfl,h0,h⟩:=sc h;obtain ⟨x1,_,rfl,h1,h⟩:=sc h;obtain ⟨x2,_,rfl,h2,h⟩:=sc h;obtain ⟨x3,_,rfl,h3,h⟩:=sc h;obtain ⟨x4,_,rfl,h4,h⟩:=sc h;obtain ⟨x5,_,rfl,h5,h⟩:=sc h;obtain ⟨x6,rfl,h6⟩:=s1 h;obtain ⟨a0,rfl⟩:=dS h0;obtain ⟨a1,rfl⟩:=dI h1;obtain ⟨a2,rfl⟩:=dS h2;obtain ⟨a3,rfl⟩:=dS h3;obtain ⟨a4,rfl,k4,_⟩:=dL bS6 h4;obtain ⟨a5,rfl⟩:=dI h5;obtain ⟨a6,rfl⟩:=dI h6;exact ⟨⟨a0,a1,a2,a3,a4,a5,a6⟩,rfl,k4⟩
def bT2 (r:List A1.Data)(h:L0.g C vs bz9 r):∃a:jV,r=a.enc/\O a.s6<=100/\∀x,x∈a.s6->O x.L8<=100:=by
 obtain ⟨x0,_,rfl,h0,h⟩:=sc h;obtain ⟨x1,_,rfl,h1,h⟩:=sc h;obtain ⟨x2,_,rfl,h2,h⟩:=sc h;obtain ⟨x3,rfl,h3⟩:=s1 h;obtain ⟨a0,rfl⟩:=dS h0;obtain ⟨a1,rfl,k1,k2⟩:=dL bS4 h1;obtain ⟨a2,rfl⟩:=dI h2;obtain ⟨a3,rfl⟩:=dI h3;exact ⟨⟨a0,a1,a2,a3⟩,rfl,k1,k2⟩
def bS7 (r:List A1.Data)(h:L0.g C vs bz8 r):∃a:RY,r=a.enc/\O a.expr<=100:=by
 obtain ⟨x0,_,rfl,h0,h⟩:=sc h;obtain ⟨x1,rfl,h1⟩:=s1 h;obtain ⟨a0,rfl⟩:=dS h0;obtain ⟨a1,rfl,k1,_⟩:=dL aS2 h1;exact ⟨⟨a0,a1⟩,rfl,k1⟩
def bS1 (r:List A1.Data)(h:L0.g C vs bz5 r):∃a:KW,r=a.enc/\O a.expr<=100:=by
 obtain ⟨x0,_,rfl,h0,h⟩:=sc h;obtain ⟨x1,_,rfl,h1,h⟩:=sc h;obtain ⟨x2,rfl,h2⟩:=s1 h;obtain ⟨a0,rfl⟩:=dS h0;obtain ⟨a1,rfl⟩:=dI h1;obtain ⟨a2,rfl,k1,_⟩:=dL aS2 h2;exact ⟨⟨a0,a1,a2⟩,rfl,k1⟩
structure bI9 (v:Vw):Prop where
 on:O v.on<=100
 wh:O v.wh<=100
 items:O v.items<=100
 Mt:∀x,x∈v.items->O x.expr<=100
 F4:O v.F4<=100
 Ym:∀x,x∈v.F4->O x.expr<=100
def dVw (r:List A1.Data)(h:L0.g C vs rVw r):∃a:Vw,r=a.enc/\bI9 a:=by
 obtain ⟨x0,_,rfl,h0,h⟩:=sc h;obtain ⟨x1,_,rfl,h1,h⟩:=sc h;obtain ⟨x2,_,rfl,h2,h⟩:=sc h;obtain ⟨x3,_,rfl,h3,h⟩:=sc h;obtain ⟨x4,_,rfl,h4,h⟩:=sc h;obtain ⟨x5,_,rfl,h5,h⟩:=sc h;obtain ⟨x6,_,rfl,h6,h⟩:=sc h;obtain ⟨x7,_,rfl,h7,h⟩:=sc h;obtain ⟨x8,rfl,h8⟩:=s1 h;obtain ⟨a0,rfl⟩:=dS h0;obtain ⟨a1,rfl⟩:=dI h1;obtain ⟨a2,rfl⟩:=dS h2;obtain ⟨a3,rfl⟩:=dS h3;obtain ⟨a4,rfl,k4,_⟩:=dL bl0 h4;obtain ⟨a5,rfl,k5,_⟩:=dL aS2 h5;obtain ⟨a6,rfl,k6,j6⟩:=dL bS7 h6;obtain ⟨a7,rfl⟩:=dB h7;obtain ⟨a8,rfl,k8,j8⟩:=dL bS1 h8;exact ⟨⟨a0,a1,a2,a3,a4,a5,a6,a7,a8⟩,rfl,k4,k5,k6,j6,k8,j8⟩
def bS5 (r:List A1.Data)(h:L0.g C vs [sS,sS,sI] r):∃a:qh,r=a.enc/\True:=by
 obtain ⟨x0,_,rfl,h0,h⟩:=sc h;obtain ⟨x1,_,rfl,h1,h⟩:=sc h;obtain ⟨x2,rfl,h2⟩:=s1 h;obtain ⟨a0,rfl⟩:=dS h0;obtain ⟨a1,rfl⟩:=dS h1;obtain ⟨a2,rfl⟩:=dI h2;exact ⟨⟨a0,a1,a2⟩,rfl,trivial⟩
def bS9 (r:List A1.Data)(h:L0.g C vs [sS,sS,sI,sI,sI,sI] r):∃a:oO,r=a.enc/\True:=by
 obtain ⟨x0,_,rfl,h0,h⟩:=sc h;obtain ⟨x1,_,rfl,h1,h⟩:=sc h;obtain ⟨x2,_,rfl,h2,h⟩:=sc h;obtain ⟨x3,_,rfl,h3,h⟩:=sc h;obtain ⟨x4,_,rfl,h4,h⟩:=sc h;obtain ⟨x5,rfl,h5⟩:=s1 h;obtain ⟨a0,rfl⟩:=dS h0;obtain ⟨a1,rfl⟩:=dS h1;obtain ⟨a2,rfl⟩:=dI h2;obtain ⟨a3,rfl⟩:=dI h3;obtain ⟨a4,rfl⟩:=dI h4;obtain ⟨a5,rfl⟩:=dI h5;exact ⟨⟨a0,a1,a2,a3,a4,a5⟩,rfl,trivial⟩
def bS3 (r:List A1.Data)(h:L0.g C vs [sS,sS,sI,sI] r):∃a:sV,r=a.enc/\True:=by
 obtain ⟨x0,_,rfl,h0,h⟩:=sc h;obtain ⟨x1,_,rfl,h1,h⟩:=sc h;obtain ⟨x2,_,rfl,h2,h⟩:=sc h;obtain ⟨x3,rfl,h3⟩:=s1 h;obtain ⟨a0,rfl⟩:=dS h0;obtain ⟨a1,rfl⟩:=dS h1;obtain ⟨a2,rfl⟩:=dI h2;obtain ⟨a3,rfl⟩:=dI h3;exact ⟨⟨a0,a1,a2,a3⟩,rfl,trivial⟩
def bS8 (r:List A1.Data)(h:L0.g C vs [sS,sS,sI] r):∃a:qI,r=a.enc/\True:=by
 obtain ⟨x0,_,rfl,h0,h⟩:=sc h;obtain ⟨x1,_,rfl,h1,h⟩:=sc h;obtain ⟨x2,rfl,h2⟩:=s1 h;obtain ⟨a0,rfl⟩:=dS h0;obtain ⟨a1,rfl⟩:=dS h1;obtain ⟨a2,rfl⟩:=dI h2;exact ⟨⟨a0,a1,a2⟩,rfl,trivial⟩
def bT0 (r:List A1.Data)(h:L0.g C vs [sS,sS] r):∃a:vL,r=a.enc/\True:=by
 obtain ⟨x0,_,rfl,h0,h⟩:=sc h;obtain ⟨x1,rfl,h1⟩:=s1 h;obtain ⟨a0,rfl⟩:=dS h0;obtain ⟨a1,rfl⟩:=dS h1;exact ⟨⟨a0,a1⟩,rfl,trivial⟩
def bS2 (r:List A1.Data)(h:L0.g C vs [sS,sL 100 [sS],sI] r):∃a:vJ,r=a.enc/\O a.tables<=100:=by
 obtain ⟨x0,_,rfl,h0,h⟩:=sc h;obtain ⟨x1,_,rfl,h1,h⟩:=sc h;obtain ⟨x2,rfl,h2⟩:=s1 h;obtain ⟨a0,rfl⟩:=dS h0;obtain ⟨a1,rfl,k1,_⟩:=dL bT1 h1;obtain ⟨a2,rfl⟩:=dI h2;exact ⟨⟨a0,a1,a2⟩,rfl,k1⟩
def bk9 (r:List A1.Data)(h:L0.g C vs bc0 r):∃c:s5,r=c.enc/\G4 c:=by
 obtain ⟨x0,_,rfl,h0,h⟩:=sc h;obtain ⟨x1,_,rfl,h1,h⟩:=sc h;obtain ⟨x2,_,rfl,h2,h⟩:=sc h;obtain ⟨x3,_,rfl,h3,h⟩:=sc h;obtain ⟨x4,_,rfl,h4,h⟩:=sc h;obtain ⟨x5,_,rfl,h5,h⟩:=sc h;obtain ⟨x6,_,rfl,h6,h⟩:=sc h;obtain ⟨x7,rfl,h7⟩:=s1 h;obtain ⟨a0,rfl,k0,j0⟩:=dL bT2 h0;obtain ⟨a1,rfl,k1,j1⟩:=dL dVw h1;obtain ⟨a2,rfl,k2,_⟩:=dL bS5 h2;obtain ⟨a3,rfl,k3,_⟩:=dL bS9 h3;obtain ⟨a4,rfl,k4,_⟩:=dL bS3 h4;obtain ⟨a5,rfl,k5,_⟩:=dL bS8 h5;obtain ⟨a6,rfl,k6,_⟩:=dL bT0 h6;obtain ⟨a7,rfl,k7,j7⟩:=dL bS2 h7;refine ⟨⟨a0,a1,a2,a3,a4,a5,a6,a7⟩,rfl,⟨⟨D,D,D,D,D,D,D,D⟩,?_,?_⟩,?_,?_,?_,?_,?_,?_,?_⟩
 .grind [N8]
 .grind [N8]
 .intro k hk;have:=(j1 _ (N8 hk)).items;grind
 .intro k hk;have:=(j1 _ (N8 hk)).F4;grind
 .intro k hk;have:=(j1 _ (N8 hk)).on;grind
 .intro k hk;have:=(j1 _ (N8 hk)).wh;grind
 .intro k i hk hi;have:=(j1 _ (N8 hk)).Mt _ (N8 hi);grind
 .intro k i hk hi;have:=(j1 _ (N8 hk)).Ym _ (N8 hi);grind
 grind [N8]
end
structure vK where
 w:Nat->y6->Prop
instance:Inhabited vK:=⟨⟨λ_ _=>False⟩⟩
variable [Inhabited vK]
def ct (xs:List Int)(g:s5):Ctx where
 Ω:=(default:vK).w
 Φ k d:=match k with
  |0=>∃s:M3,d= .str s/\s∈s5.sn g
  |1=>∃i:Nat,d=Z i/\i<s5.ns g
  |2=>d=ints xs
  |_=>False
 Θ k cs:=match k with
  |0=>∃c:s5,cs=c.enc.map .d/\F0 c=W/\G4 c
  |1=>cs=g.enc.map .d
  |_=>False
 Ψ k o:=match k with
  |0=>∃p,p<=4 * O xs/\o=tp xs p
  |_=>False
 L7 k o h:=by
  match k,h with
  |0,h=>obtain ⟨p,_,rfl⟩:=h;rfl
def Cb:Sh.Sem:=λi7 f args H l=>match args,H with
 |[.ptr 0 0,.d x],[.pr 0]=>if u5 f 22&&l.may 0 then match x.int? i7 with
   |some (.i64,lo,hi,r)=>if decide (1<=lo)&&decide (hi<=1000000) then J [(.d (.int .i64 0 (hi - 1) (match r with| .eq i=> .lt i|_=> .no)),[.pr 0])] else K
   |_=>K
  else K
 |_,_=>K
def Ek (xs:List Int)(hx:O xs<=35184372088832)(g:s5):ia (ct xs g) A Cb:=by
 intro i7 f args H l outs h vs hB az Hc ha hH;unfold Cb at h;split at h
 next x=>
  split at h
  next hc=>
   simp only [c7] at hc;have hf:=j5 hc.1;subst hf;split at h
   .rename_i lo hi r hi?
    split at h
    next hb=>
     simp only [c7,decide_eq_true_eq] at hb;cases h;simp only [z8.g] at ha;obtain ⟨a0,_,rfl,h0,a1,_,rfl,h1,rfl⟩:=ha;simp only [L4.g] at hH;obtain ⟨o,_,rfl,⟨p,hp,rfl⟩,rfl⟩:=hH;have h0:=di h0;subst h0;obtain ⟨d,rfl,h2⟩:=cw h1;obtain ⟨n,rfl,h3,h4,h5⟩:=SD.kR hB hi? h2;obtain ⟨v,H1,⟨r',q,rfl,r1,r2,r3,hq,rfl⟩,hm⟩:=Tt xs p n l hx hp V hc.2;refine ⟨_,_,⟨_,q8.2 rfl,dJ ?_,?_⟩,hm⟩
     .have hr:r' <n:=by
       by_cases h2:2<=n
       .exact r2 h2
       .have:=r3 V;omega
      simp only [SD.g];refine ⟨r',rfl,r1,V,?_⟩;split
      next i=>
       obtain ⟨m,m1,m2⟩:=h5;exact ⟨m,m1,r1,V⟩
      .trivial
     .simp only [L4.g]
      exact ⟨_,_,rfl,⟨q,hq,rfl⟩,rfl⟩
    .cases h
   .cases h
  .cases h
 .cases h
def Zr:Lc:=λops dr c s=>match ops,dr,c with
 |[⟨.load (J 8) (.slot t),K,K,_⟩,⟨.call f [.loc 0],K,K,_⟩],F,.loc 1=>if u5 f 40 then match s.T[t]? with
   |some (.ptr id 0)=>match s.H[id]? with
    |some (.cells p l)=>if z8.le (λ_ _=>F) s.i7 (l.map SV.K7) (bc0.map .d) then J ([{ s with H:=s.H.set id (.cells (J 0) l) }],[s]) else K
    |_=>K
   |_=>K
  else K
 |_,_,_=>K
theorem YR {C:Ctx}{vs:List Nat}:∀{l:List SD} {cs:List c8},z8.g C vs (l.map .d) cs->∃ds,cs=ds.map .d/\L0.g C vs l ds
 |[],_,h=>by have _:Inhabited vK:=inferInstance;simp only [List.map_nil,z8.g] at h;subst h;exact ⟨[],rfl,by simp [L0.g]⟩
 |x::l,_,h=>by
  simp only [K0,z8.g] at h;obtain ⟨a,az,rfl,h1,h2⟩:=h;obtain ⟨d,rfl,h3⟩:=cw h1;obtain ⟨ds,rfl,h4⟩:=YR h2;exact ⟨d::ds,rfl,by simp only [L0.g];exact ⟨_,_,rfl,h3,h4⟩⟩
def Mi (xs:List Int)(g:s5)(l:I7)(b:Nat):IY (ct xs g) A l b Zr:=by
 intro ops dr c s p q h vs T H hs;unfold Zr at h;split at h
 next t u f u'=>
  split at h
  next hf=>
   have hf:=j5 hf;subst hf;split at h
   next id e=>
    split at h
    next p' l' e2=>
     split at h
     next hle=>
      cases h;obtain ⟨hT,hH,hB⟩:=hs;obtain ⟨a,h1,h2⟩:=z8.get hT e;have h2:=di h2;subst h2;obtain ⟨o,h3,h4⟩:=L4.get hH e2;obtain ⟨cs,rfl,h5,h6⟩:=h4;have h7:=z8.map (C:=ct xs g) (vs:=vs) (λ_ _=>SV.tV) h5;obtain ⟨ds,e3,h8⟩:=YR (z8.dM hB (C:=ct xs g) (fact:=λ_ _=>F) (λk ds h=>by cases h) _ hle h7);obtain ⟨c,rfl,hc⟩:=bk9 ds h8;have hlen:O cs=8:=by
       have:=congrArg List.length e3;simpa [s5.enc] using this
      have hR:Rn A l b [⟨.load (J 8) (.slot t),K,K,u⟩,⟨.call 40 [.loc 0],K,K,u'⟩] F T H λT' H' L=>T' =T/\H' =H/\K4 T' L (.loc 1)= .d (.bool (F0 c)):=by
       refine Rn.text ?_;refine Ry.pure (v:=cat c) (rs:=[id]) rfl ?_ ?_
       .have vN:rq T 0 [] (.slot t)= .ptr id 0:=by simp [rq,opw,h1,c8.K7]
        simp only [o7,vN,rd,h3];rw [if_pos V,List.drop_zero,z7 V];show J (c8.agg (cs.map c8.K7),[id])=_
        rw [e3];rfl
       .exact cl (Ng c hc) (nl ⟨rfl,rfl,rfl⟩)
      unfold Rn at hR ⊢;obtain ⟨r,N,⟨r1,r2,r3⟩,hr⟩:=hR;refine ⟨r,N,⟨F0 c,r3,?_⟩,hr⟩;rw [r1,r2];cases hv:F0 c with
      |false=>exact ⟨s,U,vs,Le.refl _,hT,hH,hB⟩
      |true =>
       refine ⟨{ s with H:=s.H.set id (.cells (J 0) l') },U,vs,Le.refl _,hT,?_,hB⟩;have:=L4.set hH id (a:= .cells (J 0) l') (b:= .cells cs) ⟨cs,rfl,h5,λk hk=>by
        cases hk;exact ⟨c,e3,hv,hc⟩⟩
       have e4:H.set id (.cells cs)=H:=aV h3
       rwa [e4] at this
     .cases h
    .cases h
   .cases h
  .cases h
 .cases h
def aS:Lc:=λ_ _ _ _=>K
def wJ {C:Ctx}{A:A1.Prog}{l:I7}{b:Nat}:IY C A l b aS:=λ_ _ _ _ _ _ h=>by have _:Inhabited vK:=inferInstance;cases h
def W5:Fact:=λ_ _=>F
def eG {C:Ctx}:Cq C W5:=λ_ _ h=>by have _:Inhabited vK:=inferInstance;cases h
end Go.Proofs.YtibjocmpkoepoaaGreat
namespace Go.Proofs.YtibjocmpkoepoaaGreat
open Go.A1 Go.A1.S Go.A1.Sh
attribute [local irreducible] Rx Ry Rn Ex Pf
variable [Inhabited vK]
def tS (C:Ctx)(l:List Sh.Spec):Prop:=∀s,s∈l->s.ok C A
def tS.nil {C:Ctx}:tS C []:=λs h=>by have _:Inhabited vK:=inferInstance;cases h
def tS.cons {C:Ctx}{s:Sh.Spec}{l:List Sh.Spec}(h:s.ok C A)(hl:tS C l):tS C (s::l):=λt ht=>by
 have _:Inhabited vK:=inferInstance
 rcases B6.1 ht with rfl|ht
 .exact h
 .exact hl t ht
def fC (l:List Sh.Spec):Sh.Sem:=dm Cb (ah2 W5 l)
def Ca {xs:List Int}(hx:O xs<=35184372088832){g:s5}{l:List Sh.Spec}(h:tS (ct xs g) l):ia (ct xs g) A (fC l):=oo (Ek xs hx g) (ah3 eG h)
def dX {xs:List Int}(hx:O xs<=35184372088832){g:s5}{l:List Sh.Spec}(h:tS (ct xs g) l){kp js:List Nat}{af:q9}{s:Sh.Spec}(hp:A.cM s.f=K)(ha:A.fn s.f=J af)(hc:gm A (fC l) aS W5 kp js 40 af s=W):s.ok (ct xs g) A :=
 xl (Ca hx h) eG wJ hp ha hc
def l0:I7:=⟨0,0,0,0⟩
def l1:I7:=⟨0,0,1,1⟩
def iR (a b:Int):SD:= .int .i64 a b .no
def s35:Sh.Spec:=⟨41,[.d (.str 1),.d (iR 0 1000000)],[],l0,[(.d (.str 2),[])]⟩
def vV:SV:= .agg K [.d (iR 0 2),.d sI,.d (.str 100)]
def bB3:Sh.Spec:=⟨228,[vV],[],l0,[(.d (.bool .vQ),[])]⟩
def bc5:Sh.Spec:=⟨169,[vV],[],l0,[(vV,[])]⟩
def bB1:Sh.Spec:=⟨110,[.d sI],[],l0,[(vV,[])]⟩
def bB2:Sh.Spec:=⟨196,[.d (.str 100)],[],l0,[(vV,[])]⟩
def Xo:Sh.Spec:=⟨139,[.ptr 0 0],[.pr 0],l1,[(vV,[.pr 0])]⟩
def Xp:Sh.Spec:=⟨140,[.ptr 0 0],[.pr 0],l1,[(vV,[.pr 0])]⟩
def aD3:Sh.Spec:=⟨141,[.d (iR 3 18)],[],l0,[(.d (iR 1 3),[])]⟩
def rTm:List SD:=[iR 0 18,iR 0 2,sI,.str 100,iR 0 100]
def tyS:SV:= .d (.slice K 1 24 [iR 1 2])
def Xn (d:Nat)(hi:Nat):Sh.Spec:=⟨93,[.ptr 0 0,.d (iR 1 d),tyS,.d (iR 1 2)],[.pr 0],l1,[(.own 5 (.slice K 1 hi rTm),[.pr 0]),(.d (.slice K 1 hi rTm),[.pr 0])]⟩
def rC4:List SD:=[.str 2,iR 1 2,.str 6,.str 2,.slice K 0 12 [iR 0 3],iR 0 1,iR 0 20]
def rT4:List SD:=[.str 2,.slice K 2 4 rC4,iR 0 1,iR 0 40]
def ci5:Sh.Spec:=⟨94,[.ptr 0 0,tyS,.d (iR 1 3),.d (iR 0 3)],[.pr 0],l1,[(.d (.slice K 1 3 [.str 2,.slice K 1 4 rTm]),[.pr 0])]⟩
def aD2 (n:Nat):Sh.Spec:=⟨97,[.d (.slice K 0 n [iR 0 3]),.d (iR 0 3)],[],l0,[(.d (.slice K 0 (n+1) [iR 0 3]),[]),(.own 1 (.slice K 0 (n+1) [iR 0 3]),[])]⟩
def e0 (n:Nat):SV:= .d (.slice K 0 0 (c9 n .top))
def aR9:SV:= .agg K [.d (.slice K 0 3 rT4),e0 9,e0 3,e0 6,e0 4,e0 3,e0 2,e0 3]
def lC (n:Nat):I7:=⟨1,n,n,1⟩
def rCn:List SD:=[.str 2,iR 1 2,.str 6,.str 2,.slice K 0 0 [iR 0 3],.lit (.int .i64 0),.lit (.int .i64 0)]
def bk6:SV:= .agg K (rCn.map .d)
def cj8:SV:= .agg K [.d (.str 2),.d (.slice K 0 0 (c9 7 .top)),.d (iR 0 1),.d (iR 0 40)]
def Ht (n:Nat):SV:= .own n (.lit (.slice 0 []))
def zC:SO:= .cells K [Ht 4,Ht 9,Ht 3,Ht 6,Ht 4,Ht 3,Ht 2,Ht 3]
def vC (m:Nat):SO:= .cells (J 0) [.d (.slice K 1 m rT4),e0 9,e0 3,e0 6,e0 4,e0 3,e0 2,e0 3]
def aF9 (n:Nat):SV:= .agg K [.d (.str 2),.B8 4 7 0 n,.d (iR 0 1),.d (iR 0 40)]
def tBo (n:Nat):SO:= .cells K [.d (.str 2),.B8 4 7 0 n,.d (iR 0 1),.d (iR 0 40)]
def YG (n:Nat):List SV:=(c9 n (rCn.map .d)).flatten
def bR9 (n:Nat):List SV:=(c9 n (rC4.map λx=>match x with| .slice v lo hi r=>SV.q (.slice v lo hi r)|x=>SV.d x)).flatten
def hN (c:SO)(n:Nat)(s6:List SV):List SO:=[.pr 0,zC,c,tBo n,.cells K s6]
def bB4:Sh.Spec:=⟨42,[.ptr 0 0,aR9,cj8,.d (iR 0 3)],[.pr 0],lC 1,[(bk6,[.pr 0])]⟩
def aD4 (c:SO)(n:Nat):Sh.Spec:=⟨42,[.ptr 0 0,aR9,aF9 n,.d (iR 0 3)],hN c n (YG n),lC 5,[(bk6,hN c n (YG n))]⟩
def bB0 (c:SO)(n:Nat):Sh.Spec:=⟨96,[aF9 n],hN c n (YG n),⟨0,5,5,1⟩,[(.d (.slice K 0 n [iR 0 3]),hN c n (YG n))]⟩
def s78 (c:SO)(n:Nat):Sh.Spec:=⟨43,[.ptr 0 0,aR9,aF9 n],hN c n (YG n),⟨0,0,5,1⟩,[(aF9 n,hN c n (bR9 n))]⟩
def Yt:SV:= .agg (J 0) [.d (.slice K 1 3 rT4),e0 9,e0 3,e0 6,e0 4,e0 3,e0 2,e0 3]
def s33 (n:Nat):Sh.Spec:=⟨14,[.ptr 0 0,.d (.lit (.int .i64 n))],[.pr 0],l1,[(Yt,[.pr 0])]⟩
def mS:s5:=⟨[⟨[116,48],[⟨[99,48],1,[112,101,114,115,111,110],[],[],0,0⟩,⟨[99,49],2,[],[],[0],0,0⟩],0,0⟩],[],[],[],[],[],[],[]⟩
theorem aY8:F0 mS=W:=have _:Inhabited vK:=inferInstance;by kernel_rfl
def aY7:G4 mS:=by
 have _:Inhabited vK:=inferInstance;refine ⟨⟨by simp [s5.oW,mS],?_,?_⟩,?_,?_,?_,?_,?_,?_,?_⟩
 .intro n hn
  have:n=0:=by simp [mS] at hn;omega
  subst this;simp [mS,Y]
 .intro n i hn hi
  have:n=0:=by simp [mS] at hn;omega
  subst this;have hi:i<2:=by simpa [mS,Y] using hi
  match i,hi with
  |0,_=>simp [mS,Y]
  |1,_=>simp [mS,Y]
 .intro k hk;simp [mS] at hk
 .intro k hk;simp [mS] at hk
 .intro k hk;simp [mS] at hk
 .intro k hk;simp [mS] at hk
 .intro k i hk;simp [mS] at hk
 .intro k i hk;simp [mS] at hk
 .intro k hk;simp [mS] at hk
def aI6:Fact:=λk ds=>u5 k 0&&Sh.yH ds mS.enc
def YW (xs:List Int)(g:s5):Cq (ct xs g) aI6:=λk ds h=>by
 simp only [aI6,c7] at h;have h1:=j5 h.1;have h2:=Sh.JA _ _ h.2;subst h1 h2;exact ⟨mS,rfl,aY8,aY7⟩
section
variable {xs:List Int} (hx:O xs<=35184372088832) (g:s5)
include hx
theorem o35:s35.ok (ct xs g) A:=dX hx (l:=[]) (kp:=[]) (js:=[]) .nil rfl rfl (by kernel_rfl)
theorem cb7:bB3.ok (ct xs g) A:=dX hx (l:=[]) (kp:=[]) (js:=[]) .nil rfl rfl (by kernel_rfl)
theorem bs6:bc5.ok (ct xs g) A:=dX hx (l:=[bB3]) (kp:=[]) (js:=[]) (.cons (cb7 hx g) .nil) rfl rfl (by kernel_rfl)
theorem cb5:bB1.ok (ct xs g) A:=dX hx (l:=[bc5]) (kp:=[]) (js:=[]) (.cons (bs6 hx g) .nil) rfl rfl (by kernel_rfl)
theorem cb6:bB2.ok (ct xs g) A:=dX hx (l:=[bc5]) (kp:=[]) (js:=[]) (.cons (bs6 hx g) .nil) rfl rfl (by kernel_rfl)
theorem ab2:Xo.ok (ct xs g) A:=dX hx (l:=[bB1]) (kp:=[]) (js:=[]) (.cons (cb5 hx g) .nil) rfl rfl (by kernel_rfl)
theorem ab3:Xp.ok (ct xs g) A:=dX hx (l:=[bB2]) (kp:=[]) (js:=[]) (.cons (cb6 hx g) .nil) rfl rfl (by kernel_rfl)
theorem aZ6:aD3.ok (ct xs g) A:=dX hx (l:=[]) (kp:=[]) (js:=[]) .nil rfl rfl (by kernel_rfl)
theorem bs2:(Xn 1 1).ok (ct xs g) A:=dX hx (l:=[Xo,Xp]) (kp:=[]) (js:=[]) (.cons (ab2 hx g) (.cons (ab3 hx g) .nil)) rfl rfl (by kernel_rfl)
theorem ab1:(Xn 2 4).ok (ct xs g) A:=dX hx (l:=[Xo,Xp,aD3,Xn 1 1]) (kp:=[]) (js:=[1]) (.cons (ab2 hx g) (.cons (ab3 hx g) (.cons (aZ6 hx g) (.cons (bs2 hx g) .nil)))) rfl rfl (by kernel_rfl)
theorem bs3:(Xn 3 13).ok (ct xs g) A:=dX hx (l:=[Xo,Xp,aD3,Xn 2 4]) (kp:=[]) (js:=[1]) (.cons (ab2 hx g) (.cons (ab3 hx g) (.cons (aZ6 hx g) (.cons (ab1 hx g) .nil)))) rfl rfl (by kernel_rfl)
theorem cb3:ci5.ok (ct xs g) A:=dX hx (l:=[s35,Xn 2 4]) (kp:=[]) (js:=[]) (.cons (o35 hx g) (.cons (ab1 hx g) .nil)) rfl rfl (by kernel_rfl)
theorem aZ5 (n:Nat)(h:n=2\/n=3\/n=4):(aD2 n).ok (ct xs g) A:=by
 rcases h with rfl|rfl|rfl<;>exact dX hx (l:=[]) (kp:=[3]) (js:=[]) .nil rfl rfl (by kernel_rfl)
theorem cb8:bB4.ok (ct xs g) A:=dX hx (l:=[s35]) (kp:=[]) (js:=[]) (.cons (o35 hx g) .nil) rfl rfl (by kernel_rfl)
theorem aZ7 (c:SO)(n:Nat)(h:n=1\/n=2\/n=3)(hc:c=zC\/c=vC 1\/c=vC 2):(aD4 c n).ok (ct xs g) A:=by
 rcases h with rfl|rfl|rfl<;>rcases hc with rfl|rfl|rfl<;>exact dX hx (l:=[s35]) (kp:=[]) (js:=[]) (.cons (o35 hx g) .nil) rfl rfl (by kernel_rfl)
theorem cb4 (c:SO)(n:Nat)(h:n=2\/n=3\/n=4)(hc:c=zC\/c=vC 1\/c=vC 2):(bB0 c n).ok (ct xs g) A:=by
 rcases h with rfl|rfl|rfl<;>rcases hc with rfl|rfl|rfl<;>exact dX hx (l:=[]) (kp:=[]) (js:=[]) .nil rfl rfl (by kernel_rfl)
theorem o78 (c:SO)(n:Nat)(h:n=2\/n=3\/n=4)(hc:c=zC\/c=vC 1\/c=vC 2):(s78 c n).ok (ct xs g) A:=by
 have hl:tS (ct xs g) [bB0 c n,aD2 2,aD2 3,aD2 4]:= .cons (cb4 hx g c n h hc) (.cons (aZ5 hx g 2 U) (.cons (aZ5 hx g 3 U) (.cons (aZ5 hx g 4 U) .nil)))
 rcases h with rfl|rfl|rfl<;>rcases hc with rfl|rfl|rfl<;>exact dX hx (kp:=[]) (js:=[]) hl rfl rfl (by kernel_rfl)
def bd5:List Sh.Spec:=[s35,bB4]++[zC,vC 1,vC 2].flatMap λc=>[aD4 c 1,aD4 c 2,aD4 c 3,s78 c 2,s78 c 3,s78 c 4]
def Xz:tS (ct xs g) bd5:=by
 refine .cons (o35 hx g) (.cons (cb8 hx g) ?_);intro s hs;obtain ⟨c,hc,h⟩:=List.mem_flatMap.1 hs;have hc:c=zC\/c=vC 1\/c=vC 2:=by simpa using hc
 simp only [B6,List.not_mem_nil,or_false] at h
 rcases h with rfl|rfl|rfl|rfl|rfl|rfl
 .exact aZ7 hx g c 1 U hc
 .exact aZ7 hx g c 2 U hc
 .exact aZ7 hx g c 3 U hc
 .exact o78 hx g c 2 U hc
 .exact o78 hx g c 3 U hc
 .exact o78 hx g c 4 U hc
theorem o33:(s33 3).ok (ct xs g) A:=xl (kp:=[]) (js:=[]) (fuel:=40) (Ca hx (Xz hx g)) (YW xs g) (Mi xs g _ _) rfl rfl (by kernel_rfl)
end
end Go.Proofs.YtibjocmpkoepoaaGreat


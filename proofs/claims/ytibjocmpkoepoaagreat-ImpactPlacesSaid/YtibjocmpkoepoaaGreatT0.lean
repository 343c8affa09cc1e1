import Derived.Test.YtibjocmpkoepoaaGreatS0
import Derived.Test.YtibjocmpkoepoaaGreatX0
set_option linter.all false
open Bool renaming and_eq_true→c8,false_eq_true→e8,true→W,false→F
open List renaming map_cons→M8,mem_cons→C4,mem_singleton→y3,replicate→c9,take_of_length_le→y6,length→O
open Nat renaming beq→y7,eq_of_beq_eq_true→j4,zero_le→A4
open Option renaming some→J,none→K
namespace Go.B3.S
section
variable {A:Prog} {l:H8} {b:Nat}
variable {dr:Bool} {j9 ops:List o4} {T:List c7} {H:n9} {n:Nat} {rl:List c7} {o5:List Touch} {Q:List c7->n9->List c7->Prop}
def bq {op:BinOp}{a c r:Data}(h:O2 op a c=J r){x y:z6}{u:List Nat}(h2:Ry A l b dr j9 ops T H (n+1) (.d r::rl) o5 Q)(hx:rq T n rl x= .d a:=by rfl)(hy:rq T n rl y= .d c:=by rfl) :
  Ry A l b dr j9 (⟨.bin op x y,K,K,u⟩::ops) T H n rl o5 Q:=Ry.pure (rs:=[]) rfl (by simp only [l8,hx,hy,h]) h2
def ci {k k' :IntKind}{c d:Int}(h:k.wrap c=d){x:z6}{u:List Nat}(h2:Ry A l b dr j9 ops T H (n+1) (.d (.int k d)::rl) o5 Q)(hx:rq T n rl x= .d (.int k' c):=by rfl) :
  Ry A l b dr j9 (⟨.pE k x,K,K,u⟩::ops) T H n rl o5 Q:=Ry.pure (rs:=[]) rfl (by simp only [l8,hx,h]) h2
end
end Go.B3.S
namespace Go.Proofs.YtibjocmpkoepoaaGreat
open Go.B3 Go.B3.S
attribute [local irreducible] Rx Ry Rn Ex Pf
def tp (xs:List Int)(p:Nat):B4:= .cells [.d (B8 (λn=>[Z n]) xs),.d (Z (p:Int))]
def aO7 (z:Int){n:Int}(h2:2<=n)(h3:n<=1000000):∃r q:Int,O2 .rem (.int .i64 z) (.int .i64 n)=J (.int .i64 q)/\ -n<q/\q<n/\O2 .rem (.int .i64 (q+n)) (.int .i64 n)=J (.int .i64 r)/\0<=r/\r<n:=by
 have h1:=Int.tmod_lt_of_pos z (show 0<n by omega);have h4: -n<z.tmod n:=by
  by_cases hz:z<0
  .have e:z.tmod n= -((-z).tmod n):=by rw [<- Int.neg_tmod,Int.neg_neg]
   have:=Int.tmod_lt_of_pos (-z) (show 0<n by omega);omega
  .have:=Int.tmod_nonneg (a:=z) n V
   omega
 have h5:=Int.tmod_lt_of_pos (z.tmod n+n) (show 0<n by omega);have h6:=Int.tmod_nonneg (a:=z.tmod n+n) n V;refine ⟨(z.tmod n+n).tmod n,z.tmod n,?_,h4,h1,?_,h6,h5⟩
 .simp [O2,aI,cC];omega
 .simp [O2,aI,cC];omega
def aB2 (o0:B4)(xs:List Int)(p:Nat)(n:Int)(l:H8)(hx:O xs<=35184372088832)(hp:p<=4 * O xs)(hn:n<=1000000)(hl:l.may 1=W) :
  Pq A 22 [.ptr 1 0,.d (Z n)] [o0,tp xs p] l λv H1=>∃(r:Int) (q:Nat),v= .d (Z r)/\0<=r/\(2<=n->r<n)/\(n<2->r=0)/\q<=4 * O xs/\H1=[o0,tp xs q]:=by
 unfold tp;have h0: -9223372036854775808<=(4:Int) * O xs/\(4:Int) * O xs<9223372036854775808:=V
 refine Pq.go 3 ?_;refine gr ?_;refine tB (J2 n 2||(A1 (O xs) 0||bC (4 * O xs) p)) ?_ (λh=>?_) (λh=>?_)
 .repeat' (first|refine mu ?_ h0|refine gx ?_|refine fq (λhw=>?_) λhw=>?_|refine ⟨rfl,rfl,_,rfl,?_⟩|refine ⟨rfl,rfl⟩|fail)
  all_goals exact cc
 .refine gr ?_
  refine ⟨_,_,rfl,0,p,rfl,Int.le_refl _,λh=>V,λ_=>rfl,hp,rfl⟩
 have h' :=h;simp [A5,A7,p7] at h';obtain ⟨h1,h2,h3⟩:=h';have hlen:0<O xs:=by
  rcases Nat.eq_zero_or_pos (O xs) with e|e
  .exact absurd (List.eq_nil_of_length_eq_zero e) h2
  .exact e
 obtain ⟨i,hi,hb⟩:∃i:Nat,i<O xs/\O2 .rem (.int .i64 (p:Int)) (.int .i64 (O xs:Int))=J (.int .i64 (i:Int)) :=
  ⟨p % O xs,Nat.mod_lt _ hlen,by simp [O2,aI,cC];exact ⟨V,rfl⟩⟩
 obtain ⟨s,hs,hq⟩:∃s:Nat,s<=4/\O2 .quo (.int .i64 (p:Int)) (.int .i64 (O xs:Int))=J (.int .i64 (s:Int)):=by
  have hd:p / O xs<=4:=Nat.div_le_of_le_mul (by rw [Nat.mul_comm];exact hp);have e:(p:Int).tdiv (O xs)=((p / O xs:Nat):Int):=rfl;generalize p / O xs=s at hd e;refine ⟨s,hd,?_⟩;have hne:¬ (O xs:Int)=0:=V
  simp only [O2,aI,e8,if_false,if_true,cC,e,hne];have e2:IntKind.wrap .i64 (s:Int)=s:=Go.B3.wrap_small V V;exact congrArg (λz=>J (Data.int IntKind.i64 z)) e2
 repeat' (first|refine bq hb ?_|refine gx ?_|fail)
 repeat' (first|refine bq hq ?_|refine gx ?_|fail)
 refine Ex.aa4 (λst=>∃z:Int,st=⟨[.ptr 1 0,.d (Z n),.d (Z 0),.d (Z z),.d (Z (s:Int))],[o0,.cells [.d (B8 (λn=>[Z n]) xs),.d (Z (p:Int))]]⟩) ?_ ?_
 .have hc:IntKind.wrap .u64 (s:Int)=(s:Int):=by
   match s,hs with
   |0,_=>rfl
   |1,_=>rfl
   |2,_=>rfl
   |3,_=>rfl
   |4,_=>rfl
   |s+5,h=>omega
  have hsh:O2 .shr (.int .i64 (Y xs i)) (.int .u64 (s:Int))=J (.int .i64 ((Y xs i).fdiv (2 ^ (min s 64)))):=by simp [O2,aI,BL];rfl
  obtain ⟨z,hz⟩:∃z,O2 .xor (.int .i64 ((Y xs i).fdiv (2 ^ (min s 64)))) (.int .i64 (s:Int))=J (.int .i64 z):=⟨_,by simp [O2,aI,cC];rfl⟩;refine tb (J2 0 s) (λg=>?_) (λg=>?_)
  .repeat' (first|refine ci hc ?_|refine bq hsh ?_|refine bq hz ?_|refine gx ?_|fail)
   exact ⟨_,rfl⟩
  .refine gr ?_
   exact ⟨_,rfl⟩
 .rintro _ ⟨z,rfl⟩
  obtain ⟨r,q,r1,r2,r3,r4,r5,r6⟩:=aO7 z (show 2<=n by omega) hn;refine gr ?_;refine so1 (hl:=hl) (hb:=A4 _) (hq:=Nat.lt_succ_self 1) (h2:=?_)
  repeat' (first|refine bq r1 ?_|refine bq r4 ?_|refine gx ?_|fail)
  refine ⟨_,_,rfl,r,p+1,rfl,r5,λ_=>r6,λh=>V,V,?_⟩;rfl
end Go.Proofs.YtibjocmpkoepoaaGreat
namespace Go.Proofs.YtibjocmpkoepoaaGreat
open Go.B3 Go.B3.S Go.B3.Sh
attribute [local irreducible] Rx Ry Rn Ex Pf
def sI:SD:= .int .i64 (-9223372036854775808) 9223372036854775807 .no
def sS:SD:= .str 1000
def sL (n:Nat)(r:List SD):SD:= .slice K 0 n r
def as2:List SD:=[sI,sI,sI,sS,sI]
def bj8:List SD:=[sS,sI,sS,sS,sL 100 [sI],sI,sI]
def bk0:List SD:=[sS,sL 100 bj8,sI,sI]
def bj9:List SD:=[sS,sL 100 as2]
def bj3:List SD:=[sS,sI,sL 100 as2]
def rVw:List SD:=[sS,sI,sS,sS,sL 100 [sI,sI],sL 100 as2,sL 100 bj9,.bool .xb,sL 100 bj3]
def bj7:List SD:=[sL 100 bk0,sL 100 rVw,sL 100 [sS,sS,sI],sL 100 [sS,sS,sI,sI,sI,sI],sL 100 [sS,sS,sI,sI],sL 100 [sS,sS,sI],sL 100 [sS,sS],sL 100 [sS,sL 100 [sS],sI]]
section
variable {C:Ctx} {vs:List Nat}
def dI {d:B3.Data}(h:sI.g C vs d):∃n,d=Z n:=by
 unfold sI at h;simp only [SD.g] at h;obtain ⟨n,rfl,_⟩:=h;exact ⟨n,rfl⟩
def dS {d:B3.Data}(h:sS.g C vs d):∃s:M6,d= .str s:=by
 unfold sS at h;simp only [SD.g] at h;obtain ⟨n,rfl,_⟩:=h;exact ⟨n,rfl⟩
def dB {d:B3.Data}(h:(SD.bool .xb).g C vs d):∃b,d= .bool b:=by
 simp only [SD.g] at h;obtain ⟨n,rfl,_⟩:=h;exact ⟨n,rfl⟩
def dL {α:Type}{enc:α->List B3.Data}{P:α->Prop}{row:List SD}(hr:∀r,L9.g C vs row r->∃a,r=enc a/\P a){n:Nat}{d:B3.Data}(h:(sL n row).g C vs d):∃l:List α,d=B8 enc l/\O l<=n/\∀a,a∈l->P a:=by
 unfold sL at h;simp only [SD.g] at h;obtain ⟨rows,rfl,_,h2,_,h4⟩:=h;have key:∀rows:List (List B3.Data),(∀r,r∈rows->L9.g C vs row r)->∃l:List α,O l=O rows/\rows.flatten=l.flatMap enc/\∀a,a∈l->P a:=by
  intro rows
  induction rows with
  |nil=>intro _;exact ⟨[],rfl,rfl,U⟩
  |cons r rs ih =>
   intro h;obtain ⟨a,ha,hok⟩:=hr r (h r U);obtain ⟨l,h1,h2,h3⟩:=ih (λr hr' =>h r (by simp [hr']));refine ⟨a::l,by simp [h1],by simp [h2,ha],?_⟩;intro b hb
   rcases C4.1 hb with rfl|hb
   .exact hok
   .exact h3 b hb
 obtain ⟨l,h1,h2',h3⟩:=key rows h4;exact ⟨l,by rw [B8,h1,h2'],V,h3⟩
def s1 {a:SD}{ds:List B3.Data}(h:L9.g C vs [a] ds):∃x,ds=[x]/\a.g C vs x:=by
 simp only [L9.g] at h;obtain ⟨x,_,rfl,h1,rfl⟩:=h;exact ⟨x,rfl,h1⟩
def sc {a b:SD}{l:List SD}{ds:List B3.Data}(h:L9.g C vs (a::b::l) ds):∃x xs,ds=x::xs/\a.g C vs x/\L9.g C vs (b::l) xs:=by
 rw [L9.g] at h;exact h
def aH4 (r:List B3.Data)(h:L9.g C vs as2 r):∃a:bU,r=a.enc/\True:=by
 obtain ⟨x0,_,rfl,h0,h⟩:=sc h;obtain ⟨x1,_,rfl,h1,h⟩:=sc h;obtain ⟨x2,_,rfl,h2,h⟩:=sc h;obtain ⟨x3,_,rfl,h3,h⟩:=sc h;obtain ⟨x4,rfl,h4⟩:=s1 h;obtain ⟨a0,rfl⟩:=dI h0;obtain ⟨a1,rfl⟩:=dI h1;obtain ⟨a2,rfl⟩:=dI h2;obtain ⟨a3,rfl⟩:=dS h3;obtain ⟨a4,rfl⟩:=dI h4;exact ⟨⟨a0,a1,a2,a3,a4⟩,rfl,trivial⟩
def bD0 (r:List B3.Data)(h:L9.g C vs [sI] r):∃a:Int,r=[Z a]/\True:=by
 obtain ⟨x0,rfl,h0⟩:=s1 h;obtain ⟨a0,rfl⟩:=dI h0;exact ⟨a0,rfl,trivial⟩
def bD5 (r:List B3.Data)(h:L9.g C vs [sS] r):∃a:M6,r=[.str a]/\True:=by
 obtain ⟨x0,rfl,h0⟩:=s1 h;obtain ⟨a0,rfl⟩:=dS h0;exact ⟨a0,rfl,trivial⟩
def aX2 (r:List B3.Data)(h:L9.g C vs [sI,sI] r):∃a:Int×Int,r=[Z a.1,Z a.2]/\True:=by
 obtain ⟨x0,_,rfl,h0,h⟩:=sc h;obtain ⟨x1,rfl,h1⟩:=s1 h;obtain ⟨a0,rfl⟩:=dI h0;obtain ⟨a1,rfl⟩:=dI h1;exact ⟨(a0,a1),rfl,trivial⟩
def bC8 (r:List B3.Data)(h:L9.g C vs bj8 r):∃a:dY,r=a.enc/\O a.L0<=100:=by
 obtain ⟨x0,_,rfl,h0,h⟩:=sc h;obtain ⟨x1,_,rfl,h1,h⟩:=sc h;obtain ⟨x2,_,rfl,h2,h⟩:=sc h;obtain ⟨x3,_,rfl,h3,h⟩:=sc h;obtain ⟨x4,_,rfl,h4,h⟩:=sc h;obtain ⟨x5,_,rfl,h5,h⟩:=sc h;obtain ⟨x6,rfl,h6⟩:=s1 h;obtain ⟨a0,rfl⟩:=dS h0;obtain ⟨a1,rfl⟩:=dI h1;obtain ⟨a2,rfl⟩:=dS h2;obtain ⟨a3,rfl⟩:=dS h3;obtain ⟨a4,rfl,k4,_⟩:=dL bD0 h4;obtain ⟨a5,rfl⟩:=dI h5;obtain ⟨a6,rfl⟩:=dI h6;exact ⟨⟨a0,a1,a2,a3,a4,a5,a6⟩,rfl,k4⟩
def bD6 (r:List B3.Data)(h:L9.g C vs bk0 r):∃a:jt,r=a.enc/\O a.p9<=100/\∀x,x∈a.p9->O x.L0<=100:=by
 obtain ⟨x0,_,rfl,h0,h⟩:=sc h;obtain ⟨x1,_,rfl,h1,h⟩:=sc h;obtain ⟨x2,_,rfl,h2,h⟩:=sc h;obtain ⟨x3,rfl,h3⟩:=s1 h;obtain ⟨a0,rfl⟩:=dS h0;obtain ⟨a1,rfl,k1,k2⟩:=dL bC8 h1;obtain ⟨a2,rfl⟩:=dI h2;obtain ⟨a3,rfl⟩:=dI h3;exact ⟨⟨a0,a1,a2,a3⟩,rfl,k1,k2⟩
def bD1 (r:List B3.Data)(h:L9.g C vs bj9 r):∃a:Wk,r=a.enc/\O a.expr<=100:=by
 obtain ⟨x0,_,rfl,h0,h⟩:=sc h;obtain ⟨x1,rfl,h1⟩:=s1 h;obtain ⟨a0,rfl⟩:=dS h0;obtain ⟨a1,rfl,k1,_⟩:=dL aH4 h1;exact ⟨⟨a0,a1⟩,rfl,k1⟩
def bC4 (r:List B3.Data)(h:L9.g C vs bj3 r):∃a:Ke,r=a.enc/\O a.expr<=100:=by
 obtain ⟨x0,_,rfl,h0,h⟩:=sc h;obtain ⟨x1,_,rfl,h1,h⟩:=sc h;obtain ⟨x2,rfl,h2⟩:=s1 h;obtain ⟨a0,rfl⟩:=dS h0;obtain ⟨a1,rfl⟩:=dI h1;obtain ⟨a2,rfl,k1,_⟩:=dL aH4 h2;exact ⟨⟨a0,a1,a2⟩,rfl,k1⟩
structure br7 (v:Vw):Prop where
 on:O v.on<=100
 wh:O v.wh<=100
 items:O v.items<=100
 Lq:∀x,x∈v.items->O x.expr<=100
 L7:O v.L7<=100
 WJ:∀x,x∈v.L7->O x.expr<=100
def dVw (r:List B3.Data)(h:L9.g C vs rVw r):∃a:Vw,r=a.enc/\br7 a:=by
 obtain ⟨x0,_,rfl,h0,h⟩:=sc h;obtain ⟨x1,_,rfl,h1,h⟩:=sc h;obtain ⟨x2,_,rfl,h2,h⟩:=sc h;obtain ⟨x3,_,rfl,h3,h⟩:=sc h;obtain ⟨x4,_,rfl,h4,h⟩:=sc h;obtain ⟨x5,_,rfl,h5,h⟩:=sc h;obtain ⟨x6,_,rfl,h6,h⟩:=sc h;obtain ⟨x7,_,rfl,h7,h⟩:=sc h;obtain ⟨x8,rfl,h8⟩:=s1 h;obtain ⟨a0,rfl⟩:=dS h0;obtain ⟨a1,rfl⟩:=dI h1;obtain ⟨a2,rfl⟩:=dS h2;obtain ⟨a3,rfl⟩:=dS h3;obtain ⟨a4,rfl,k4,_⟩:=dL aX2 h4;obtain ⟨a5,rfl,k5,_⟩:=dL aH4 h5;obtain ⟨a6,rfl,k6,j6⟩:=dL bD1 h6;obtain ⟨a7,rfl⟩:=dB h7;obtain ⟨a8,rfl,k8,j8⟩:=dL bC4 h8;exact ⟨⟨a0,a1,a2,a3,a4,a5,a6,a7,a8⟩,rfl,k4,k5,k6,j6,k8,j8⟩
def bC9 (r:List B3.Data)(h:L9.g C vs [sS,sS,sI] r):∃a:pe,r=a.enc/\True:=by
 obtain ⟨x0,_,rfl,h0,h⟩:=sc h;obtain ⟨x1,_,rfl,h1,h⟩:=sc h;obtain ⟨x2,rfl,h2⟩:=s1 h;obtain ⟨a0,rfl⟩:=dS h0;obtain ⟨a1,rfl⟩:=dS h1;obtain ⟨a2,rfl⟩:=dI h2;exact ⟨⟨a0,a1,a2⟩,rfl,trivial⟩
def bD3 (r:List B3.Data)(h:L9.g C vs [sS,sS,sI,sI,sI,sI] r):∃a:oh,r=a.enc/\True:=by
 obtain ⟨x0,_,rfl,h0,h⟩:=sc h;obtain ⟨x1,_,rfl,h1,h⟩:=sc h;obtain ⟨x2,_,rfl,h2,h⟩:=sc h;obtain ⟨x3,_,rfl,h3,h⟩:=sc h;obtain ⟨x4,_,rfl,h4,h⟩:=sc h;obtain ⟨x5,rfl,h5⟩:=s1 h;obtain ⟨a0,rfl⟩:=dS h0;obtain ⟨a1,rfl⟩:=dS h1;obtain ⟨a2,rfl⟩:=dI h2;obtain ⟨a3,rfl⟩:=dI h3;obtain ⟨a4,rfl⟩:=dI h4;obtain ⟨a5,rfl⟩:=dI h5;exact ⟨⟨a0,a1,a2,a3,a4,a5⟩,rfl,trivial⟩
def bC7 (r:List B3.Data)(h:L9.g C vs [sS,sS,sI,sI] r):∃a:rY,r=a.enc/\True:=by
 obtain ⟨x0,_,rfl,h0,h⟩:=sc h;obtain ⟨x1,_,rfl,h1,h⟩:=sc h;obtain ⟨x2,_,rfl,h2,h⟩:=sc h;obtain ⟨x3,rfl,h3⟩:=s1 h;obtain ⟨a0,rfl⟩:=dS h0;obtain ⟨a1,rfl⟩:=dS h1;obtain ⟨a2,rfl⟩:=dI h2;obtain ⟨a3,rfl⟩:=dI h3;exact ⟨⟨a0,a1,a2,a3⟩,rfl,trivial⟩
def bD2 (r:List B3.Data)(h:L9.g C vs [sS,sS,sI] r):∃a:qh,r=a.enc/\True:=by
 obtain ⟨x0,_,rfl,h0,h⟩:=sc h;obtain ⟨x1,_,rfl,h1,h⟩:=sc h;obtain ⟨x2,rfl,h2⟩:=s1 h;obtain ⟨a0,rfl⟩:=dS h0;obtain ⟨a1,rfl⟩:=dS h1;obtain ⟨a2,rfl⟩:=dI h2;exact ⟨⟨a0,a1,a2⟩,rfl,trivial⟩
def bD4 (r:List B3.Data)(h:L9.g C vs [sS,sS] r):∃a:uP,r=a.enc/\True:=by
 obtain ⟨x0,_,rfl,h0,h⟩:=sc h;obtain ⟨x1,rfl,h1⟩:=s1 h;obtain ⟨a0,rfl⟩:=dS h0;obtain ⟨a1,rfl⟩:=dS h1;exact ⟨⟨a0,a1⟩,rfl,trivial⟩
def bC5 (r:List B3.Data)(h:L9.g C vs [sS,sL 100 [sS],sI] r):∃a:uO,r=a.enc/\O a.tables<=100:=by
 obtain ⟨x0,_,rfl,h0,h⟩:=sc h;obtain ⟨x1,_,rfl,h1,h⟩:=sc h;obtain ⟨x2,rfl,h2⟩:=s1 h;obtain ⟨a0,rfl⟩:=dS h0;obtain ⟨a1,rfl,k1,_⟩:=dL bD5 h1;obtain ⟨a2,rfl⟩:=dI h2;exact ⟨⟨a0,a1,a2⟩,rfl,k1⟩
def bC6 (r:List B3.Data)(h:L9.g C vs bj7 r):∃c:s6,r=c.enc/\J8 c:=by
 obtain ⟨x0,_,rfl,h0,h⟩:=sc h;obtain ⟨x1,_,rfl,h1,h⟩:=sc h;obtain ⟨x2,_,rfl,h2,h⟩:=sc h;obtain ⟨x3,_,rfl,h3,h⟩:=sc h;obtain ⟨x4,_,rfl,h4,h⟩:=sc h;obtain ⟨x5,_,rfl,h5,h⟩:=sc h;obtain ⟨x6,_,rfl,h6,h⟩:=sc h;obtain ⟨x7,rfl,h7⟩:=s1 h;obtain ⟨a0,rfl,k0,j0⟩:=dL bD6 h0;obtain ⟨a1,rfl,k1,j1⟩:=dL dVw h1;obtain ⟨a2,rfl,k2,_⟩:=dL bC9 h2;obtain ⟨a3,rfl,k3,_⟩:=dL bD3 h3;obtain ⟨a4,rfl,k4,_⟩:=dL bC7 h4;obtain ⟨a5,rfl,k5,_⟩:=dL bD2 h5;obtain ⟨a6,rfl,k6,_⟩:=dL bD4 h6;obtain ⟨a7,rfl,k7,j7⟩:=dL bC5 h7;refine ⟨⟨a0,a1,a2,a3,a4,a5,a6,a7⟩,rfl,⟨⟨D,D,D,D,D,D,D,D⟩,?_,?_⟩,?_,?_,?_,?_,?_,?_,?_⟩
 .intro k hk;have:=j0 _ (P6 hk);simp only at this ⊢;omega
 .intro k i hk hi;have:=(j0 _ (P6 hk)).2 _ (P6 hi);simp only at this ⊢;omega
 .intro k hk;have:=(j1 _ (P6 hk)).items;simp only at this ⊢;omega
 .intro k hk;have:=(j1 _ (P6 hk)).L7;simp only at this ⊢;omega
 .intro k hk;have:=(j1 _ (P6 hk)).on;simp only at this ⊢;omega
 .intro k hk;have:=(j1 _ (P6 hk)).wh;simp only at this ⊢;omega
 .intro k i hk hi;have:=(j1 _ (P6 hk)).Lq _ (P6 hi);simp only at this ⊢;omega
 .intro k i hk hi;have:=(j1 _ (P6 hk)).WJ _ (P6 hi);simp only at this ⊢;omega
 .intro k hk;have:=j7 _ (P6 hk);simp only at this ⊢;omega
end
structure pg where
 w:Nat->B4->Prop
instance:Inhabited pg:=⟨⟨λ_ _=>False⟩⟩
variable [Inhabited pg]
def eX (xs:List Int)(g:s6):Ctx where
 Ω:=(default:pg).w
 Φ k d:=match k with
  |0=>∃s:M6,d= .str s/\s∈s6.sn g
  |1=>∃i:Nat,d=Z i/\i<s6.ns g
  |2=>d=ints xs
  |_=>False
 Θ k cs:=match k with
  |0=>∃c:s6,cs=c.enc.map .d/\M1 c=W/\J8 c
  |1=>cs=g.enc.map .d
  |_=>False
 Ψ k o:=match k with
  |0=>∃p,p<=4 * O xs/\o=tp xs p
  |_=>False
 K9 k o h:=by
  match k,h with
  |0,h=>obtain ⟨p,_,rfl⟩:=h;rfl
def Bq:Sh.Sem:=λi4 f args H l=>match args,H with
 |[.ptr 1 0,.d x],[z,.pr 0]=>if y7 f 22&&l.may 1 then match x.int? i4 with
   |some (.i64,lo,hi,r)=>if decide (1<=lo)&&decide (hi<=1000000) then J [(.d (.int .i64 0 (hi - 1) (match r with| .eq i=> .lt i|_=> .no)),[z,.pr 0])] else K
   |_=>K
  else K
 |_,_=>K
def Dj (xs:List Int)(hx:O xs<=35184372088832)(g:s6):jF (eX xs g) A Bq:=by
 intro i4 f args H l outs h vs hB az Hc ha hH;unfold Bq at h;split at h
 next x z=>
  split at h
  next hc=>
   simp only [c8] at hc;have hf:=j4 hc.1;subst hf;split at h
   .rename_i lo hi r hi?
    split at h
    next hb=>
     simp only [c8,decide_eq_true_eq] at hb;cases h;simp only [B6.g] at ha;obtain ⟨a0,_,rfl,h0,a1,_,rfl,h1,rfl⟩:=ha;simp only [M0.g] at hH;obtain ⟨o0,_,rfl,hz,o,_,rfl,⟨p,hp,rfl⟩,rfl⟩:=hH;have h0:=dc h0;subst h0;obtain ⟨d,rfl,h2⟩:=bV h1;obtain ⟨n,rfl,h3,h4,h5⟩:=SD.kP hB hi? h2;obtain ⟨v,H1,⟨r',q,rfl,r1,r2,r3,hq,rfl⟩,hm⟩:=aB2 o0 xs p n l hx hp V hc.2;refine ⟨_,_,⟨_,y3.2 rfl,dO ?_,?_⟩,hm⟩
     .have hr:r' <n:=by
       by_cases h2:2<=n
       .exact r2 h2
       .have:=r3 V;omega
      simp only [SD.g];refine ⟨r',rfl,r1,V,?_⟩;split
      next i=>
       obtain ⟨m,m1,m2⟩:=h5;exact ⟨m,m1,r1,V⟩
      .trivial
     .simp only [M0.g]
      exact ⟨_,_,rfl,hz,_,_,rfl,⟨q,hq,rfl⟩,rfl⟩
    .cases h
   .cases h
  .cases h
 .cases h
def XQ:Oz:=λops dr c s=>match ops,dr,c with
 |[⟨.load (J 8) (.slot t),K,K,_⟩,⟨.call f [.loc 0],K,K,_⟩],F,.loc 1=>if y7 f 40 then match s.T[t]? with
   |some (.ptr id 0)=>match s.H[id]? with
    |some (.cells p l)=>if B6.le (λ_ _=>F) s.i4 (l.map SV.F4) (bj7.map .d) then J ([{ s with H:=s.H.set id (.cells (J 0) l) }],[s]) else K
    |_=>K
   |_=>K
  else K
 |_,_,_=>K
theorem Xg {C:Ctx}{vs:List Nat}:∀{l:List SD} {cs:List c7},B6.g C vs (l.map .d) cs->∃ds,cs=ds.map .d/\L9.g C vs l ds
 |[],_,h=>by have _:Inhabited pg:=inferInstance;simp only [List.map_nil,B6.g] at h;subst h;exact ⟨[],rfl,by simp [L9.g]⟩
 |x::l,_,h=>by
  simp only [M8,B6.g] at h;obtain ⟨a,az,rfl,h1,h2⟩:=h;obtain ⟨d,rfl,h3⟩:=bV h1;obtain ⟨ds,rfl,h4⟩:=Xg h2;exact ⟨d::ds,rfl,by simp only [L9.g];exact ⟨_,_,rfl,h3,h4⟩⟩
def Cz (xs:List Int)(g:s6)(l:H8)(b:Nat):Ig (eX xs g) A l b XQ:=by
 intro ops dr c s p q h vs T H hs;unfold XQ at h;split at h
 next t u f u'=>
  split at h
  next hf=>
   have hf:=j4 hf;subst hf;split at h
   next id e=>
    split at h
    next p' l' e2=>
     split at h
     next hle=>
      cases h;obtain ⟨hT,hH,hB⟩:=hs;obtain ⟨a,h1,h2⟩:=B6.get hT e;have h2:=dc h2;subst h2;obtain ⟨o,h3,h4⟩:=M0.get hH e2;obtain ⟨cs,rfl,h5,h6⟩:=h4;have h7:=B6.map (C:=eX xs g) (vs:=vs) (λ_ _=>SV.th) h5;obtain ⟨ds,e3,h8⟩:=Xg (B6.dD hB (C:=eX xs g) (fact:=λ_ _=>F) (λk ds h=>by cases h) _ hle h7);obtain ⟨c,rfl,hc⟩:=bC6 ds h8;have hlen:O cs=8:=by
       have:=congrArg List.length e3;simpa [s6.enc] using this
      have hR:Rn A l b [⟨.load (J 8) (.slot t),K,K,u⟩,⟨.call 40 [.loc 0],K,K,u'⟩] F T H λT' H' L=>T' =T/\H' =H/\G5 T' L (.loc 1)= .d (.bool (M1 c)):=by
       refine Rn.text ?_;refine Ry.pure (v:=cat c) (rs:=[id]) rfl ?_ ?_
       .have ED:rq T 0 [] (.slot t)= .ptr id 0:=by simp [rq,LR,h1,c7.F4]
        simp only [l8,ED,rd,h3];rw [if_pos V,List.drop_zero,y6 V];show J (c7.agg (cs.map c7.F4),[id])=_
        rw [e3];rfl
       .exact cl (Vx c hc) (nl ⟨rfl,rfl,rfl⟩)
      unfold Rn at hR ⊢;obtain ⟨r,N,⟨r1,r2,r3⟩,hr⟩:=hR;refine ⟨r,N,⟨M1 c,r3,?_⟩,hr⟩;rw [r1,r2];cases hv:M1 c with
      |false=>exact ⟨s,U,vs,Le.refl _,hT,hH,hB⟩
      |true =>
       refine ⟨{ s with H:=s.H.set id (.cells (J 0) l') },U,vs,Le.refl _,hT,?_,hB⟩;have:=M0.set hH id (a:= .cells (J 0) l') (b:= .cells cs) ⟨cs,rfl,h5,λk hk=>by
        cases hk;exact ⟨c,e3,hv,hc⟩⟩
       have e4:H.set id (.cells cs)=H:=ay h3
       rwa [e4] at this
     .cases h
    .cases h
   .cases h
  .cases h
 .cases h
def aA1:Oz:=λ_ _ _ _=>K
def Lg {C:Ctx}{A:B3.Prog}{l:H8}{b:Nat}:Ig C A l b aA1:=λ_ _ _ _ _ _ h=>by have _:Inhabited pg:=inferInstance;cases h
def qA:Fact:=λ_ _=>F
def ek {C:Ctx}:BE C qA:=λ_ _ h=>by have _:Inhabited pg:=inferInstance;cases h
end Go.Proofs.YtibjocmpkoepoaaGreat
namespace Go.Proofs.YtibjocmpkoepoaaGreat
open Go.B3 Go.B3.S Go.B3.Sh
attribute [local irreducible] Rx Ry Rn Ex Pf
variable [Inhabited pg]
def sZ (C:Ctx)(l:List Sh.Spec):Prop:=∀s,s∈l->s.ok C A
def sZ.nil {C:Ctx}:sZ C []:=λs h=>by have _:Inhabited pg:=inferInstance;cases h
def sZ.cons {C:Ctx}{s:Sh.Spec}{l:List Sh.Spec}(h:s.ok C A)(hl:sZ C l):sZ C (s::l):=λt ht=>by
 have _:Inhabited pg:=inferInstance
 rcases C4.1 ht with rfl|ht
 .exact h
 .exact hl t ht
def aQ1 (l:List Sh.Spec):Sh.Sem:=Dk Bq (Zw qA l)
def Bp {xs:List Int}(hx:O xs<=35184372088832){g:s6}{l:List Sh.Spec}(h:sZ (eX xs g) l):jF (eX xs g) A (aQ1 l):=qV (Dj xs hx g) (Zx ek h)
def fM {xs:List Int}(hx:O xs<=35184372088832){g:s6}{l:List Sh.Spec}(h:sZ (eX xs g) l){kp js:List Nat}{af:q6}{s:Sh.Spec}(hp:A.gQ s.f=K)(ha:A.fn s.f=J af)(hc:aP6 A (aQ1 l) aA1 qA kp js 40 af s=W):s.ok (eX xs g) A :=
 Bo (Bp hx h) ek Lg hp ha hc
def Gg (n:Nat):SV:= .own n (.lit (.slice 0 []))
def zC:SO:= .cells K [Gg 4,Gg 9,Gg 3,Gg 6,Gg 4,Gg 3,Gg 2,Gg 3]
def l0:H8:=⟨0,0,0,0⟩
def l1:H8:=⟨0,0,2,2⟩
def iR (a b:Int):SD:= .int .i64 a b .no
def s35:Sh.Spec:=⟨41,[.d (.str 1),.d (iR 0 1000000)],[],l0,[(.d (.str 2),[])]⟩
def vV:SV:= .agg K [.d (iR 0 2),.d sI,.d (.str 100)]
def bl0:Sh.Spec:=⟨228,[vV],[],l0,[(.d (.bool .xb),[])]⟩
def aP1:Sh.Spec:=⟨169,[vV],[],l0,[(vV,[])]⟩
def bk7:Sh.Spec:=⟨110,[.d sI],[],l0,[(vV,[])]⟩
def bk9:Sh.Spec:=⟨196,[.d (.str 100)],[],l0,[(vV,[])]⟩
def Zn:Sh.Spec:=⟨139,[.ptr 1 0],[zC,.pr 0],l1,[(vV,[zC,.pr 0])]⟩
def Zo:Sh.Spec:=⟨140,[.ptr 1 0],[zC,.pr 0],l1,[(vV,[zC,.pr 0])]⟩
def aP0:Sh.Spec:=⟨141,[.d (iR 3 18)],[],l0,[(.d (iR 1 3),[])]⟩
def rTm:List SD:=[iR 0 18,iR 0 2,sI,.str 100,iR 0 100]
def tyS:SV:= .d (.slice K 1 24 [iR 1 2])
def VJ (d:Nat)(hi:Nat):Sh.Spec:=⟨93,[.ptr 1 0,.d (iR 1 d),tyS,.d (iR 1 2)],[zC,.pr 0],l1,[(.own 5 (.slice K 1 hi rTm),[zC,.pr 0]),(.d (.slice K 1 hi rTm),[zC,.pr 0])]⟩
def rC4:List SD:=[.str 2,iR 1 2,.str 6,.str 2,.slice K 0 12 [iR 0 3],iR 0 1,iR 0 20]
def rT4:List SD:=[.str 2,.slice K 2 4 rC4,iR 0 1,iR 0 40]
def bS3:Sh.Spec:=⟨94,[.ptr 1 0,tyS,.d (iR 1 3),.d (iR 0 3)],[zC,.pr 0],l1,[(.d (.slice K 1 3 [.str 2,.slice K 1 4 rTm]),[zC,.pr 0])]⟩
def at2 (n:Nat):Sh.Spec:=⟨97,[.d (.slice K 0 n [iR 0 3]),.d (iR 0 3)],[],l0,[(.d (.slice K 0 (n+1) [iR 0 3]),[]),(.own 1 (.slice K 0 (n+1) [iR 0 3]),[])]⟩
def e0 (n:Nat):SV:= .d (.slice K 0 0 (c9 n .top))
def aG8:SV:= .agg K [.d (.slice K 0 3 rT4),e0 9,e0 3,e0 6,e0 4,e0 3,e0 2,e0 3]
def lC (n:Nat):H8:=⟨2,n+1,n+1,2⟩
def rCn:List SD:=[.str 2,iR 1 2,.str 6,.str 2,.slice K 0 0 [iR 0 3],.lit (.int .i64 0),.lit (.int .i64 0)]
def aW8:SV:= .agg K (rCn.map .d)
def bT4:SV:= .agg K [.d (.str 2),.d (.slice K 0 0 (c9 7 .top)),.d (iR 0 1),.d (iR 0 40)]
def vC (m:Nat):SO:= .cells (J 0) [.d (.slice K 1 m rT4),e0 9,e0 3,e0 6,e0 4,e0 3,e0 2,e0 3]
def av8 (n:Nat):SV:= .agg K [.d (.str 2),.s5 5 7 0 n,.d (iR 0 1),.d (iR 0 40)]
def tBo (n:Nat):SO:= .cells K [.d (.str 2),.s5 5 7 0 n,.d (iR 0 1),.d (iR 0 40)]
def WZ (n:Nat):List SV:=(c9 n (rCn.map .d)).flatten
def bC3 (n:Nat):List SV:=(c9 n (rC4.map λx=>match x with| .slice v lo hi r=>SV.q (.slice v lo hi r)|x=>SV.d x)).flatten
def hN (c:SO)(n:Nat)(p9:List SV):List SO:=[zC,.pr 0,zC,c,tBo n,.cells K p9]
def bl2:Sh.Spec:=⟨42,[.ptr 1 0,aG8,bT4,.d (iR 0 3)],[zC,.pr 0],lC 1,[(aW8,[zC,.pr 0])]⟩
def at3 (c:SO)(n:Nat):Sh.Spec:=⟨42,[.ptr 1 0,aG8,av8 n,.d (iR 0 3)],hN c n (WZ n),lC 5,[(aW8,hN c n (WZ n))]⟩
def bk6 (c:SO)(n:Nat):Sh.Spec:=⟨96,[av8 n],hN c n (WZ n),⟨0,6,6,2⟩,[(.d (.slice K 0 n [iR 0 3]),hN c n (WZ n))]⟩
def s78 (c:SO)(n:Nat):Sh.Spec:=⟨43,[.ptr 1 0,aG8,av8 n],hN c n (WZ n),⟨0,0,6,2⟩,[(av8 n,hN c n (bC3 n))]⟩
def WO:SV:= .agg (J 0) [.d (.slice K 1 3 rT4),e0 9,e0 3,e0 6,e0 4,e0 3,e0 2,e0 3]
def s33 (n:Nat):Sh.Spec:=⟨14,[.ptr 1 0,.d (.lit (.int .i64 n))],[zC,.pr 0],l1,[(WO,[zC,.pr 0])]⟩
def pU:s6:=⟨[⟨[116,48],[⟨[99,48],1,[112,101,114,115,111,110],[],[],0,0⟩,⟨[99,49],2,[],[],[0],0,0⟩],0,0⟩],[],[],[],[],[],[],[]⟩
theorem aL9:M1 pU=W:=have _:Inhabited pg:=inferInstance;by kernel_rfl
def aL8:J8 pU:=by
 have _:Inhabited pg:=inferInstance;refine ⟨⟨by simp [s6.lH,pU],?_,?_⟩,?_,?_,?_,?_,?_,?_,?_⟩
 .intro n hn
  have:n=0:=by simp [pU] at hn;omega
  subst this;simp [pU,Y]
 .intro n i hn hi
  have:n=0:=by simp [pU] at hn;omega
  subst this;have hi:i<2:=by simpa [pU,Y] using hi
  match i,hi with
  |0,_=>simp [pU,Y]
  |1,_=>simp [pU,Y]
 .intro k hk;simp [pU] at hk
 .intro k hk;simp [pU] at hk
 .intro k hk;simp [pU] at hk
 .intro k hk;simp [pU] at hk
 .intro k i hk;simp [pU] at hk
 .intro k i hk;simp [pU] at hk
 .intro k hk;simp [pU] at hk
def ay7:Fact:=λk ds=>y7 k 0&&Sh.xz ds pU.enc
def Xn (xs:List Int)(g:s6):BE (eX xs g) ay7:=λk ds h=>by
 simp only [ay7,c8] at h;have h1:=j4 h.1;have h2:=Sh.II _ _ h.2;subst h1 h2;exact ⟨pU,rfl,aL9,aL8⟩
section
variable {xs:List Int} (hx:O xs<=35184372088832) (g:s6)
include hx
theorem o35:s35.ok (eX xs g) A:=fM hx (l:=[]) (kp:=[]) (js:=[]) .nil rfl rfl (by kernel_rfl)
theorem bK7:bl0.ok (eX xs g) A:=fM hx (l:=[]) (kp:=[]) (js:=[]) .nil rfl rfl (by kernel_rfl)
theorem bd2:aP1.ok (eX xs g) A:=fM hx (l:=[bl0]) (kp:=[]) (js:=[]) (.cons (bK7 hx g) .nil) rfl rfl (by kernel_rfl)
theorem bK5:bk7.ok (eX xs g) A:=fM hx (l:=[aP1]) (kp:=[]) (js:=[]) (.cons (bd2 hx g) .nil) rfl rfl (by kernel_rfl)
theorem bK6:bk9.ok (eX xs g) A:=fM hx (l:=[aP1]) (kp:=[]) (js:=[]) (.cons (bd2 hx g) .nil) rfl rfl (by kernel_rfl)
theorem aq6:Zn.ok (eX xs g) A:=fM hx (l:=[bk7]) (kp:=[]) (js:=[]) (.cons (bK5 hx g) .nil) rfl rfl (by kernel_rfl)
theorem aq7:Zo.ok (eX xs g) A:=fM hx (l:=[bk9]) (kp:=[]) (js:=[]) (.cons (bK6 hx g) .nil) rfl rfl (by kernel_rfl)
theorem bd1:aP0.ok (eX xs g) A:=fM hx (l:=[]) (kp:=[]) (js:=[]) .nil rfl rfl (by kernel_rfl)
theorem bc9:(VJ 1 1).ok (eX xs g) A:=fM hx (l:=[Zn,Zo]) (kp:=[]) (js:=[]) (.cons (aq6 hx g) (.cons (aq7 hx g) .nil)) rfl rfl (by kernel_rfl)
theorem YB:(VJ 2 4).ok (eX xs g) A:=fM hx (l:=[Zn,Zo,aP0,VJ 1 1]) (kp:=[]) (js:=[1]) (.cons (aq6 hx g) (.cons (aq7 hx g) (.cons (bd1 hx g) (.cons (bc9 hx g) .nil)))) rfl rfl (by kernel_rfl)
theorem bd0:(VJ 3 13).ok (eX xs g) A:=fM hx (l:=[Zn,Zo,aP0,VJ 2 4]) (kp:=[]) (js:=[1]) (.cons (aq6 hx g) (.cons (aq7 hx g) (.cons (bd1 hx g) (.cons (YB hx g) .nil)))) rfl rfl (by kernel_rfl)
theorem bK3:bS3.ok (eX xs g) A:=fM hx (l:=[s35,VJ 2 4]) (kp:=[]) (js:=[]) (.cons (o35 hx g) (.cons (YB hx g) .nil)) rfl rfl (by kernel_rfl)
theorem aM5 (n:Nat)(h:n=2\/n=3\/n=4):(at2 n).ok (eX xs g) A:=by
 rcases h with rfl|rfl|rfl<;>exact fM hx (l:=[]) (kp:=[3]) (js:=[]) .nil rfl rfl (by kernel_rfl)
theorem bK9:bl2.ok (eX xs g) A:=fM hx (l:=[s35]) (kp:=[]) (js:=[]) (.cons (o35 hx g) .nil) rfl rfl (by kernel_rfl)
theorem aM6 (c:SO)(n:Nat)(h:n=1\/n=2\/n=3)(hc:c=zC\/c=vC 1\/c=vC 2):(at3 c n).ok (eX xs g) A:=by
 rcases h with rfl|rfl|rfl<;>rcases hc with rfl|rfl|rfl<;>exact fM hx (l:=[s35]) (kp:=[]) (js:=[]) (.cons (o35 hx g) .nil) rfl rfl (by kernel_rfl)
theorem bK4 (c:SO)(n:Nat)(h:n=2\/n=3\/n=4)(hc:c=zC\/c=vC 1\/c=vC 2):(bk6 c n).ok (eX xs g) A:=by
 rcases h with rfl|rfl|rfl<;>rcases hc with rfl|rfl|rfl<;>exact fM hx (l:=[]) (kp:=[]) (js:=[]) .nil rfl rfl (by kernel_rfl)
theorem o78 (c:SO)(n:Nat)(h:n=2\/n=3\/n=4)(hc:c=zC\/c=vC 1\/c=vC 2):(s78 c n).ok (eX xs g) A:=by
 have hl:sZ (eX xs g) [bk6 c n,at2 2,at2 3,at2 4]:= .cons (bK4 hx g c n h hc) (.cons (aM5 hx g 2 U) (.cons (aM5 hx g 3 U) (.cons (aM5 hx g 4 U) .nil)))
 rcases h with rfl|rfl|rfl<;>rcases hc with rfl|rfl|rfl<;>exact fM hx (kp:=[]) (js:=[]) hl rfl rfl (by kernel_rfl)
def aQ5:List Sh.Spec:=[s35,bl2]++[zC,vC 1,vC 2].flatMap λc=>[at3 c 1,at3 c 2,at3 c 3,s78 c 2,s78 c 3,s78 c 4]
def VX:sZ (eX xs g) aQ5:=by
 refine .cons (o35 hx g) (.cons (bK9 hx g) ?_);intro s hs;obtain ⟨c,hc,h⟩:=List.mem_flatMap.1 hs;have hc:c=zC\/c=vC 1\/c=vC 2:=by simpa using hc
 simp only [C4,List.not_mem_nil,or_false] at h
 rcases h with rfl|rfl|rfl|rfl|rfl|rfl
 .exact aM6 hx g c 1 U hc
 .exact aM6 hx g c 2 U hc
 .exact aM6 hx g c 3 U hc
 .exact o78 hx g c 2 U hc
 .exact o78 hx g c 3 U hc
 .exact o78 hx g c 4 U hc
theorem o33:(s33 3).ok (eX xs g) A:=Bo (kp:=[]) (js:=[]) (fuel:=40) (Bp hx (VX hx g)) (Xn xs g) (Cz xs g _ _) rfl rfl (by kernel_rfl)
end
end Go.Proofs.YtibjocmpkoepoaaGreat


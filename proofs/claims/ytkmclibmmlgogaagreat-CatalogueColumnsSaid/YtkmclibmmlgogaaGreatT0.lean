/- Texts T1 T2 T3 (made short by a program) -/
import Derived.Test.YtkmclibmmlgogaaGreatS2
import Derived.Test.YtkmclibmmlgogaaGreatX1
set_option linter.unusedVariables false
set_option linter.unusedSimpArgs false
open Bool renaming and_eq_true → b5, false_eq_true → b7
open List renaming map_cons → G7, mem_cons → B8, mem_singleton → p8, take_of_length_le → s6
open Nat renaming beq → y4, eq_of_beq_eq_true → b8
namespace Go.u7.S
section
variable {A:Prog} {l:F9} {b:Nat}
variable {dr:Bool} {j4 ops:List n8} {T:List b6} {H:o6} {n:Nat} {rl:List b6} {n5:List Touch} {Q:List b6->o6->List b6->Prop}
theorem bq {op:BinOp}{a c r:Data}(h:K5 op a c=some r){x y:r8}{u:List Nat}(h2:Ry A l b dr j4 ops T H (n+1) (.d r::rl) n5 Q)(hx:rq T n rl x= .d a:=by rfl)(hy:rq T n rl y= .d c:=by rfl) :
  Ry A l b dr j4 (⟨.bin op x y,none,none,u⟩::ops) T H n rl n5 Q:=Ry.pure (rs:=[]) rfl (by simp only [k9,hx,hy,h]) h2
theorem ci {k k' :IntKind}{c d:Int}(h:k.wrap c=d){x:r8}{u:List Nat}(h2:Ry A l b dr j4 ops T H (n+1) (.d (.int k d)::rl) n5 Q)(hx:rq T n rl x= .d (.int k' c):=by rfl) :
  Ry A l b dr j4 (⟨.ki k x,none,none,u⟩::ops) T H n rl n5 Q:=Ry.pure (rs:=[]) rfl (by simp only [k9,hx,h]) h2
end
end Go.u7.S
namespace Go.Proofs.YtkmclibmmlgogaaGreat
open Go.u7 Go.u7.S
attribute [local irreducible] Rx Ry Rn Ex Pf
def tp (xs:List Int)(p:Nat):u5:= .cells [.d (y7 (fun n=>[num n]) xs),.d (num (p:Int))]
theorem UU (z:Int){n:Int}(h2:2<=n)(h3:n<=1000000):∃ r q:Int,K5 .rem (.int .i64 z) (.int .i64 n)=some (.int .i64 q)/\ -n<q/\q<n/\K5 .rem (.int .i64 (q+n)) (.int .i64 n)=some (.int .i64 r)/\0<=r/\r<n:=by
 have h1:=Int.tmod_lt_of_pos z (show 0<n by omega);have h4: -n<z.tmod n:=by
  by_cases hz:z<0
  ·have e:z.tmod n= -((-z).tmod n):=by rw [<- Int.neg_tmod,Int.neg_neg]
   have:=Int.tmod_lt_of_pos (-z) (show 0<n by omega);omega
  ·have:=Int.tmod_nonneg (a:=z) n (by omega)
   omega
 have h5:=Int.tmod_lt_of_pos (z.tmod n+n) (show 0<n by omega);have h6:=Int.tmod_nonneg (a:=z.tmod n+n) n (by omega);refine ⟨(z.tmod n+n).tmod n,z.tmod n,?_,h4,h1,?_,h6,h5⟩
 ·simp [K5,V1,aA];omega
 ·simp [K5,V1,aA];omega
theorem Yk (xs:List Int)(p:Nat)(n:Int)(l:F9)(hx:xs.length<=35184372088832)(hp:p<=4 * xs.length)(hn:n<=1000000)(hl:l.may 0=true) :
  Pq A 23 [.ptr 0 0,.d (num n)] [tp xs p] l fun v H1=>∃ (r:Int) (q:Nat),v= .d (num r)/\0<=r/\(2<=n->r<n)/\(n<2->r=0)/\q<=4 * xs.length/\H1=[tp xs q]:=by
 unfold tp;have h0: -9223372036854775808<=(4:Int) * xs.length/\(4:Int) * xs.length<9223372036854775808:=by omega
 refine Pq.run (b:=1) [.ptr 0 0,.d (num n),.any,.any,.any] rfl rfl rfl rfl rfl ?_;refine gr ?_;refine tB (C2 n 2||(o8 xs.length 0||X4 (4 * xs.length) p)) ?_ (fun h=> ?_) (fun h=> ?_)
 ·repeat' (first|refine mu ?_ h0|refine gx ?_|refine fk (h1:=fun hw=> ?_) (h2:=fun hw=> ?_)|refine M8 (h1:=fun hw=> ?_) (h2:=fun hw=> ?_)|refine ⟨rfl,rfl,_,rfl,?_⟩|refine ⟨rfl,rfl⟩|fail)
  all_goals exact cc
 ·refine gr ?_
  refine ⟨_,_,rfl,0,p,rfl,Int.le_refl _,fun h=>by omega,fun _=>rfl,hp,rfl⟩
 have h' :=h;simp [o9,o5,j5] at h';obtain ⟨h1,h2,h3⟩:=h';have hlen:0<xs.length:=by
  rcases Nat.eq_zero_or_pos xs.length with e|e
  ·exact absurd (List.eq_nil_of_length_eq_zero e) h2
  ·exact e
 obtain ⟨i,hi,hb⟩:∃ i:Nat,i<xs.length/\K5 .rem (.int .i64 (p:Int)) (.int .i64 (xs.length:Int))=some (.int .i64 (i:Int)) :=
  ⟨p % xs.length,Nat.mod_lt _ hlen,by simp [K5,V1,aA];exact ⟨by omega,rfl⟩⟩
 obtain ⟨s,hs,hq⟩:∃ s:Nat,s<=4/\K5 .quo (.int .i64 (p:Int)) (.int .i64 (xs.length:Int))=some (.int .i64 (s:Int)):=by
  have hd:p / xs.length<=4:=Nat.div_le_of_le_mul (by rw [Nat.mul_comm];exact hp);have e:(p:Int).tdiv xs.length=((p / xs.length:Nat):Int):=rfl;generalize p / xs.length=s at hd e;refine ⟨s,hd,?_⟩;have hne:¬ (xs.length:Int)=0:=by omega
  simp only [K5,V1,b7,if_false,if_true,aA,e,hne];have e2:IntKind.wrap .i64 (s:Int)=s:=Go.u7.wrap_small (by omega) (by omega);exact congrArg (fun z=>some (Data.int IntKind.i64 z)) e2
 repeat' (first|refine bq hb ?_|refine gx ?_|fail)
 repeat' (first|refine bq hq ?_|refine gx ?_|fail)
 refine Ex.Vp (fun st=>∃ z:Int,st=⟨[.ptr 0 0,.d (num n),.d (num 0),.d (num z),.d (num (s:Int))],[.cells [.d (y7 (fun n=>[num n]) xs),.d (num (p:Int))]]⟩) ?_ ?_
 ·have hc:IntKind.wrap .u64 (s:Int)=(s:Int):=by
   match s,hs with
   |0,_=>rfl
   |1,_=>rfl
   |2,_=>rfl
   |3,_=>rfl
   |4,_=>rfl
   |s+5,h=>omega
  have hsh:K5 .shr (.int .i64 (nth xs i)) (.int .u64 (s:Int))=some (.int .i64 ((nth xs i).fdiv (2 ^ (min s 64)))):=by simp [K5,V1,uJ];rfl
  obtain ⟨z,hz⟩:∃ z,K5 .xor (.int .i64 ((nth xs i).fdiv (2 ^ (min s 64)))) (.int .i64 (s:Int))=some (.int .i64 z):=⟨_,by simp [K5,V1,aA];rfl⟩;refine tb (C2 0 s) (fun g=> ?_) (fun g=> ?_)
  ·repeat' (first|refine ci hc ?_|refine bq hsh ?_|refine bq hz ?_|refine gx ?_|fail)
   exact ⟨_,rfl⟩
  ·refine gr ?_
   exact ⟨_,rfl⟩
 ·rintro _ ⟨z,rfl⟩
  obtain ⟨r,q,r1,r2,r3,r4,r5,r6⟩:=UU z (show 2<=n by omega) hn;refine gr ?_;refine so1 (hl:=hl) (hb:=Nat.zero_le _) (hq:=Nat.lt_succ_self 1) (h2:= ?_)
  repeat' (first|refine bq r1 ?_|refine bq r4 ?_|refine gx ?_|fail)
  refine ⟨_,_,rfl,r,p+1,rfl,r5,fun _=>r6,fun h=>by omega,by omega,?_⟩;rfl
end Go.Proofs.YtkmclibmmlgogaaGreat
namespace Go.Proofs.YtkmclibmmlgogaaGreat
open Go.u7 Go.u7.S Go.u7.Sh
attribute [local irreducible] Rx Ry Rn Ex Pf
def sI:SD:= .int .i64 (-9223372036854775808) 9223372036854775807 .no
def sS:SD:= .str 1000
def sL (n:Nat)(r:List SD):SD:= .slice none 0 n r
def QL:List SD:=[sI,sI,sI,sS,sI]
def YX:List SD:=[sS,sI,sS,sS,sL 100 [sI],sI,sI]
def YZ:List SD:=[sS,sL 100 YX,sI,sI]
def YY:List SD:=[sS,sL 100 QL]
def YS:List SD:=[sS,sI,sL 100 QL]
def rVw:List SD:=[sS,sI,sS,sS,sL 100 [sI,sI],sL 100 QL,sL 100 YY,.bool .qU,sL 100 YS]
def YW:List SD:=[sL 100 YZ,sL 100 rVw,sL 100 [sS,sS,sI],sL 100 [sS,sS,sI,sI,sI,sI],sL 100 [sS,sS,sI,sI],sL 100 [sS,sS,sI],sL 100 [sS,sS],sL 100 [sS,sL 100 [sS],sI]]
section
variable {C:Ctx} {vs:List Nat}
theorem dI {d:u7.Data}(h:sI.g C vs d):∃ n,d=num n:=by
 unfold sI at h;simp only [SD.g] at h;obtain ⟨n,rfl,_⟩:=h;exact ⟨n,rfl⟩
theorem dS {d:u7.Data}(h:sS.g C vs d):∃ s:C7,d= .str s:=by
 unfold sS at h;simp only [SD.g] at h;obtain ⟨n,rfl,_⟩:=h;exact ⟨n,rfl⟩
theorem dB {d:u7.Data}(h:(SD.bool .qU).g C vs d):∃ b,d= .bool b:=by
 simp only [SD.g] at h;obtain ⟨n,rfl,_⟩:=h;exact ⟨n,rfl⟩
theorem dL {α:Type}{enc:α->List u7.Data}{P:α->Prop}{row:List SD}(hr:∀ r,D7.g C vs row r->∃ a,r=enc a/\P a){n:Nat}{d:u7.Data}(h:(sL n row).g C vs d):∃ l:List α,d=y7 enc l/\l.length<=n/\∀ a,a ∈ l->P a:=by
 unfold sL at h;simp only [SD.g] at h;obtain ⟨rows,rfl,_,h2,_,h4⟩:=h;have key:∀ rows:List (List u7.Data),(∀ r,r ∈ rows->D7.g C vs row r)->∃ l:List α,l.length=rows.length/\rows.flatten=l.flatMap enc/\∀ a,a ∈ l->P a:=by
  intro rows
  induction rows with
  |nil=>intro _;exact ⟨[],rfl,rfl,by simp⟩
  |cons r rs ih =>
   intro h;obtain ⟨a,ha,hok⟩:=hr r (h r (by simp));obtain ⟨l,h1,h2,h3⟩:=ih (fun r hr' =>h r (by simp [hr']));refine ⟨a::l,by simp [h1],by simp [h2,ha],?_⟩;intro b hb
   rcases B8.1 hb with rfl|hb
   ·exact hok
   ·exact h3 b hb
 obtain ⟨l,h1,Qa,h3⟩:=key rows h4;exact ⟨l,by rw [y7,h1,Qa],by omega,h3⟩
theorem s1 {a:SD}{ds:List u7.Data}(h:D7.g C vs [a] ds):∃ x,ds=[x]/\a.g C vs x:=by
 simp only [D7.g] at h;obtain ⟨x,_,rfl,h1,rfl⟩:=h;exact ⟨x,rfl,h1⟩
theorem sc {a b:SD}{l:List SD}{ds:List u7.Data}(h:D7.g C vs (a::b::l) ds):∃ x xs,ds=x::xs/\a.g C vs x/\D7.g C vs (b::l) xs:=by
 rw [D7.g] at h;exact h
theorem Tu (r:List u7.Data)(h:D7.g C vs QL r):∃ a:Z2,r=a.enc/\True:=by
 obtain ⟨x0,_,rfl,h0,h⟩:=sc h;obtain ⟨x1,_,rfl,h1,h⟩:=sc h;obtain ⟨x2,_,rfl,h2,h⟩:=sc h;obtain ⟨x3,_,rfl,h3,h⟩:=sc h;obtain ⟨x4,rfl,h4⟩:=s1 h;obtain ⟨a0,rfl⟩:=dI h0;obtain ⟨a1,rfl⟩:=dI h1;obtain ⟨a2,rfl⟩:=dI h2;obtain ⟨a3,rfl⟩:=dS h3;obtain ⟨a4,rfl⟩:=dI h4;exact ⟨⟨a0,a1,a2,a3,a4⟩,rfl,trivial⟩
theorem aj8 (r:List u7.Data)(h:D7.g C vs [sI] r):∃ a:Int,r=[num a]/\True:=by
 obtain ⟨x0,rfl,h0⟩:=s1 h;obtain ⟨a0,rfl⟩:=dI h0;exact ⟨a0,rfl,trivial⟩
theorem ak3 (r:List u7.Data)(h:D7.g C vs [sS] r):∃ a:C7,r=[.str a]/\True:=by
 obtain ⟨x0,rfl,h0⟩:=s1 h;obtain ⟨a0,rfl⟩:=dS h0;exact ⟨a0,rfl,trivial⟩
theorem WZ (r:List u7.Data)(h:D7.g C vs [sI,sI] r):∃ a:Int×Int,r=[num a.1,num a.2]/\True:=by
 obtain ⟨x0,_,rfl,h0,h⟩:=sc h;obtain ⟨x1,rfl,h1⟩:=s1 h;obtain ⟨a0,rfl⟩:=dI h0;obtain ⟨a1,rfl⟩:=dI h1;exact ⟨(a0,a1),rfl,trivial⟩
theorem aj6 (r:List u7.Data)(h:D7.g C vs YX r):∃ a:W6,r=a.enc/\a.A7.length<=100:=by
 obtain ⟨x0,_,rfl,h0,h⟩:=sc h;obtain ⟨x1,_,rfl,h1,h⟩:=sc h;obtain ⟨x2,_,rfl,h2,h⟩:=sc h;obtain ⟨x3,_,rfl,h3,h⟩:=sc h;obtain ⟨x4,_,rfl,h4,h⟩:=sc h;obtain ⟨x5,_,rfl,h5,h⟩:=sc h;obtain ⟨x6,rfl,h6⟩:=s1 h;obtain ⟨a0,rfl⟩:=dS h0;obtain ⟨a1,rfl⟩:=dI h1;obtain ⟨a2,rfl⟩:=dS h2;obtain ⟨a3,rfl⟩:=dS h3;obtain ⟨a4,rfl,k4,_⟩:=dL aj8 h4;obtain ⟨a5,rfl⟩:=dI h5;obtain ⟨a6,rfl⟩:=dI h6;exact ⟨⟨a0,a1,a2,a3,a4,a5,a6⟩,rfl,k4⟩
theorem ak4 (r:List u7.Data)(h:D7.g C vs YZ r):∃ a:er,r=a.enc/\a.m8.length<=100/\∀ x,x ∈ a.m8->x.A7.length<=100:=by
 obtain ⟨x0,_,rfl,h0,h⟩:=sc h;obtain ⟨x1,_,rfl,h1,h⟩:=sc h;obtain ⟨x2,_,rfl,h2,h⟩:=sc h;obtain ⟨x3,rfl,h3⟩:=s1 h;obtain ⟨a0,rfl⟩:=dS h0;obtain ⟨a1,rfl,k1,k2⟩:=dL aj6 h1;obtain ⟨a2,rfl⟩:=dI h2;obtain ⟨a3,rfl⟩:=dI h3;exact ⟨⟨a0,a1,a2,a3⟩,rfl,k1,k2⟩
theorem aj9 (r:List u7.Data)(h:D7.g C vs YY r):∃ a:FK,r=a.enc/\a.expr.length<=100:=by
 obtain ⟨x0,_,rfl,h0,h⟩:=sc h;obtain ⟨x1,rfl,h1⟩:=s1 h;obtain ⟨a0,rfl⟩:=dS h0;obtain ⟨a1,rfl,k1,_⟩:=dL Tu h1;exact ⟨⟨a0,a1⟩,rfl,k1⟩
theorem aj2 (r:List u7.Data)(h:D7.g C vs YS r):∃ a:yA,r=a.enc/\a.expr.length<=100:=by
 obtain ⟨x0,_,rfl,h0,h⟩:=sc h;obtain ⟨x1,_,rfl,h1,h⟩:=sc h;obtain ⟨x2,rfl,h2⟩:=s1 h;obtain ⟨a0,rfl⟩:=dS h0;obtain ⟨a1,rfl⟩:=dI h1;obtain ⟨a2,rfl,k1,_⟩:=dL Tu h2;exact ⟨⟨a0,a1,a2⟩,rfl,k1⟩
structure ab8 (v:Vw):Prop where
 on:v.on.length<=100
 wh:v.wh.length<=100
 items:v.items.length<=100
 yX:∀ x,x ∈ v.items->x.expr.length<=100
 B3:v.B3.length<=100
 Kf:∀ x,x ∈ v.B3->x.expr.length<=100
theorem dVw (r:List u7.Data)(h:D7.g C vs rVw r):∃ a:Vw,r=a.enc/\ab8 a:=by
 obtain ⟨x0,_,rfl,h0,h⟩:=sc h;obtain ⟨x1,_,rfl,h1,h⟩:=sc h;obtain ⟨x2,_,rfl,h2,h⟩:=sc h;obtain ⟨x3,_,rfl,h3,h⟩:=sc h;obtain ⟨x4,_,rfl,h4,h⟩:=sc h;obtain ⟨x5,_,rfl,h5,h⟩:=sc h;obtain ⟨x6,_,rfl,h6,h⟩:=sc h;obtain ⟨x7,_,rfl,h7,h⟩:=sc h;obtain ⟨x8,rfl,h8⟩:=s1 h;obtain ⟨a0,rfl⟩:=dS h0;obtain ⟨a1,rfl⟩:=dI h1;obtain ⟨a2,rfl⟩:=dS h2;obtain ⟨a3,rfl⟩:=dS h3;obtain ⟨a4,rfl,k4,_⟩:=dL WZ h4;obtain ⟨a5,rfl,k5,_⟩:=dL Tu h5;obtain ⟨a6,rfl,k6,j6⟩:=dL aj9 h6;obtain ⟨a7,rfl⟩:=dB h7;obtain ⟨a8,rfl,k8,j8⟩:=dL aj2 h8;exact ⟨⟨a0,a1,a2,a3,a4,a5,a6,a7,a8⟩,rfl,k4,k5,k6,j6,k8,j8⟩
theorem aj7 (r:List u7.Data)(h:D7.g C vs [sS,sS,sI] r):∃ a:gD,r=a.enc/\True:=by
 obtain ⟨x0,_,rfl,h0,h⟩:=sc h;obtain ⟨x1,_,rfl,h1,h⟩:=sc h;obtain ⟨x2,rfl,h2⟩:=s1 h;obtain ⟨a0,rfl⟩:=dS h0;obtain ⟨a1,rfl⟩:=dS h1;obtain ⟨a2,rfl⟩:=dI h2;exact ⟨⟨a0,a1,a2⟩,rfl,trivial⟩
theorem ak1 (r:List u7.Data)(h:D7.g C vs [sS,sS,sI,sI,sI,sI] r):∃ a:gv,r=a.enc/\True:=by
 obtain ⟨x0,_,rfl,h0,h⟩:=sc h;obtain ⟨x1,_,rfl,h1,h⟩:=sc h;obtain ⟨x2,_,rfl,h2,h⟩:=sc h;obtain ⟨x3,_,rfl,h3,h⟩:=sc h;obtain ⟨x4,_,rfl,h4,h⟩:=sc h;obtain ⟨x5,rfl,h5⟩:=s1 h;obtain ⟨a0,rfl⟩:=dS h0;obtain ⟨a1,rfl⟩:=dS h1;obtain ⟨a2,rfl⟩:=dI h2;obtain ⟨a3,rfl⟩:=dI h3;obtain ⟨a4,rfl⟩:=dI h4;obtain ⟨a5,rfl⟩:=dI h5;exact ⟨⟨a0,a1,a2,a3,a4,a5⟩,rfl,trivial⟩
theorem aj5 (r:List u7.Data)(h:D7.g C vs [sS,sS,sI,sI] r):∃ a:jy,r=a.enc/\True:=by
 obtain ⟨x0,_,rfl,h0,h⟩:=sc h;obtain ⟨x1,_,rfl,h1,h⟩:=sc h;obtain ⟨x2,_,rfl,h2,h⟩:=sc h;obtain ⟨x3,rfl,h3⟩:=s1 h;obtain ⟨a0,rfl⟩:=dS h0;obtain ⟨a1,rfl⟩:=dS h1;obtain ⟨a2,rfl⟩:=dI h2;obtain ⟨a3,rfl⟩:=dI h3;exact ⟨⟨a0,a1,a2,a3⟩,rfl,trivial⟩
theorem ak0 (r:List u7.Data)(h:D7.g C vs [sS,sS,sI] r):∃ a:iO,r=a.enc/\True:=by
 obtain ⟨x0,_,rfl,h0,h⟩:=sc h;obtain ⟨x1,_,rfl,h1,h⟩:=sc h;obtain ⟨x2,rfl,h2⟩:=s1 h;obtain ⟨a0,rfl⟩:=dS h0;obtain ⟨a1,rfl⟩:=dS h1;obtain ⟨a2,rfl⟩:=dI h2;exact ⟨⟨a0,a1,a2⟩,rfl,trivial⟩
theorem ak2 (r:List u7.Data)(h:D7.g C vs [sS,sS] r):∃ a:kI,r=a.enc/\True:=by
 obtain ⟨x0,_,rfl,h0,h⟩:=sc h;obtain ⟨x1,rfl,h1⟩:=s1 h;obtain ⟨a0,rfl⟩:=dS h0;obtain ⟨a1,rfl⟩:=dS h1;exact ⟨⟨a0,a1⟩,rfl,trivial⟩
theorem aj3 (r:List u7.Data)(h:D7.g C vs [sS,sL 100 [sS],sI] r):∃ a:kH,r=a.enc/\a.tables.length<=100:=by
 obtain ⟨x0,_,rfl,h0,h⟩:=sc h;obtain ⟨x1,_,rfl,h1,h⟩:=sc h;obtain ⟨x2,rfl,h2⟩:=s1 h;obtain ⟨a0,rfl⟩:=dS h0;obtain ⟨a1,rfl,k1,_⟩:=dL ak3 h1;obtain ⟨a2,rfl⟩:=dI h2;exact ⟨⟨a0,a1,a2⟩,rfl,k1⟩
theorem aj4 (r:List u7.Data)(h:D7.g C vs YW r):∃ c:m9,r=c.enc/\E8 c:=by
 obtain ⟨x0,_,rfl,h0,h⟩:=sc h;obtain ⟨x1,_,rfl,h1,h⟩:=sc h;obtain ⟨x2,_,rfl,h2,h⟩:=sc h;obtain ⟨x3,_,rfl,h3,h⟩:=sc h;obtain ⟨x4,_,rfl,h4,h⟩:=sc h;obtain ⟨x5,_,rfl,h5,h⟩:=sc h;obtain ⟨x6,_,rfl,h6,h⟩:=sc h;obtain ⟨x7,rfl,h7⟩:=s1 h;obtain ⟨a0,rfl,k0,j0⟩:=dL ak4 h0;obtain ⟨a1,rfl,k1,j1⟩:=dL dVw h1;obtain ⟨a2,rfl,k2,_⟩:=dL aj7 h2;obtain ⟨a3,rfl,k3,_⟩:=dL ak1 h3;obtain ⟨a4,rfl,k4,_⟩:=dL aj5 h4;obtain ⟨a5,rfl,k5,_⟩:=dL ak0 h5;obtain ⟨a6,rfl,k6,_⟩:=dL ak2 h6;obtain ⟨a7,rfl,k7,j7⟩:=dL aj3 h7;refine ⟨⟨a0,a1,a2,a3,a4,a5,a6,a7⟩,rfl,⟨⟨by simp;omega,by simp;omega,by simp;omega,by simp;omega,by simp;omega,by simp;omega,by simp;omega,by simp;omega⟩,?_,?_⟩,?_,?_,?_,?_,?_,?_,?_⟩
 ·intro k hk;have:=j0 _ (S1 hk);simp only at this ⊢;omega
 ·intro k i hk hi;have:=(j0 _ (S1 hk)).2 _ (S1 hi);simp only at this ⊢;omega
 ·intro k hk;have:=(j1 _ (S1 hk)).items;simp only at this ⊢;omega
 ·intro k hk;have:=(j1 _ (S1 hk)).B3;simp only at this ⊢;omega
 ·intro k hk;have:=(j1 _ (S1 hk)).on;simp only at this ⊢;omega
 ·intro k hk;have:=(j1 _ (S1 hk)).wh;simp only at this ⊢;omega
 ·intro k i hk hi;have:=(j1 _ (S1 hk)).yX _ (S1 hi);simp only at this ⊢;omega
 ·intro k i hk hi;have:=(j1 _ (S1 hk)).Kf _ (S1 hi);simp only at this ⊢;omega
 ·intro k hk;have:=j7 _ (S1 hk);simp only at this ⊢;omega
end
def dn (xs:List Int)(g:m9):Ctx where
 Φ k d:=match k with
  |0=>∃ s:C7,d= .str s/\s ∈ m9.sn g
  |1=>∃ i:Nat,d=num i/\i<m9.ns g
  |2=>d=ints xs
  |_=>False
 Θ k cs:=match k with
  |0=>∃ c:m9,cs=c.enc.map .d/\M7 c=true/\E8 c
  |1=>cs=g.enc.map .d
  |_=>False
 Ψ k o:=match k with
  |0=>∃ p,p<=4 * xs.length/\o=tp xs p
  |_=>False
 M3 k o h:=by
  match k,h with
  |0,h=>obtain ⟨p,_,rfl⟩:=h;rfl
def uv:Sh.Sem:=fun B f args H l=>match args,H with
 |[.ptr 0 0,.d x],[.pr 0]=>if y4 f 23&&l.may 0 then match x.int? B with
   |some (.i64,lo,hi,r)=>if decide (1<=lo)&&decide (hi<=1000000) then some [(.d (.int .i64 0 (hi - 1) (match r with| .eq i=> .lt i|_=> .no)),[.pr 0])] else none
   |_=>none
  else none
 |_,_=>none
theorem wD (xs:List Int)(hx:xs.length<=35184372088832)(g:m9):fe (dn xs g) A uv:=by
 intro B f args H l outs h vs hB az Hc ha hH;unfold uv at h;split at h
 ·rename_i x
  split at h
  ·rename_i hc
   simp only [b5] at hc;have hf:=b8 hc.1;subst hf;split at h
   ·rename_i lo hi r hi?
    split at h
    ·rename_i hb
     simp only [b5,decide_eq_true_eq] at hb;cases h;simp only [r9.g] at ha;obtain ⟨a0,_,rfl,h0,a1,_,rfl,h1,rfl⟩:=ha;simp only [E7.g] at hH;obtain ⟨o,_,rfl,⟨p,hp,rfl⟩,rfl⟩:=hH;have h0:=aX h0;subst h0;obtain ⟨d,rfl,h2⟩:=Z4 h1;obtain ⟨n,rfl,h3,h4,h5⟩:=SD.iw hB hi? h2;obtain ⟨v,H1,⟨r',q,rfl,r1,r2,r3,hq,rfl⟩,hm⟩:=Yk xs p n l hx hp (by omega) hc.2;refine ⟨_,_,⟨_,p8.2 rfl,bf ?_,?_⟩,hm⟩
     ·have hr:r' <n:=by
       by_cases h2:2<=n
       ·exact r2 h2
       ·have:=r3 (by omega);omega
      simp only [SD.g];refine ⟨r',rfl,r1,by omega,?_⟩;split
      ·rename_i i
       obtain ⟨m,m1,m2⟩:=h5;exact ⟨m,m1,r1,by omega⟩
      ·trivial
     ·simp only [E7.g]
      exact ⟨_,_,rfl,⟨q,hq,rfl⟩,rfl⟩
    ·cases h
   ·cases h
  ·cases h
 ·cases h
def Mt:FI:=fun ops dr c s=>match ops,dr,c with
 |[⟨.load (some 8) (.slot t),none,none,_⟩,⟨.call f [.loc 0],none,none,_⟩],false,.loc 1=>if y4 f 36 then match s.T[t]? with
   |some (.ptr id 0)=>match s.H[id]? with
    |some (.cells p l)=>if r9.le (fun _ _=>false) s.B (l.map SV.F2) (YW.map .d) then some ([{ s with H:=s.H.set id (.cells (some 0) l) }],[s]) else none
    |_=>none
   |_=>none
  else none
 |_,_,_=>none
theorem PR {C:Ctx}{vs:List Nat}:∀ {l:List SD} {cs:List b6},r9.g C vs (l.map .d) cs->∃ ds,cs=ds.map .d/\D7.g C vs l ds
 |[],_,h=>by simp only [List.map_nil,r9.g] at h;subst h;exact ⟨[],rfl,by simp [D7.g]⟩
 |x::l,_,h=>by
  simp only [G7,r9.g] at h;obtain ⟨a,az,rfl,h1,h2⟩:=h;obtain ⟨d,rfl,h3⟩:=Z4 h1;obtain ⟨ds,rfl,h4⟩:=PR h2;exact ⟨d::ds,rfl,by simp only [D7.g];exact ⟨_,_,rfl,h3,h4⟩⟩
theorem vu (xs:List Int)(g:m9)(l:F9)(b:Nat):Ax (dn xs g) A l b Mt:=by
 intro ops dr c s p q h vs T H hs;unfold Mt at h;split at h
 ·rename_i t u f u'
  split at h
  ·rename_i hf
   have hf:=b8 hf;subst hf;split at h
   ·rename_i id e
    split at h
    ·rename_i p' l' e2
     split at h
     ·rename_i hle
      cases h;obtain ⟨hT,hH,hB⟩:=hs;obtain ⟨a,h1,h2⟩:=r9.get hT e;have h2:=aX h2;subst h2;obtain ⟨o,h3,h4⟩:=E7.get hH e2;obtain ⟨cs,rfl,h5,h6⟩:=h4;have h7:=r9.map (C:=dn xs g) (vs:=vs) (fun _ _=>SV.ny) h5;obtain ⟨ds,e3,h8⟩:=PR (r9.aW hB (C:=dn xs g) (fact:=fun _ _=>false) (fun k ds h=>by cases h) _ hle h7);obtain ⟨c,rfl,hc⟩:=aj4 ds h8;have hlen:cs.length=8:=by
       have:=congrArg List.length e3;simpa [m9.enc] using this
      have hR:Rn A l b [⟨.load (some 8) (.slot t),none,none,u⟩,⟨.call 36 [.loc 0],none,none,u'⟩] false T H fun T' H' L=>T' =T/\H' =H/\F0 T' L (.loc 1)= .d (.bool (M7 c)):=by
       refine Rn.text ?_;refine Ry.pure (v:=cat c) (rs:=[id]) rfl ?_ ?_
       ·have vB:rq T 0 [] (.slot t)= .ptr id 0:=by simp [rq,Sj,h1,b6.F2]
        simp only [k9,vB,rd,h3];rw [if_pos (by omega),List.drop_zero,s6 (by omega)];show some (b6.agg (cs.map b6.F2),[id])=_
        rw [e3];rfl
       ·exact cl (Ur c hc) (nl ⟨rfl,rfl,rfl⟩)
      unfold Rn at hR ⊢;obtain ⟨r,N,⟨r1,r2,r3⟩,hr⟩:=hR;refine ⟨r,N,⟨M7 c,r3,?_⟩,hr⟩;rw [r1,r2];cases hv:M7 c with
      |false=>exact ⟨s,by simp,vs,Le.refl _,hT,hH,hB⟩
      |true =>
       refine ⟨{ s with H:=s.H.set id (.cells (some 0) l') },by simp,vs,Le.refl _,hT,?_,hB⟩;have:=E7.set hH id (a:= .cells (some 0) l') (b:= .cells cs) ⟨cs,rfl,h5,fun k hk=>by
        cases hk;exact ⟨c,e3,hv,hc⟩⟩
       have e4:H.set id (.cells cs)=H:=W2 h3
       rwa [e4] at this
     ·cases h
    ·cases h
   ·cases h
  ·cases h
 ·cases h
def Sc:FI:=fun _ _ _ _=>none
theorem CZ {C:Ctx}{A:u7.Prog}{l:F9}{b:Nat}:Ax C A l b Sc:=fun _ _ _ _ _ _ h=>by cases h
def nE:Fact:=fun _ _=>false
theorem cL {C:Ctx}:uE C nE:=fun _ _ h=>by cases h
end Go.Proofs.YtkmclibmmlgogaaGreat


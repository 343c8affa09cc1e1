/- Texts T1 T2 T3 (made short by a program) -/
import Derived.Test.YtkmclibmmlgogaaGreatS2
import Derived.Test.YtkmclibmmlgogaaGreatX1
set_option linter.unusedVariables false
set_option linter.unusedSimpArgs false
open Bool renaming and_eq_true → b5, false_eq_true → b7
open List renaming mem_cons → C6, mem_singleton → B0, take_of_length_le → q5
open Nat renaming beq → r9, eq_of_beq_eq_true → b9
namespace Go.y3.S
section
variable {A:Prog} {l:G9} {b:Nat}
variable {dr:Bool} {j4 ops:List n8} {T:List b6} {H:o6} {n:Nat} {rl:List b6} {n6:List Touch} {Q:List b6->o6->List b6->Prop}
theorem bq {op:BinOp}{a c r:Data}(h:M5 op a c=some r){x y:q7}{u:List Nat}(h2:Ry A l b dr j4 ops T H (n+1) (.d r::rl) n6 Q)(hx:rq T n rl x= .d a:=by rfl)(hy:rq T n rl y= .d c:=by rfl) :
  Ry A l b dr j4 (⟨.bin op x y,none,none,u⟩::ops) T H n rl n6 Q:=Ry.pure (rs:=[]) rfl (by simp only [m6,hx,hy,h]) h2
theorem ci {k k' :IntKind}{c d:Int}(h:k.wrap c=d){x:q7}{u:List Nat}(h2:Ry A l b dr j4 ops T H (n+1) (.d (.int k d)::rl) n6 Q)(hx:rq T n rl x= .d (.int k' c):=by rfl) :
  Ry A l b dr j4 (⟨.kY k x,none,none,u⟩::ops) T H n rl n6 Q:=Ry.pure (rs:=[]) rfl (by simp only [m6,hx,h]) h2
end
end Go.y3.S
namespace Go.Proofs.YtkmclibmmlgogaaGreat
open Go.y3 Go.y3.S
attribute [local irreducible] Rx Ry Rn Ex Pf
def tp (xs:List Int)(p:Nat):y7:= .cells [.d (z6 (fun n=>[num n]) xs),.d (num (p:Int))]
theorem YC (z:Int){n:Int}(h2:2<=n)(h3:n<=1000000):∃ r q:Int,M5 .rem (.int .i64 z) (.int .i64 n)=some (.int .i64 q)/\ -n<q/\q<n/\M5 .rem (.int .i64 (q+n)) (.int .i64 n)=some (.int .i64 r)/\0<=r/\r<n:=by
 have h1:=Int.tmod_lt_of_pos z (show 0<n by omega);have h4: -n<z.tmod n:=by
  by_cases hz:z<0
  ·have e:z.tmod n= -((-z).tmod n):=by rw [<- Int.neg_tmod,Int.neg_neg]
   have:=Int.tmod_lt_of_pos (-z) (show 0<n by omega);omega
  ·have:=Int.tmod_nonneg (a:=z) n (by omega)
   omega
 have h5:=Int.tmod_lt_of_pos (z.tmod n+n) (show 0<n by omega);have h6:=Int.tmod_nonneg (a:=z.tmod n+n) n (by omega);refine ⟨(z.tmod n+n).tmod n,z.tmod n,?_,h4,h1,?_,h6,h5⟩
 ·simp [M5,X4,aS];omega
 ·simp [M5,X4,aS];omega
theorem aj4 (xs:List Int)(p:Nat)(n:Int)(l:G9)(hx:xs.length<=35184372088832)(hp:p<=4 * xs.length)(hn:n<=1000000)(hl:l.may 0=true) :
  Pq A 23 [.ptr 0 0,.d (num n)] [tp xs p] l fun v H1=>∃ (r:Int) (q:Nat),v= .d (num r)/\0<=r/\(2<=n->r<n)/\(n<2->r=0)/\q<=4 * xs.length/\H1=[tp xs q]:=by
 unfold tp;have h0: -9223372036854775808<=(4:Int) * xs.length/\(4:Int) * xs.length<9223372036854775808:=by omega
 refine Pq.run (b:=1) [.ptr 0 0,.d (num n),.any,.any,.any] rfl rfl rfl rfl rfl ?_;refine gr ?_;refine tB (C9 n 2||(o9 xs.length 0||W8 (4 * xs.length) p)) ?_ (fun h=> ?_) (fun h=> ?_)
 ·repeat' (first|refine mu ?_ h0|refine gx ?_|refine fk (h1:=fun hw=> ?_) (h2:=fun hw=> ?_)|refine L7 (h1:=fun hw=> ?_) (h2:=fun hw=> ?_)|refine ⟨rfl,rfl,_,rfl,?_⟩|refine ⟨rfl,rfl⟩|fail)
  all_goals exact cc
 ·refine gr ?_
  refine ⟨_,_,rfl,0,p,rfl,Int.le_refl _,fun h=>by omega,fun _=>rfl,hp,rfl⟩
 have h' :=h;simp [p5,p4,j9] at h';obtain ⟨h1,h2,h3⟩:=h';have hlen:0<xs.length:=by
  rcases Nat.eq_zero_or_pos xs.length with e|e
  ·exact absurd (List.eq_nil_of_length_eq_zero e) h2
  ·exact e
 obtain ⟨i,hi,hb⟩:∃ i:Nat,i<xs.length/\M5 .rem (.int .i64 (p:Int)) (.int .i64 (xs.length:Int))=some (.int .i64 (i:Int)) :=
  ⟨p % xs.length,Nat.mod_lt _ hlen,by simp [M5,X4,aS];exact ⟨by omega,rfl⟩⟩
 obtain ⟨s,hs,hq⟩:∃ s:Nat,s<=4/\M5 .quo (.int .i64 (p:Int)) (.int .i64 (xs.length:Int))=some (.int .i64 (s:Int)):=by
  have hd:p / xs.length<=4:=Nat.div_le_of_le_mul (by rw [Nat.mul_comm];exact hp);have e:(p:Int).tdiv xs.length=((p / xs.length:Nat):Int):=rfl;generalize p / xs.length=s at hd e;refine ⟨s,hd,?_⟩;have hne:¬ (xs.length:Int)=0:=by omega
  simp only [M5,X4,b7,if_false,if_true,aS,e,hne];have e2:IntKind.wrap .i64 (s:Int)=s:=Go.y3.wrap_small (by omega) (by omega);exact congrArg (fun z=>some (Data.int IntKind.i64 z)) e2
 repeat' (first|refine bq hb ?_|refine gx ?_|fail)
 repeat' (first|refine bq hq ?_|refine gx ?_|fail)
 refine Ex.YX (fun st=>∃ z:Int,st=⟨[.ptr 0 0,.d (num n),.d (num 0),.d (num z),.d (num (s:Int))],[.cells [.d (z6 (fun n=>[num n]) xs),.d (num (p:Int))]]⟩) ?_ ?_
 ·have hc:IntKind.wrap .u64 (s:Int)=(s:Int):=by
   match s,hs with
   |0,_=>rfl
   |1,_=>rfl
   |2,_=>rfl
   |3,_=>rfl
   |4,_=>rfl
   |s+5,h=>omega
  have hsh:M5 .shr (.int .i64 (nth xs i)) (.int .u64 (s:Int))=some (.int .i64 ((nth xs i).fdiv (2 ^ (min s 64)))):=by simp [M5,X4,wG];rfl
  obtain ⟨z,hz⟩:∃ z,M5 .xor (.int .i64 ((nth xs i).fdiv (2 ^ (min s 64)))) (.int .i64 (s:Int))=some (.int .i64 z):=⟨_,by simp [M5,X4,aS];rfl⟩;refine tb (C9 0 s) (fun g=> ?_) (fun g=> ?_)
  ·repeat' (first|refine ci hc ?_|refine bq hsh ?_|refine bq hz ?_|refine gx ?_|fail)
   exact ⟨_,rfl⟩
  ·refine gr ?_
   exact ⟨_,rfl⟩
 ·rintro _ ⟨z,rfl⟩
  obtain ⟨r,q,r1,r2,r3,r4,r5,r6⟩:=YC z (show 2<=n by omega) hn;refine gr ?_;refine so1 (hl:=hl) (hb:=Nat.zero_le _) (hq:=Nat.lt_succ_self 1) (h2:= ?_)
  repeat' (first|refine bq r1 ?_|refine bq r4 ?_|refine gx ?_|fail)
  refine ⟨_,_,rfl,r,p+1,rfl,r5,fun _=>r6,fun h=>by omega,by omega,?_⟩;rfl
end Go.Proofs.YtkmclibmmlgogaaGreat
namespace Go.Proofs.YtkmclibmmlgogaaGreat
open Go.y3 Go.y3.S Go.y3.Sh
attribute [local irreducible] Rx Ry Rn Ex Pf
def sI:SD:= .int .i64 (-9223372036854775808) 9223372036854775807 .no
def sS:SD:= .str 1000
def sL (n:Nat)(r:List SD):SD:= .slice none 0 n r
def Ft:List SD:=[sI,sI,sI,sS,sI]
def ao2:List SD:=[sS,sI,sS,sS,sL 100 [sI],sI,sI]
def ao4:List SD:=[sS,sL 100 ao2,sI,sI]
def ao3:List SD:=[sS,sL 100 Ft]
def an8:List SD:=[sS,sI,sL 100 Ft]
def rVw:List SD:=[sS,sI,sS,sS,sL 100 [sI,sI],sL 100 Ft,sL 100 ao3,.bool .qo,sL 100 an8]
def YB:List SD:=[sL 100 ao4,sL 100 rVw,sL 100 [sS,sS,sI],sL 100 [sS,sS,sI,sI,sI,sI],sL 100 [sS,sS,sI,sI],sL 100 [sS,sS,sI],sL 100 [sS,sS],sL 100 [sS,sL 100 [sS],sI]]
section
variable {C:Ctx} {vs:List Nat}
theorem dI {d:y3.Data}(h:sI.g C vs d):∃ n,d=num n:=by
 unfold sI at h;simp only [SD.g] at h;obtain ⟨n,rfl,_⟩:=h;exact ⟨n,rfl⟩
theorem dS {d:y3.Data}(h:sS.g C vs d):∃ s:D8,d= .str s:=by
 unfold sS at h;simp only [SD.g] at h;obtain ⟨n,rfl,_⟩:=h;exact ⟨n,rfl⟩
theorem dB {d:y3.Data}(h:(SD.bool .qo).g C vs d):∃ b,d= .bool b:=by
 simp only [SD.g] at h;obtain ⟨n,rfl,_⟩:=h;exact ⟨n,rfl⟩
theorem dL {α:Type}{enc:α->List y3.Data}{P:α->Prop}{row:List SD}(hr:∀ r,F2.g C vs row r->∃ a,r=enc a/\P a){n:Nat}{d:y3.Data}(h:(sL n row).g C vs d):∃ l:List α,d=z6 enc l/\l.length<=n/\∀ a,a ∈ l->P a:=by
 unfold sL at h;simp only [SD.g] at h;obtain ⟨rows,rfl,_,h2,_,h4⟩:=h;have key:∀ rows:List (List y3.Data),(∀ r,r ∈ rows->F2.g C vs row r)->∃ l:List α,l.length=rows.length/\rows.flatten=l.flatMap enc/\∀ a,a ∈ l->P a:=by
  intro rows
  induction rows with
  |nil=>intro _;exact ⟨[],rfl,rfl,by simp⟩
  |cons r rs ih =>
   intro h;obtain ⟨a,ha,hok⟩:=hr r (h r (by simp));obtain ⟨l,h1,h2,h3⟩:=ih (fun r hr' =>h r (by simp [hr']));refine ⟨a::l,by simp [h1],by simp [h2,ha],?_⟩;intro b hb
   rcases C6.1 hb with rfl|hb
   ·exact hok
   ·exact h3 b hb
 obtain ⟨l,h1,Tc,h3⟩:=key rows h4;exact ⟨l,by rw [z6,h1,Tc],by omega,h3⟩
theorem s1 {a:SD}{ds:List y3.Data}(h:F2.g C vs [a] ds):∃ x,ds=[x]/\a.g C vs x:=by
 simp only [F2.g] at h;obtain ⟨x,_,rfl,h1,rfl⟩:=h;exact ⟨x,rfl,h1⟩
theorem sc {a b:SD}{l:List SD}{ds:List y3.Data}(h:F2.g C vs (a::b::l) ds):∃ x xs,ds=x::xs/\a.g C vs x/\F2.g C vs (b::l) xs:=by
 rw [F2.g] at h;exact h
theorem WB (r:List y3.Data)(h:F2.g C vs Ft r):∃ a:aE,r=a.enc/\True:=by
 obtain ⟨x0,_,rfl,h0,h⟩:=sc h;obtain ⟨x1,_,rfl,h1,h⟩:=sc h;obtain ⟨x2,_,rfl,h2,h⟩:=sc h;obtain ⟨x3,_,rfl,h3,h⟩:=sc h;obtain ⟨x4,rfl,h4⟩:=s1 h;obtain ⟨a0,rfl⟩:=dI h0;obtain ⟨a1,rfl⟩:=dI h1;obtain ⟨a2,rfl⟩:=dI h2;obtain ⟨a3,rfl⟩:=dS h3;obtain ⟨a4,rfl⟩:=dI h4;exact ⟨⟨a0,a1,a2,a3,a4⟩,rfl,trivial⟩
theorem aE9 (r:List y3.Data)(h:F2.g C vs [sI] r):∃ a:Int,r=[num a]/\True:=by
 obtain ⟨x0,rfl,h0⟩:=s1 h;obtain ⟨a0,rfl⟩:=dI h0;exact ⟨a0,rfl,trivial⟩
theorem aF4 (r:List y3.Data)(h:F2.g C vs [sS] r):∃ a:D8,r=[.str a]/\True:=by
 obtain ⟨x0,rfl,h0⟩:=s1 h;obtain ⟨a0,rfl⟩:=dS h0;exact ⟨a0,rfl,trivial⟩
theorem ad8 (r:List y3.Data)(h:F2.g C vs [sI,sI] r):∃ a:Int×Int,r=[num a.1,num a.2]/\True:=by
 obtain ⟨x0,_,rfl,h0,h⟩:=sc h;obtain ⟨x1,rfl,h1⟩:=s1 h;obtain ⟨a0,rfl⟩:=dI h0;obtain ⟨a1,rfl⟩:=dI h1;exact ⟨(a0,a1),rfl,trivial⟩
theorem aE7 (r:List y3.Data)(h:F2.g C vs ao2 r):∃ a:Y5,r=a.enc/\a.C5.length<=100:=by
 obtain ⟨x0,_,rfl,h0,h⟩:=sc h;obtain ⟨x1,_,rfl,h1,h⟩:=sc h;obtain ⟨x2,_,rfl,h2,h⟩:=sc h;obtain ⟨x3,_,rfl,h3,h⟩:=sc h;obtain ⟨x4,_,rfl,h4,h⟩:=sc h;obtain ⟨x5,_,rfl,h5,h⟩:=sc h;obtain ⟨x6,rfl,h6⟩:=s1 h;obtain ⟨a0,rfl⟩:=dS h0;obtain ⟨a1,rfl⟩:=dI h1;obtain ⟨a2,rfl⟩:=dS h2;obtain ⟨a3,rfl⟩:=dS h3;obtain ⟨a4,rfl,k4,_⟩:=dL aE9 h4;obtain ⟨a5,rfl⟩:=dI h5;obtain ⟨a6,rfl⟩:=dI h6;exact ⟨⟨a0,a1,a2,a3,a4,a5,a6⟩,rfl,k4⟩
theorem aF5 (r:List y3.Data)(h:F2.g C vs ao4 r):∃ a:eZ,r=a.enc/\a.m7.length<=100/\∀ x,x ∈ a.m7->x.C5.length<=100:=by
 obtain ⟨x0,_,rfl,h0,h⟩:=sc h;obtain ⟨x1,_,rfl,h1,h⟩:=sc h;obtain ⟨x2,_,rfl,h2,h⟩:=sc h;obtain ⟨x3,rfl,h3⟩:=s1 h;obtain ⟨a0,rfl⟩:=dS h0;obtain ⟨a1,rfl,k1,k2⟩:=dL aE7 h1;obtain ⟨a2,rfl⟩:=dI h2;obtain ⟨a3,rfl⟩:=dI h3;exact ⟨⟨a0,a1,a2,a3⟩,rfl,k1,k2⟩
theorem aF0 (r:List y3.Data)(h:F2.g C vs ao3 r):∃ a:HC,r=a.enc/\a.expr.length<=100:=by
 obtain ⟨x0,_,rfl,h0,h⟩:=sc h;obtain ⟨x1,rfl,h1⟩:=s1 h;obtain ⟨a0,rfl⟩:=dS h0;obtain ⟨a1,rfl,k1,_⟩:=dL WB h1;exact ⟨⟨a0,a1⟩,rfl,k1⟩
theorem aE4 (r:List y3.Data)(h:F2.g C vs an8 r):∃ a:Ao,r=a.enc/\a.expr.length<=100:=by
 obtain ⟨x0,_,rfl,h0,h⟩:=sc h;obtain ⟨x1,_,rfl,h1,h⟩:=sc h;obtain ⟨x2,rfl,h2⟩:=s1 h;obtain ⟨a0,rfl⟩:=dS h0;obtain ⟨a1,rfl⟩:=dI h1;obtain ⟨a2,rfl,k1,_⟩:=dL WB h2;exact ⟨⟨a0,a1,a2⟩,rfl,k1⟩
structure aw9 (v:Vw):Prop where
 on:v.on.length<=100
 wh:v.wh.length<=100
 items:v.items.length<=100
 AN:∀ x,x ∈ v.items->x.expr.length<=100
 C1:v.C1.length<=100
 Mu:∀ x,x ∈ v.C1->x.expr.length<=100
theorem dVw (r:List y3.Data)(h:F2.g C vs rVw r):∃ a:Vw,r=a.enc/\aw9 a:=by
 obtain ⟨x0,_,rfl,h0,h⟩:=sc h;obtain ⟨x1,_,rfl,h1,h⟩:=sc h;obtain ⟨x2,_,rfl,h2,h⟩:=sc h;obtain ⟨x3,_,rfl,h3,h⟩:=sc h;obtain ⟨x4,_,rfl,h4,h⟩:=sc h;obtain ⟨x5,_,rfl,h5,h⟩:=sc h;obtain ⟨x6,_,rfl,h6,h⟩:=sc h;obtain ⟨x7,_,rfl,h7,h⟩:=sc h;obtain ⟨x8,rfl,h8⟩:=s1 h;obtain ⟨a0,rfl⟩:=dS h0;obtain ⟨a1,rfl⟩:=dI h1;obtain ⟨a2,rfl⟩:=dS h2;obtain ⟨a3,rfl⟩:=dS h3;obtain ⟨a4,rfl,k4,_⟩:=dL ad8 h4;obtain ⟨a5,rfl,k5,_⟩:=dL WB h5;obtain ⟨a6,rfl,k6,j6⟩:=dL aF0 h6;obtain ⟨a7,rfl⟩:=dB h7;obtain ⟨a8,rfl,k8,j8⟩:=dL aE4 h8;exact ⟨⟨a0,a1,a2,a3,a4,a5,a6,a7,a8⟩,rfl,k4,k5,k6,j6,k8,j8⟩
theorem aE8 (r:List y3.Data)(h:F2.g C vs [sS,sS,sI] r):∃ a:iC,r=a.enc/\True:=by
 obtain ⟨x0,_,rfl,h0,h⟩:=sc h;obtain ⟨x1,_,rfl,h1,h⟩:=sc h;obtain ⟨x2,rfl,h2⟩:=s1 h;obtain ⟨a0,rfl⟩:=dS h0;obtain ⟨a1,rfl⟩:=dS h1;obtain ⟨a2,rfl⟩:=dI h2;exact ⟨⟨a0,a1,a2⟩,rfl,trivial⟩
theorem aF2 (r:List y3.Data)(h:F2.g C vs [sS,sS,sI,sI,sI,sI] r):∃ a:iq,r=a.enc/\True:=by
 obtain ⟨x0,_,rfl,h0,h⟩:=sc h;obtain ⟨x1,_,rfl,h1,h⟩:=sc h;obtain ⟨x2,_,rfl,h2,h⟩:=sc h;obtain ⟨x3,_,rfl,h3,h⟩:=sc h;obtain ⟨x4,_,rfl,h4,h⟩:=sc h;obtain ⟨x5,rfl,h5⟩:=s1 h;obtain ⟨a0,rfl⟩:=dS h0;obtain ⟨a1,rfl⟩:=dS h1;obtain ⟨a2,rfl⟩:=dI h2;obtain ⟨a3,rfl⟩:=dI h3;obtain ⟨a4,rfl⟩:=dI h4;obtain ⟨a5,rfl⟩:=dI h5;exact ⟨⟨a0,a1,a2,a3,a4,a5⟩,rfl,trivial⟩
theorem aE6 (r:List y3.Data)(h:F2.g C vs [sS,sS,sI,sI] r):∃ a:kj,r=a.enc/\True:=by
 obtain ⟨x0,_,rfl,h0,h⟩:=sc h;obtain ⟨x1,_,rfl,h1,h⟩:=sc h;obtain ⟨x2,_,rfl,h2,h⟩:=sc h;obtain ⟨x3,rfl,h3⟩:=s1 h;obtain ⟨a0,rfl⟩:=dS h0;obtain ⟨a1,rfl⟩:=dS h1;obtain ⟨a2,rfl⟩:=dI h2;obtain ⟨a3,rfl⟩:=dI h3;exact ⟨⟨a0,a1,a2,a3⟩,rfl,trivial⟩
theorem aF1 (r:List y3.Data)(h:F2.g C vs [sS,sS,sI] r):∃ a:jx,r=a.enc/\True:=by
 obtain ⟨x0,_,rfl,h0,h⟩:=sc h;obtain ⟨x1,_,rfl,h1,h⟩:=sc h;obtain ⟨x2,rfl,h2⟩:=s1 h;obtain ⟨a0,rfl⟩:=dS h0;obtain ⟨a1,rfl⟩:=dS h1;obtain ⟨a2,rfl⟩:=dI h2;exact ⟨⟨a0,a1,a2⟩,rfl,trivial⟩
theorem aF3 (r:List y3.Data)(h:F2.g C vs [sS,sS] r):∃ a:lS,r=a.enc/\True:=by
 obtain ⟨x0,_,rfl,h0,h⟩:=sc h;obtain ⟨x1,rfl,h1⟩:=s1 h;obtain ⟨a0,rfl⟩:=dS h0;obtain ⟨a1,rfl⟩:=dS h1;exact ⟨⟨a0,a1⟩,rfl,trivial⟩
theorem aE5 (r:List y3.Data)(h:F2.g C vs [sS,sL 100 [sS],sI] r):∃ a:lQ,r=a.enc/\a.tables.length<=100:=by
 obtain ⟨x0,_,rfl,h0,h⟩:=sc h;obtain ⟨x1,_,rfl,h1,h⟩:=sc h;obtain ⟨x2,rfl,h2⟩:=s1 h;obtain ⟨a0,rfl⟩:=dS h0;obtain ⟨a1,rfl,k1,_⟩:=dL aF4 h1;obtain ⟨a2,rfl⟩:=dI h2;exact ⟨⟨a0,a1,a2⟩,rfl,k1⟩
theorem ad7 (r:List y3.Data)(h:F2.g C vs YB r):∃ c:m8,r=c.enc/\B6 c:=by
 obtain ⟨x0,_,rfl,h0,h⟩:=sc h;obtain ⟨x1,_,rfl,h1,h⟩:=sc h;obtain ⟨x2,_,rfl,h2,h⟩:=sc h;obtain ⟨x3,_,rfl,h3,h⟩:=sc h;obtain ⟨x4,_,rfl,h4,h⟩:=sc h;obtain ⟨x5,_,rfl,h5,h⟩:=sc h;obtain ⟨x6,_,rfl,h6,h⟩:=sc h;obtain ⟨x7,rfl,h7⟩:=s1 h;obtain ⟨a0,rfl,k0,j0⟩:=dL aF5 h0;obtain ⟨a1,rfl,k1,j1⟩:=dL dVw h1;obtain ⟨a2,rfl,k2,_⟩:=dL aE8 h2;obtain ⟨a3,rfl,k3,_⟩:=dL aF2 h3;obtain ⟨a4,rfl,k4,_⟩:=dL aE6 h4;obtain ⟨a5,rfl,k5,_⟩:=dL aF1 h5;obtain ⟨a6,rfl,k6,_⟩:=dL aF3 h6;obtain ⟨a7,rfl,k7,j7⟩:=dL aE5 h7;refine ⟨⟨a0,a1,a2,a3,a4,a5,a6,a7⟩,rfl,⟨⟨by simp;omega,by simp;omega,by simp;omega,by simp;omega,by simp;omega,by simp;omega,by simp;omega,by simp;omega⟩,?_,?_⟩,?_,?_,?_,?_,?_,?_,?_⟩
 ·intro k hk;have:=j0 _ (ay hk);simp only at this ⊢;omega
 ·intro k i hk hi;have:=(j0 _ (ay hk)).2 _ (ay hi);simp only at this ⊢;omega
 ·intro k hk;have:=(j1 _ (ay hk)).items;simp only at this ⊢;omega
 ·intro k hk;have:=(j1 _ (ay hk)).C1;simp only at this ⊢;omega
 ·intro k hk;have:=(j1 _ (ay hk)).on;simp only at this ⊢;omega
 ·intro k hk;have:=(j1 _ (ay hk)).wh;simp only at this ⊢;omega
 ·intro k i hk hi;have:=(j1 _ (ay hk)).AN _ (ay hi);simp only at this ⊢;omega
 ·intro k i hk hi;have:=(j1 _ (ay hk)).Mu _ (ay hi);simp only at this ⊢;omega
 ·intro k hk;have:=j7 _ (ay hk);simp only at this ⊢;omega
end
structure NM where
 w:Nat->y7->Prop
instance:Inhabited NM:=⟨⟨fun _ _=>False⟩⟩
variable [Inhabited NM]
def aD (xs:List Int)(g:m8):Ctx where
 Ω:=(default:NM).w
 Φ k d:=match k with
  |0=>∃ s:D8,d= .str s/\s ∈ m8.sn g
  |1=>∃ i:Nat,d=num i/\i<m8.ns g
  |2=>d=ints xs
  |_=>False
 Θ k cs:=match k with
  |0=>∃ c:m8,cs=c.enc.map .d/\J3 c=true/\B6 c
  |1=>cs=g.enc.map .d
  |_=>False
 Ψ k o:=match k with
  |0=>∃ p,p<=4 * xs.length/\o=tp xs p
  |_=>False
 N4 k o h:=by
  match k,h with
  |0,h=>obtain ⟨p,_,rfl⟩:=h;rfl
def vW:Sh.Sem:=fun B f args H l=>match args,H with
 |[.ptr 0 0,.d x],[.pr 0]=>if r9 f 23&&l.may 0 then match x.int? B with
   |some (.i64,lo,hi,r)=>if decide (1<=lo)&&decide (hi<=1000000) then some [(.d (.int .i64 0 (hi - 1) (match r with| .eq i=> .lt i|_=> .no)),[.pr 0])] else none
   |_=>none
  else none
 |_,_=>none
theorem ym (xs:List Int)(hx:xs.length<=35184372088832)(g:m8):ee (aD xs g) A vW:=by
 intro B f args H l outs h vs hB az Hc ha hH;unfold vW at h;split at h
 ·rename_i x
  split at h
  ·rename_i hc
   simp only [b5] at hc;have hf:=b9 hc.1;subst hf;split at h
   ·rename_i lo hi r hi?
    split at h
    ·rename_i hb
     simp only [b5,decide_eq_true_eq] at hb;cases h;simp only [q6.g] at ha;obtain ⟨a0,_,rfl,h0,a1,_,rfl,h1,rfl⟩:=ha;simp only [H6.g] at hH;obtain ⟨o,_,rfl,⟨p,hp,rfl⟩,rfl⟩:=hH;have h0:=bM h0;subst h0;obtain ⟨d,rfl,h2⟩:=aF h1;obtain ⟨n,rfl,h3,h4,h5⟩:=SD.gL hB hi? h2;obtain ⟨v,H1,⟨r',q,rfl,r1,r2,r3,hq,rfl⟩,hm⟩:=aj4 xs p n l hx hp (by omega) hc.2;refine ⟨_,_,⟨_,B0.2 rfl,bT ?_,?_⟩,hm⟩
     ·have hr:r' <n:=by
       by_cases h2:2<=n
       ·exact r2 h2
       ·have:=r3 (by omega);omega
      simp only [SD.g];refine ⟨r',rfl,r1,by omega,?_⟩;split
      ·rename_i i
       obtain ⟨m,m1,m2⟩:=h5;exact ⟨m,m1,r1,by omega⟩
      ·trivial
     ·simp only [H6.g]
      exact ⟨_,_,rfl,⟨q,hq,rfl⟩,rfl⟩
    ·cases h
   ·cases h
  ·cases h
 ·cases h
def OV:DQ:=fun ops dr c s=>match ops,dr,c with
 |[⟨.load (some 8) (.slot t),none,none,_⟩,⟨.call f [.loc 0],none,none,_⟩],false,.loc 1=>if r9 f 36 then match s.T[t]? with
   |some (.ptr id 0)=>match s.H[id]? with
    |some (.cells p l)=>if q6.le (fun _ _=>false) s.B (l.map SV.G4) (YB.map .d) then some ([{ s with H:=s.H.set id (.cells (some 0) l) }],[s]) else none
    |_=>none
   |_=>none
  else none
 |_,_,_=>none
theorem Oy {C:Ctx}{vs:List Nat}:∀ {l:List SD} {cs:List b6},q6.g C vs (l.map .d) cs->∃ ds,cs=ds.map .d/\F2.g C vs l ds
 |[],_,h=>by have _:Inhabited NM:=inferInstance;simp only [List.map_nil,q6.g] at h;subst h;exact ⟨[],rfl,by simp [F2.g]⟩
 |x::l,_,h=>by
  simp only [List.map_cons,q6.g] at h;obtain ⟨a,az,rfl,h1,h2⟩:=h;obtain ⟨d,rfl,h3⟩:=aF h1;obtain ⟨ds,rfl,h4⟩:=Oy h2;exact ⟨d::ds,rfl,by simp only [F2.g];exact ⟨_,_,rfl,h3,h4⟩⟩
theorem xx (xs:List Int)(g:m8)(l:G9)(b:Nat):Cc (aD xs g) A l b OV:=by
 intro ops dr c s p q h vs T H hs;unfold OV at h;split at h
 ·rename_i t u f u'
  split at h
  ·rename_i hf
   have hf:=b9 hf;subst hf;split at h
   ·rename_i id e
    split at h
    ·rename_i p' l' e2
     split at h
     ·rename_i hle
      cases h;obtain ⟨hT,hH,hB⟩:=hs;obtain ⟨a,h1,h2⟩:=q6.get hT e;have h2:=bM h2;subst h2;obtain ⟨o,h3,h4⟩:=H6.get hH e2;obtain ⟨cs,rfl,h5,h6⟩:=h4;have h7:=q6.map (C:=aD xs g) (vs:=vs) (fun _ _=>SV.oC) h5;obtain ⟨ds,e3,h8⟩:=Oy (q6.bw hB (C:=aD xs g) (fact:=fun _ _=>false) (fun k ds h=>by cases h) _ hle h7);obtain ⟨c,rfl,hc⟩:=ad7 ds h8;have hlen:cs.length=8:=by
       have:=congrArg List.length e3;simpa [m8.enc] using this
      have hR:Rn A l b [⟨.load (some 8) (.slot t),none,none,u⟩,⟨.call 36 [.loc 0],none,none,u'⟩] false T H fun T' H' L=>T' =T/\H' =H/\F5 T' L (.loc 1)= .d (.bool (J3 c)):=by
       refine Rn.text ?_;refine Ry.pure (v:=cat c) (rs:=[id]) rfl ?_ ?_
       ·have vM:rq T 0 [] (.slot t)= .ptr id 0:=by simp [rq,Vk,h1,b6.G4]
        simp only [m6,vM,rd,h3];rw [if_pos (by omega),List.drop_zero,q5 (by omega)];show some (b6.agg (cs.map b6.G4),[id])=_
        rw [e3];rfl
       ·exact cl (XT c hc) (nl ⟨rfl,rfl,rfl⟩)
      unfold Rn at hR ⊢;obtain ⟨r,N,⟨r1,r2,r3⟩,hr⟩:=hR;refine ⟨r,N,⟨J3 c,r3,?_⟩,hr⟩;rw [r1,r2];cases hv:J3 c with
      |false=>exact ⟨s,by simp,vs,Le.refl _,hT,hH,hB⟩
      |true =>
       refine ⟨{ s with H:=s.H.set id (.cells (some 0) l') },by simp,vs,Le.refl _,hT,?_,hB⟩;have:=H6.set hH id (a:= .cells (some 0) l') (b:= .cells cs) ⟨cs,rfl,h5,fun k hk=>by
        cases hk;exact ⟨c,e3,hv,hc⟩⟩
       have e4:H.set id (.cells cs)=H:=X7 h3
       rwa [e4] at this
     ·cases h
    ·cases h
   ·cases h
  ·cases h
 ·cases h
def bE:DQ:=fun _ _ _ _=>none
theorem qR {C:Ctx}{A:y3.Prog}{l:G9}{b:Nat}:Cc C A l b bE:=fun _ _ _ _ _ _ h=>by have _:Inhabited NM:=inferInstance;cases h
def W7:Fact:=fun _ _=>false
theorem aT {C:Ctx}:wv C W7:=fun _ _ h=>by have _:Inhabited NM:=inferInstance;cases h
end Go.Proofs.YtkmclibmmlgogaaGreat


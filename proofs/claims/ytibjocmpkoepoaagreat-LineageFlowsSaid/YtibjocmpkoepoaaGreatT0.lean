import Derived.Test.YtibjocmpkoepoaaGreatS0
import Derived.Test.YtibjocmpkoepoaaGreatX0
set_option linter.all false
open Bool renaming and_eq_true → c7, false_eq_true → j4
open List renaming map_cons → L8, mem_cons → B8, mem_singleton → s8, replicate → c9, take_of_length_le → y6
open Nat renaming beq → s7, eq_of_beq_eq_true → e8
namespace Go.A2.S
section
variable {A:Prog} {l:H7} {b:Nat}
variable {dr:Bool} {l5 ops:List o9} {T:List c8} {H:p9} {n:Nat} {rl:List c8} {p7:List Touch} {Q:List c8->p9->List c8->Prop}
def bq {op:BinOp}{a c r:Data}(h:P4 op a c=some r){x y:y5}{u:List Nat}(h2:Ry A l b dr l5 ops T H (n+1) (.d r::rl) p7 Q)(hx:rq T n rl x= .d a:=by rfl)(hy:rq T n rl y= .d c:=by rfl) :
  Ry A l b dr l5 (⟨.bin op x y,none,none,u⟩::ops) T H n rl p7 Q:=Ry.pure (rs:=[]) rfl (by simp only [o6,hx,hy,h]) h2
def ci {k k' :IntKind}{c d:Int}(h:k.wrap c=d){x:y5}{u:List Nat}(h2:Ry A l b dr l5 ops T H (n+1) (.d (.int k d)::rl) p7 Q)(hx:rq T n rl x= .d (.int k' c):=by rfl) :
  Ry A l b dr l5 (⟨.oA k x,none,none,u⟩::ops) T H n rl p7 Q:=Ry.pure (rs:=[]) rfl (by simp only [o6,hx,h]) h2
end
end Go.A2.S
namespace Go.Proofs.YtibjocmpkoepoaaGreat
open Go.A2 Go.A2.S
attribute [local irreducible] Rx Ry Rn Ex Pf
def tp (xs:List Int)(p:Nat):A1:= .cells [.d (B0 (fun n=>[num n]) xs),.d (num (p:Int))]
def aF5 (z:Int){n:Int}(h2:2<=n)(h3:n<=1000000):∃ r q:Int,P4 .rem (.int .i64 z) (.int .i64 n)=some (.int .i64 q)/\ -n<q/\q<n/\P4 .rem (.int .i64 (q+n)) (.int .i64 n)=some (.int .i64 r)/\0<=r/\r<n:=by
 have h1:=Int.tmod_lt_of_pos z (show 0<n by omega);have h4: -n<z.tmod n:=by
  by_cases hz:z<0
  .have e:z.tmod n= -((-z).tmod n):=by rw [<- Int.neg_tmod,Int.neg_neg]
   have:=Int.tmod_lt_of_pos (-z) (show 0<n by omega);omega
  .have:=Int.tmod_nonneg (a:=z) n (by omega)
   omega
 have h5:=Int.tmod_lt_of_pos (z.tmod n+n) (show 0<n by omega);have h6:=Int.tmod_nonneg (a:=z.tmod n+n) n (by omega);refine ⟨(z.tmod n+n).tmod n,z.tmod n,?_,h4,h1,?_,h6,h5⟩
 .simp [P4,ak,cq];omega
 .simp [P4,ak,cq];omega
def aW1 (xs:List Int)(p:Nat)(n:Int)(l:H7)(hx:xs.length<=35184372088832)(hp:p<=4 * xs.length)(hn:n<=1000000)(hl:l.may 0=true) :
  Pq A 22 [.ptr 0 0,.d (num n)] [tp xs p] l fun v H1=>∃ (r:Int) (q:Nat),v= .d (num r)/\0<=r/\(2<=n->r<n)/\(n<2->r=0)/\q<=4 * xs.length/\H1=[tp xs q]:=by
 unfold tp;have h0: -9223372036854775808<=(4:Int) * xs.length/\(4:Int) * xs.length<9223372036854775808:=by omega
 refine Pq.run (b:=1) [.ptr 0 0,.d (num n),.any,.any,.any] rfl rfl rfl rfl rfl ?_;refine gr ?_;refine tB (E4 n 2||(s9 xs.length 0||bV (4 * xs.length) p)) ?_ (fun h=> ?_) (fun h=> ?_)
 .repeat' (first|refine mu ?_ h0|refine gx ?_|refine fk (h1:=fun hw=> ?_) (h2:=fun hw=> ?_)|refine U1 (h1:=fun hw=> ?_) (h2:=fun hw=> ?_)|refine ⟨rfl,rfl,_,rfl,?_⟩|refine ⟨rfl,rfl⟩|fail)
  all_goals exact cc
 .refine gr ?_
  refine ⟨_,_,rfl,0,p,rfl,Int.le_refl _,fun h=>by omega,fun _=>rfl,hp,rfl⟩
 have h' :=h;simp [u0,s6,o8] at h';obtain ⟨h1,h2,h3⟩:=h';have hlen:0<xs.length:=by
  rcases Nat.eq_zero_or_pos xs.length with e|e
  .exact absurd (List.eq_nil_of_length_eq_zero e) h2
  .exact e
 obtain ⟨i,hi,hb⟩:∃ i:Nat,i<xs.length/\P4 .rem (.int .i64 (p:Int)) (.int .i64 (xs.length:Int))=some (.int .i64 (i:Int)) :=
  ⟨p % xs.length,Nat.mod_lt _ hlen,by simp [P4,ak,cq];exact ⟨by omega,rfl⟩⟩
 obtain ⟨s,hs,hq⟩:∃ s:Nat,s<=4/\P4 .quo (.int .i64 (p:Int)) (.int .i64 (xs.length:Int))=some (.int .i64 (s:Int)):=by
  have hd:p / xs.length<=4:=Nat.div_le_of_le_mul (by rw [Nat.mul_comm];exact hp);have e:(p:Int).tdiv xs.length=((p / xs.length:Nat):Int):=rfl;generalize p / xs.length=s at hd e;refine ⟨s,hd,?_⟩;have hne:¬ (xs.length:Int)=0:=by omega
  simp only [P4,ak,j4,if_false,if_true,cq,e,hne];have e2:IntKind.wrap .i64 (s:Int)=s:=Go.A2.wrap_small (by omega) (by omega);exact congrArg (fun z=>some (Data.int IntKind.i64 z)) e2
 repeat' (first|refine bq hb ?_|refine gx ?_|fail)
 repeat' (first|refine bq hq ?_|refine gx ?_|fail)
 refine Ex.OA (fun st=>∃ z:Int,st=⟨[.ptr 0 0,.d (num n),.d (num 0),.d (num z),.d (num (s:Int))],[.cells [.d (B0 (fun n=>[num n]) xs),.d (num (p:Int))]]⟩) ?_ ?_
 .have hc:IntKind.wrap .u64 (s:Int)=(s:Int):=by
   match s,hs with
   |0,_=>rfl
   |1,_=>rfl
   |2,_=>rfl
   |3,_=>rfl
   |4,_=>rfl
   |s+5,h=>omega
  have hsh:P4 .shr (.int .i64 (nth xs i)) (.int .u64 (s:Int))=some (.int .i64 ((nth xs i).fdiv (2 ^ (min s 64)))):=by simp [P4,ak,Ar];rfl
  obtain ⟨z,hz⟩:∃ z,P4 .xor (.int .i64 ((nth xs i).fdiv (2 ^ (min s 64)))) (.int .i64 (s:Int))=some (.int .i64 z):=⟨_,by simp [P4,ak,cq];rfl⟩;refine tb (E4 0 s) (fun g=> ?_) (fun g=> ?_)
  .repeat' (first|refine ci hc ?_|refine bq hsh ?_|refine bq hz ?_|refine gx ?_|fail)
   exact ⟨_,rfl⟩
  .refine gr ?_
   exact ⟨_,rfl⟩
 .rintro _ ⟨z,rfl⟩
  obtain ⟨r,q,r1,r2,r3,r4,r5,r6⟩:=aF5 z (show 2<=n by omega) hn;refine gr ?_;refine so1 (hl:=hl) (hb:=Nat.zero_le _) (hq:=Nat.lt_succ_self 1) (h2:= ?_)
  repeat' (first|refine bq r1 ?_|refine bq r4 ?_|refine gx ?_|fail)
  refine ⟨_,_,rfl,r,p+1,rfl,r5,fun _=>r6,fun h=>by omega,by omega,?_⟩;rfl
end Go.Proofs.YtibjocmpkoepoaaGreat
namespace Go.Proofs.YtibjocmpkoepoaaGreat
open Go.A2 Go.A2.S Go.A2.Sh
attribute [local irreducible] Rx Ry Rn Ex Pf
def sI:SD:= .int .i64 (-9223372036854775808) 9223372036854775807 .no
def sS:SD:= .str 1000
def sL (n:Nat)(r:List SD):SD:= .slice none 0 n r
def KC:List SD:=[sI,sI,sI,sS,sI]
def bb8:List SD:=[sS,sI,sS,sS,sL 100 [sI],sI,sI]
def bc0:List SD:=[sS,sL 100 bb8,sI,sI]
def bb9:List SD:=[sS,sL 100 KC]
def bb6:List SD:=[sS,sI,sL 100 KC]
def rVw:List SD:=[sS,sI,sS,sS,sL 100 [sI,sI],sL 100 KC,sL 100 bb9,.bool .tT,sL 100 bb6]
def aF4:List SD:=[sL 100 bc0,sL 100 rVw,sL 100 [sS,sS,sI],sL 100 [sS,sS,sI,sI,sI,sI],sL 100 [sS,sS,sI,sI],sL 100 [sS,sS,sI],sL 100 [sS,sS],sL 100 [sS,sL 100 [sS],sI]]
section
variable {C:Ctx} {vs:List Nat}
def dI {d:A2.Data}(h:sI.g C vs d):∃ n,d=num n:=by
 obtain ⟨n,rfl,_⟩:=h;exact ⟨n,rfl⟩
def dS {d:A2.Data}(h:sS.g C vs d):∃ s:K4,d= .str s:=by
 grind [sS,SD.g]
def dB {d:A2.Data}(h:(SD.bool .tT).g C vs d):∃ b,d= .bool b:=by
 grind [SD.g]
def dL {α:Type}{enc:α->List A2.Data}{P:α->Prop}{row:List SD}(hr:∀ r,J1.g C vs row r->∃ a,r=enc a/\P a){n:Nat}{d:A2.Data}(h:(sL n row).g C vs d):∃ l:List α,d=B0 enc l/\l.length<=n/\∀ a,a ∈ l->P a:=by
 obtain ⟨rows,rfl,_,h2,_,h4⟩:=h;have key:∀ rows:List (List A2.Data),(∀ r,r ∈ rows->J1.g C vs row r)->∃ l:List α,l.length=rows.length/\rows.flatten=l.flatMap enc/\∀ a,a ∈ l->P a:=by
  intro rows
  induction rows with
  |nil=>simp_all
  |cons r rs ih =>
   intro h;obtain ⟨a,ha,hok⟩:=hr r (h r (by simp));obtain ⟨l,h1,h2,h3⟩:=ih (fun r hr' =>h r (by simp [hr']));refine ⟨a::l,by simp [h1],by simp [h2,ha],?_⟩;simp_all
 obtain ⟨l,h1,h2',h3⟩:=key rows h4
 grind [B0]
def s1 {a:SD}{ds:List A2.Data}(h:J1.g C vs [a] ds):∃ x,ds=[x]/\a.g C vs x:=by
 simp_all [J1.g]
theorem sc {a b:SD}{l:List SD}{ds:List A2.Data}(h:J1.g C vs (a::b::l) ds):∃ x xs,ds=x::xs/\a.g C vs x/\J1.g C vs (b::l) xs:=by
 simp_all [J1.g]
def aw3 (r:List A2.Data)(h:J1.g C vs KC r):∃ a:X0,r=a.enc/\True:=by
 obtain ⟨x0,_,rfl,h0,h⟩:=sc h;obtain ⟨x1,_,rfl,h1,h⟩:=sc h;obtain ⟨x2,_,rfl,h2,h⟩:=sc h;obtain ⟨x3,_,rfl,h3,h⟩:=sc h;obtain ⟨x4,rfl,h4⟩:=s1 h;obtain ⟨a0,rfl⟩:=dI h0;obtain ⟨a1,rfl⟩:=dI h1;obtain ⟨a2,rfl⟩:=dI h2;obtain ⟨a3,rfl⟩:=dS h3;obtain ⟨a4,rfl⟩:=dI h4;exact ⟨⟨a0,a1,a2,a3,a4⟩,rfl,trivial⟩
def bt1 (r:List A2.Data)(h:J1.g C vs [sI] r):∃ a:Int,r=[num a]/\True:=by
 obtain ⟨x0,rfl,h0⟩:=s1 h;obtain ⟨a0,rfl⟩:=dI h0
 grind
def bt6 (r:List A2.Data)(h:J1.g C vs [sS] r):∃ a:K4,r=[.str a]/\True:=by
 obtain ⟨x0,rfl,h0⟩:=s1 h;obtain ⟨a0,rfl⟩:=dS h0;simp_all
def aO7 (r:List A2.Data)(h:J1.g C vs [sI,sI] r):∃ a:Int×Int,r=[num a.1,num a.2]/\True:=by
 obtain ⟨x0,_,rfl,h0,h⟩:=sc h;obtain ⟨x1,rfl,h1⟩:=s1 h;obtain ⟨a0,rfl⟩:=dI h0;obtain ⟨a1,rfl⟩:=dI h1;simp_all<;>grind
def bs9 (r:List A2.Data)(h:J1.g C vs bb8 r):∃ a:ek,r=a.enc/\a.J8.length<=100:=by
 obtain ⟨x0,_,rfl,h0,h⟩:=sc h;obtain ⟨x1,_,rfl,h1,h⟩:=sc h;obtain ⟨x2,_,rfl,h2,h⟩:=sc h;obtain ⟨x3,_,rfl,h3,h⟩:=sc h;obtain ⟨x4,_,rfl,h4,h⟩:=sc h;obtain ⟨x5,_,rfl,h5,h⟩:=sc h;obtain ⟨x6,rfl,h6⟩:=s1 h;obtain ⟨a0,rfl⟩:=dS h0;obtain ⟨a1,rfl⟩:=dI h1;obtain ⟨a2,rfl⟩:=dS h2;obtain ⟨a3,rfl⟩:=dS h3;obtain ⟨a4,rfl,k4,_⟩:=dL bt1 h4;obtain ⟨a5,rfl⟩:=dI h5;obtain ⟨a6,rfl⟩:=dI h6;exact ⟨⟨a0,a1,a2,a3,a4,a5,a6⟩,rfl,k4⟩
def bt7 (r:List A2.Data)(h:J1.g C vs bc0 r):∃ a:jj,r=a.enc/\a.q7.length<=100/\∀ x,x ∈ a.q7->x.J8.length<=100:=by
 obtain ⟨x0,_,rfl,h0,h⟩:=sc h;obtain ⟨x1,_,rfl,h1,h⟩:=sc h;obtain ⟨x2,_,rfl,h2,h⟩:=sc h;obtain ⟨x3,rfl,h3⟩:=s1 h;obtain ⟨a0,rfl⟩:=dS h0;obtain ⟨a1,rfl,k1,k2⟩:=dL bs9 h1;obtain ⟨a2,rfl⟩:=dI h2;obtain ⟨a3,rfl⟩:=dI h3;exact ⟨⟨a0,a1,a2,a3⟩,rfl,k1,k2⟩
def bt2 (r:List A2.Data)(h:J1.g C vs bb9 r):∃ a:OK,r=a.enc/\a.expr.length<=100:=by
 obtain ⟨x0,_,rfl,h0,h⟩:=sc h;obtain ⟨x1,rfl,h1⟩:=s1 h;obtain ⟨a0,rfl⟩:=dS h0;obtain ⟨a1,rfl,k1,_⟩:=dL aw3 h1;exact ⟨⟨a0,a1⟩,rfl,k1⟩
def bs6 (r:List A2.Data)(h:J1.g C vs bb6 r):∃ a:Io,r=a.enc/\a.expr.length<=100:=by
 obtain ⟨x0,_,rfl,h0,h⟩:=sc h;obtain ⟨x1,_,rfl,h1,h⟩:=sc h;obtain ⟨x2,rfl,h2⟩:=s1 h;obtain ⟨a0,rfl⟩:=dS h0;obtain ⟨a1,rfl⟩:=dI h1;obtain ⟨a2,rfl,k1,_⟩:=dL aw3 h2;exact ⟨⟨a0,a1,a2⟩,rfl,k1⟩
structure bj6 (v:Vw):Prop where
 on:v.on.length<=100
 wh:v.wh.length<=100
 items:v.items.length<=100
 JN:∀ x,x ∈ v.items->x.expr.length<=100
 D5:v.D5.length<=100
 UP:∀ x,x ∈ v.D5->x.expr.length<=100
def dVw (r:List A2.Data)(h:J1.g C vs rVw r):∃ a:Vw,r=a.enc/\bj6 a:=by
 obtain ⟨x0,_,rfl,h0,h⟩:=sc h;obtain ⟨x1,_,rfl,h1,h⟩:=sc h;obtain ⟨x2,_,rfl,h2,h⟩:=sc h;obtain ⟨x3,_,rfl,h3,h⟩:=sc h;obtain ⟨x4,_,rfl,h4,h⟩:=sc h;obtain ⟨x5,_,rfl,h5,h⟩:=sc h;obtain ⟨x6,_,rfl,h6,h⟩:=sc h;obtain ⟨x7,_,rfl,h7,h⟩:=sc h;obtain ⟨x8,rfl,h8⟩:=s1 h;obtain ⟨a0,rfl⟩:=dS h0;obtain ⟨a1,rfl⟩:=dI h1;obtain ⟨a2,rfl⟩:=dS h2;obtain ⟨a3,rfl⟩:=dS h3;obtain ⟨a4,rfl,k4,_⟩:=dL aO7 h4;obtain ⟨a5,rfl,k5,_⟩:=dL aw3 h5;obtain ⟨a6,rfl,k6,j6⟩:=dL bt2 h6;obtain ⟨a7,rfl⟩:=dB h7;obtain ⟨a8,rfl,k8,j8⟩:=dL bs6 h8;exact ⟨⟨a0,a1,a2,a3,a4,a5,a6,a7,a8⟩,rfl,k4,k5,k6,j6,k8,j8⟩
def bt0 (r:List A2.Data)(h:J1.g C vs [sS,sS,sI] r):∃ a:oy,r=a.enc/\True:=by
 obtain ⟨x0,_,rfl,h0,h⟩:=sc h;obtain ⟨x1,_,rfl,h1,h⟩:=sc h;obtain ⟨x2,rfl,h2⟩:=s1 h;obtain ⟨a0,rfl⟩:=dS h0;obtain ⟨a1,rfl⟩:=dS h1;obtain ⟨a2,rfl⟩:=dI h2;exact ⟨⟨a0,a1,a2⟩,rfl,trivial⟩
def bt4 (r:List A2.Data)(h:J1.g C vs [sS,sS,sI,sI,sI,sI] r):∃ a:nC,r=a.enc/\True:=by
 obtain ⟨x0,_,rfl,h0,h⟩:=sc h;obtain ⟨x1,_,rfl,h1,h⟩:=sc h;obtain ⟨x2,_,rfl,h2,h⟩:=sc h;obtain ⟨x3,_,rfl,h3,h⟩:=sc h;obtain ⟨x4,_,rfl,h4,h⟩:=sc h;obtain ⟨x5,rfl,h5⟩:=s1 h;obtain ⟨a0,rfl⟩:=dS h0;obtain ⟨a1,rfl⟩:=dS h1;obtain ⟨a2,rfl⟩:=dI h2;obtain ⟨a3,rfl⟩:=dI h3;obtain ⟨a4,rfl⟩:=dI h4;obtain ⟨a5,rfl⟩:=dI h5;exact ⟨⟨a0,a1,a2,a3,a4,a5⟩,rfl,trivial⟩
def bs8 (r:List A2.Data)(h:J1.g C vs [sS,sS,sI,sI] r):∃ a:qL,r=a.enc/\True:=by
 obtain ⟨x0,_,rfl,h0,h⟩:=sc h;obtain ⟨x1,_,rfl,h1,h⟩:=sc h;obtain ⟨x2,_,rfl,h2,h⟩:=sc h;obtain ⟨x3,rfl,h3⟩:=s1 h;obtain ⟨a0,rfl⟩:=dS h0;obtain ⟨a1,rfl⟩:=dS h1;obtain ⟨a2,rfl⟩:=dI h2;obtain ⟨a3,rfl⟩:=dI h3;exact ⟨⟨a0,a1,a2,a3⟩,rfl,trivial⟩
def bt3 (r:List A2.Data)(h:J1.g C vs [sS,sS,sI] r):∃ a:oT,r=a.enc/\True:=by
 obtain ⟨x0,_,rfl,h0,h⟩:=sc h;obtain ⟨x1,_,rfl,h1,h⟩:=sc h;obtain ⟨x2,rfl,h2⟩:=s1 h;obtain ⟨a0,rfl⟩:=dS h0;obtain ⟨a1,rfl⟩:=dS h1;obtain ⟨a2,rfl⟩:=dI h2;exact ⟨⟨a0,a1,a2⟩,rfl,trivial⟩
def bt5 (r:List A2.Data)(h:J1.g C vs [sS,sS] r):∃ a:tP,r=a.enc/\True:=by
 obtain ⟨x0,_,rfl,h0,h⟩:=sc h;obtain ⟨x1,rfl,h1⟩:=s1 h;obtain ⟨a0,rfl⟩:=dS h0;obtain ⟨a1,rfl⟩:=dS h1;exact ⟨⟨a0,a1⟩,rfl,trivial⟩
def bs7 (r:List A2.Data)(h:J1.g C vs [sS,sL 100 [sS],sI] r):∃ a:tN,r=a.enc/\a.tables.length<=100:=by
 obtain ⟨x0,_,rfl,h0,h⟩:=sc h;obtain ⟨x1,_,rfl,h1,h⟩:=sc h;obtain ⟨x2,rfl,h2⟩:=s1 h;obtain ⟨a0,rfl⟩:=dS h0;obtain ⟨a1,rfl,k1,_⟩:=dL bt6 h1;obtain ⟨a2,rfl⟩:=dI h2;exact ⟨⟨a0,a1,a2⟩,rfl,k1⟩
def aO6 (r:List A2.Data)(h:J1.g C vs aF4 r):∃ c:r9,r=c.enc/\J7 c:=by
 obtain ⟨x0,_,rfl,h0,h⟩:=sc h;obtain ⟨x1,_,rfl,h1,h⟩:=sc h;obtain ⟨x2,_,rfl,h2,h⟩:=sc h;obtain ⟨x3,_,rfl,h3,h⟩:=sc h;obtain ⟨x4,_,rfl,h4,h⟩:=sc h;obtain ⟨x5,_,rfl,h5,h⟩:=sc h;obtain ⟨x6,_,rfl,h6,h⟩:=sc h;obtain ⟨x7,rfl,h7⟩:=s1 h;obtain ⟨a0,rfl,k0,j0⟩:=dL bt7 h0;obtain ⟨a1,rfl,k1,j1⟩:=dL dVw h1;obtain ⟨a2,rfl,k2,_⟩:=dL bt0 h2;obtain ⟨a3,rfl,k3,_⟩:=dL bt4 h3;obtain ⟨a4,rfl,k4,_⟩:=dL bs8 h4;obtain ⟨a5,rfl,k5,_⟩:=dL bt3 h5;obtain ⟨a6,rfl,k6,_⟩:=dL bt5 h6;obtain ⟨a7,rfl,k7,j7⟩:=dL bs7 h7;refine ⟨⟨a0,a1,a2,a3,a4,a5,a6,a7⟩,rfl,⟨⟨by simp;omega,by simp;omega,by simp;omega,by simp;omega,by simp;omega,by simp;omega,by simp;omega,by simp;omega⟩,?_,?_⟩,?_,?_,?_,?_,?_,?_,?_⟩
 .grind [S9]
 .grind [S9]
 .intro k hk;have:=(j1 _ (S9 hk)).items;grind
 .intro k hk;have:=(j1 _ (S9 hk)).D5;grind
 .intro k hk;have:=(j1 _ (S9 hk)).on;grind
 .intro k hk;have:=(j1 _ (S9 hk)).wh;grind
 .intro k i hk hi;have:=(j1 _ (S9 hk)).JN _ (S9 hi);grind
 .intro k i hk hi;have:=(j1 _ (S9 hk)).UP _ (S9 hi);grind
 grind [S9]
end
structure tO where
 w:Nat->A1->Prop
instance:Inhabited tO:=⟨⟨fun _ _=>False⟩⟩
variable [Inhabited tO]
def bE (xs:List Int)(g:r9):Ctx where
 Ω:=(default:tO).w
 Φ k d:=match k with
  |0=>∃ s:K4,d= .str s/\s ∈ r9.sn g
  |1=>∃ i:Nat,d=num i/\i<r9.ns g
  |2=>d=ints xs
  |_=>False
 Θ k cs:=match k with
  |0=>∃ c:r9,cs=c.enc.map .d/\L6 c=true/\J7 c
  |1=>cs=g.enc.map .d
  |_=>False
 Ψ k o:=match k with
  |0=>∃ p,p<=4 * xs.length/\o=tp xs p
  |_=>False
 O5 k o h:=by
  match k,h with
  |0,h=>obtain ⟨p,_,rfl⟩:=h;rfl
def Aa:Sh.Sem:=fun B f args H l=>match args,H with
 |[.ptr 0 0,.d x],[.pr 0]=>if s7 f 22&&l.may 0 then match x.int? B with
   |some (.i64,lo,hi,r)=>if decide (1<=lo)&&decide (hi<=1000000) then some [(.d (.int .i64 0 (hi - 1) (match r with| .eq i=> .lt i|_=> .no)),[.pr 0])] else none
   |_=>none
  else none
 |_,_=>none
def BQ (xs:List Int)(hx:xs.length<=35184372088832)(g:r9):gq (bE xs g) A Aa:=by
 intro B f args H l outs h vs hB az Hc ha hH;unfold Aa at h;split at h
 .rename_i x
  split at h
  .rename_i hc
   simp only [c7] at hc;have hf:=e8 hc.1;subst hf;split at h
   .rename_i lo hi r hi?
    split at h
    .rename_i hb
     simp only [c7,decide_eq_true_eq] at hb;cases h;simp only [y7.g] at ha;obtain ⟨a0,_,rfl,h0,a1,_,rfl,h1,rfl⟩:=ha;simp only [J6.g] at hH;obtain ⟨o,_,rfl,⟨p,hp,rfl⟩,rfl⟩:=hH;have h0:=cw h0;subst h0;obtain ⟨d,rfl,h2⟩:=bG h1;obtain ⟨n,rfl,h3,h4,h5⟩:=SD.jQ hB hi? h2;obtain ⟨v,H1,⟨r',q,rfl,r1,r2,r3,hq,rfl⟩,hm⟩:=aW1 xs p n l hx hp (by omega) hc.2;refine ⟨_,_,⟨_,s8.2 rfl,cK ?_,?_⟩,hm⟩
     .have hr:r' <n:=by
       by_cases h2:2<=n
       .exact r2 h2
       .have:=r3 (by omega);omega
      simp only [SD.g];refine ⟨r',rfl,r1,by omega,?_⟩;split
      .rename_i i
       obtain ⟨m,m1,m2⟩:=h5;exact ⟨m,m1,r1,by omega⟩
      .trivial
     .simp only [J6.g]
      exact ⟨_,_,rfl,⟨q,hq,rfl⟩,rfl⟩
    .cases h
   .cases h
  .cases h
 .cases h
def VT:Iv:=fun ops dr c s=>match ops,dr,c with
 |[⟨.load (some 8) (.slot t),none,none,_⟩,⟨.call f [.loc 0],none,none,_⟩],false,.loc 1=>if s7 f 40 then match s.T[t]? with
   |some (.ptr id 0)=>match s.H[id]? with
    |some (.cells p l)=>if y7.le (fun _ _=>false) s.B (l.map SV.J3) (aF4.map .d) then some ([{ s with H:=s.H.set id (.cells (some 0) l) }],[s]) else none
    |_=>none
   |_=>none
  else none
 |_,_,_=>none
theorem Vn {C:Ctx}{vs:List Nat}:∀ {l:List SD} {cs:List c8},y7.g C vs (l.map .d) cs->∃ ds,cs=ds.map .d/\J1.g C vs l ds
 |[],_,h=>by have _:Inhabited tO:=inferInstance;simp only [List.map_nil,y7.g] at h;subst h;exact ⟨[],rfl,by simp [J1.g]⟩
 |x::l,_,h=>by
  simp only [L8,y7.g] at h;obtain ⟨a,az,rfl,h1,h2⟩:=h;obtain ⟨d,rfl,h3⟩:=bG h1;obtain ⟨ds,rfl,h4⟩:=Vn h2;exact ⟨d::ds,rfl,by simp only [J1.g];exact ⟨_,_,rfl,h3,h4⟩⟩
def JF (xs:List Int)(g:r9)(l:H7)(b:Nat):Gf (bE xs g) A l b VT:=by
 intro ops dr c s p q h vs T H hs;unfold VT at h;split at h
 .rename_i t u f u'
  split at h
  .rename_i hf
   have hf:=e8 hf;subst hf;split at h
   .rename_i id e
    split at h
    .rename_i p' l' e2
     split at h
     .rename_i hle
      cases h;obtain ⟨hT,hH,hB⟩:=hs;obtain ⟨a,h1,h2⟩:=y7.get hT e;have h2:=cw h2;subst h2;obtain ⟨o,h3,h4⟩:=J6.get hH e2;obtain ⟨cs,rfl,h5,h6⟩:=h4;have h7:=y7.map (C:=bE xs g) (vs:=vs) (fun _ _=>SV.rQ) h5;obtain ⟨ds,e3,h8⟩:=Vn (y7.cO hB (C:=bE xs g) (fact:=fun _ _=>false) (fun k ds h=>by cases h) _ hle h7);obtain ⟨c,rfl,hc⟩:=aO6 ds h8;have hlen:cs.length=8:=by
       have:=congrArg List.length e3;simpa [r9.enc] using this
      have hR:Rn A l b [⟨.load (some 8) (.slot t),none,none,u⟩,⟨.call 40 [.loc 0],none,none,u'⟩] false T H fun T' H' L=>T' =T/\H' =H/\J2 T' L (.loc 1)= .d (.bool (L6 c)):=by
       refine Rn.text ?_;refine Ry.pure (v:=cat c) (rs:=[id]) rfl ?_ ?_
       .have tQ:rq T 0 [] (.slot t)= .ptr id 0:=by simp [rq,opw,h1,c8.J3]
        simp only [o6,tQ,rd,h3];rw [if_pos (by omega),List.drop_zero,y6 (by omega)];show some (c8.agg (cs.map c8.J3),[id])=_
        rw [e3];rfl
       .exact cl (Xe c hc) (nl ⟨rfl,rfl,rfl⟩)
      unfold Rn at hR ⊢;obtain ⟨r,N,⟨r1,r2,r3⟩,hr⟩:=hR;refine ⟨r,N,⟨L6 c,r3,?_⟩,hr⟩;rw [r1,r2];cases hv:L6 c with
      |false=>exact ⟨s,by simp,vs,Le.refl _,hT,hH,hB⟩
      |true =>
       refine ⟨{ s with H:=s.H.set id (.cells (some 0) l') },by simp,vs,Le.refl _,hT,?_,hB⟩;have:=J6.set hH id (a:= .cells (some 0) l') (b:= .cells cs) ⟨cs,rfl,h5,fun k hk=>by
        cases hk;exact ⟨c,e3,hv,hc⟩⟩
       have e4:H.set id (.cells cs)=H:=au h3
       rwa [e4] at this
     .cases h
    .cases h
   .cases h
  .cases h
 .cases h
def aj:Iv:=fun _ _ _ _=>none
def uz {C:Ctx}{A:A2.Prog}{l:H7}{b:Nat}:Gf C A l b aj:=fun _ _ _ _ _ _ h=>by have _:Inhabited tO:=inferInstance;cases h
def V0:Fact:=fun _ _=>false
def dM {C:Ctx}:An C V0:=fun _ _ h=>by have _:Inhabited tO:=inferInstance;cases h
end Go.Proofs.YtibjocmpkoepoaaGreat
namespace Go.Proofs.YtibjocmpkoepoaaGreat
open Go.A2 Go.A2.S Go.A2.Sh
attribute [local irreducible] Rx Ry Rn Ex Pf
variable [Inhabited tO]
def rN (C:Ctx)(l:List Sh.Spec):Prop:=∀ s,s ∈ l->s.ok C A
def rN.nil {C:Ctx}:rN C []:=fun s h=>by have _:Inhabited tO:=inferInstance;cases h
def rN.cons {C:Ctx}{s:Sh.Spec}{l:List Sh.Spec}(h:s.ok C A)(hl:rN C l):rN C (s::l):=fun t ht=>by
 have _:Inhabited tO:=inferInstance
 rcases B8.1 ht with rfl|ht
 .exact h
 .exact hl t ht
def ey (l:List Sh.Spec):Sh.Sem:=cz Aa (XI V0 l)
def zZ {xs:List Int}(hx:xs.length<=35184372088832){g:r9}{l:List Sh.Spec}(h:rN (bE xs g) l):gq (bE xs g) A (ey l):=mS (BQ xs hx g) (XJ dM h)
def dc {xs:List Int}(hx:xs.length<=35184372088832){g:r9}{l:List Sh.Spec}(h:rN (bE xs g) l){kp js:List Nat}{af:q9}{s:Sh.Spec}(hp:A.fP s.f=none)(ha:A.fn s.f=some af)(hc:fA A (ey l) aj V0 kp js 40 af s=true):s.ok (bE xs g) A :=
 uO (zZ hx h) dM uz hp ha hc
def l0:H7:=⟨0,0,0,0⟩
def l1:H7:=⟨0,0,1,1⟩
def iR (a b:Int):SD:= .int .i64 a b .no
def s35:Sh.Spec:=⟨41,[.d (.str 1),.d (iR 0 1000000)],[],l0,[(.d (.str 2),[])]⟩
def vV:SV:= .agg none [.d (iR 0 2),.d sI,.d (.str 100)]
def bc8:Sh.Spec:=⟨228,[vV],[],l0,[(.d (.bool .tT),[])]⟩
def aF9:Sh.Spec:=⟨169,[vV],[],l0,[(vV,[])]⟩
def bc6:Sh.Spec:=⟨110,[.d sI],[],l0,[(vV,[])]⟩
def bc7:Sh.Spec:=⟨196,[.d (.str 100)],[],l0,[(vV,[])]⟩
def TW:Sh.Spec:=⟨139,[.ptr 0 0],[.pr 0],l1,[(vV,[.pr 0])]⟩
def TX:Sh.Spec:=⟨140,[.ptr 0 0],[.pr 0],l1,[(vV,[.pr 0])]⟩
def ah8:Sh.Spec:=⟨141,[.d (iR 3 18)],[],l0,[(.d (iR 1 3),[])]⟩
def Xt:List SD:=[iR 0 18,iR 0 2,sI,.str 100,iR 0 100]
def tyS:SV:= .d (.slice none 1 24 [iR 1 2])
def TV (d:Nat)(hi:Nat):Sh.Spec:=⟨93,[.ptr 0 0,.d (iR 1 d),tyS,.d (iR 1 2)],[.pr 0],l1,[(.own 5 (.slice none 1 hi Xt),[.pr 0]),(.d (.slice none 1 hi Xt),[.pr 0])]⟩
def rC4:List SD:=[.str 2,iR 1 2,.str 6,.str 2,.slice none 0 12 [iR 0 3],iR 0 1,iR 0 20]
def ZN:List SD:=[.str 2,.slice none 2 4 rC4,iR 0 1,iR 0 40]
def bI1:Sh.Spec:=⟨94,[.ptr 0 0,tyS,.d (iR 1 3),.d (iR 0 3)],[.pr 0],l1,[(.d (.slice none 1 3 [.str 2,.slice none 1 4 Xt]),[.pr 0])]⟩
def ah7 (n:Nat):Sh.Spec:=⟨97,[.d (.slice none 0 n [iR 0 3]),.d (iR 0 3)],[],l0,[(.d (.slice none 0 (n+1) [iR 0 3]),[]),(.own 1 (.slice none 0 (n+1) [iR 0 3]),[])]⟩
def e0 (n:Nat):SV:= .d (.slice none 0 0 (c9 n .top))
def aw0:SV:= .agg none [.d (.slice none 0 3 ZN),e0 9,e0 3,e0 6,e0 4,e0 3,e0 2,e0 3]
def lC (n:Nat):H7:=⟨1,n,n,1⟩
def rCn:List SD:=[.str 2,iR 1 2,.str 6,.str 2,.slice none 0 0 [iR 0 3],.lit (.int .i64 0),.lit (.int .i64 0)]
def aO4:SV:= .agg none (rCn.map .d)
def bJ2:SV:= .agg none [.d (.str 2),.d (.slice none 0 0 (c9 7 .top)),.d (iR 0 1),.d (iR 0 40)]
def EG (n:Nat):SV:= .own n (.lit (.slice 0 []))
def zC:SO:= .cells none [EG 4,EG 9,EG 3,EG 6,EG 4,EG 3,EG 2,EG 3]
def vC (m:Nat):SO:= .cells (some 0) [.d (.slice none 1 m ZN),e0 9,e0 3,e0 6,e0 4,e0 3,e0 2,e0 3]
def ak2 (n:Nat):SV:= .agg none [.d (.str 2),.B4 4 7 0 n,.d (iR 0 1),.d (iR 0 40)]
def tBo (n:Nat):SO:= .cells none [.d (.str 2),.B4 4 7 0 n,.d (iR 0 1),.d (iR 0 40)]
def Ve (n:Nat):List SV:=(c9 n (rCn.map .d)).flatten
def bs4 (n:Nat):List SV:=(c9 n (rC4.map fun x=>match x with| .slice v lo hi r=>SV.q (.slice v lo hi r)|x=>SV.d x)).flatten
def hN (c:SO)(n:Nat)(q7:List SV):List SO:=[.pr 0,zC,c,tBo n,.cells none q7]
def bc9:Sh.Spec:=⟨42,[.ptr 0 0,aw0,bJ2,.d (iR 0 3)],[.pr 0],lC 1,[(aO4,[.pr 0])]⟩
def ah9 (c:SO)(n:Nat):Sh.Spec:=⟨42,[.ptr 0 0,aw0,ak2 n,.d (iR 0 3)],hN c n (Ve n),lC 5,[(aO4,hN c n (Ve n))]⟩
def bc5 (c:SO)(n:Nat):Sh.Spec:=⟨96,[ak2 n],hN c n (Ve n),⟨0,5,5,1⟩,[(.d (.slice none 0 n [iR 0 3]),hN c n (Ve n))]⟩
def s78 (c:SO)(n:Nat):Sh.Spec:=⟨43,[.ptr 0 0,aw0,ak2 n],hN c n (Ve n),⟨0,0,5,1⟩,[(ak2 n,hN c n (bs4 n))]⟩
def UU:SV:= .agg (some 0) [.d (.slice none 1 3 ZN),e0 9,e0 3,e0 6,e0 4,e0 3,e0 2,e0 3]
def s33 (n:Nat):Sh.Spec:=⟨14,[.ptr 0 0,.d (.lit (.int .i64 n))],[.pr 0],l1,[(UU,[.pr 0])]⟩
def lF:r9:=⟨[⟨[116,48],[⟨[99,48],1,[112,101,114,115,111,110],[],[],0,0⟩,⟨[99,49],2,[],[],[0],0,0⟩],0,0⟩],[],[],[],[],[],[],[]⟩
theorem aC5:L6 lF=true:=have _:Inhabited tO:=inferInstance;by kernel_rfl
def aC4:J7 lF:=by
 have _:Inhabited tO:=inferInstance;refine ⟨⟨by simp [r9.oB,lF],?_,?_⟩,?_,?_,?_,?_,?_,?_,?_⟩
 .intro n hn
  have:n=0:=by simp [lF] at hn;omega
  subst this;simp [lF,nth]
 .intro n i hn hi
  have:n=0:=by simp [lF] at hn;omega
  subst this;have hi:i<2:=by simpa [lF,nth] using hi
  match i,hi with
  |0,_=>simp [lF,nth]
  |1,_=>simp [lF,nth]
 .intro k hk;simp [lF] at hk
 .intro k hk;simp [lF] at hk
 .intro k hk;simp [lF] at hk
 .intro k hk;simp [lF] at hk
 .intro k i hk;simp [lF] at hk
 .intro k i hk;simp [lF] at hk
 .intro k hk;simp [lF] at hk
def an0:Fact:=fun k ds=>s7 k 0&&Sh.wJ ds lF.enc
def Vs (xs:List Int)(g:r9):An (bE xs g) an0:=fun k ds h=>by
 simp only [an0,c7] at h;have h1:=e8 h.1;have h2:=Sh.GI _ _ h.2;subst h1 h2;exact ⟨lF,rfl,aC5,aC4⟩
section
variable {xs:List Int} (hx:xs.length<=35184372088832) (g:r9)
include hx
theorem o35:s35.ok (bE xs g) A:=dc hx (l:=[]) (kp:=[]) (js:=[]) .nil rfl rfl (by kernel_rfl)
theorem bB5:bc8.ok (bE xs g) A:=dc hx (l:=[]) (kp:=[]) (js:=[]) .nil rfl rfl (by kernel_rfl)
theorem aV1:aF9.ok (bE xs g) A:=dc hx (l:=[bc8]) (kp:=[]) (js:=[]) (.cons (bB5 hx g) .nil) rfl rfl (by kernel_rfl)
theorem bB3:bc6.ok (bE xs g) A:=dc hx (l:=[aF9]) (kp:=[]) (js:=[]) (.cons (aV1 hx g) .nil) rfl rfl (by kernel_rfl)
theorem bB4:bc7.ok (bE xs g) A:=dc hx (l:=[aF9]) (kp:=[]) (js:=[]) (.cons (aV1 hx g) .nil) rfl rfl (by kernel_rfl)
theorem WH:TW.ok (bE xs g) A:=dc hx (l:=[bc6]) (kp:=[]) (js:=[]) (.cons (bB3 hx g) .nil) rfl rfl (by kernel_rfl)
theorem WI:TX.ok (bE xs g) A:=dc hx (l:=[bc7]) (kp:=[]) (js:=[]) (.cons (bB4 hx g) .nil) rfl rfl (by kernel_rfl)
theorem aD3:ah8.ok (bE xs g) A:=dc hx (l:=[]) (kp:=[]) (js:=[]) .nil rfl rfl (by kernel_rfl)
theorem aU7:(TV 1 1).ok (bE xs g) A:=dc hx (l:=[TW,TX]) (kp:=[]) (js:=[]) (.cons (WH hx g) (.cons (WI hx g) .nil)) rfl rfl (by kernel_rfl)
theorem WG:(TV 2 4).ok (bE xs g) A:=dc hx (l:=[TW,TX,ah8,TV 1 1]) (kp:=[]) (js:=[1]) (.cons (WH hx g) (.cons (WI hx g) (.cons (aD3 hx g) (.cons (aU7 hx g) .nil)))) rfl rfl (by kernel_rfl)
theorem aU8:(TV 3 13).ok (bE xs g) A:=dc hx (l:=[TW,TX,ah8,TV 2 4]) (kp:=[]) (js:=[1]) (.cons (WH hx g) (.cons (WI hx g) (.cons (aD3 hx g) (.cons (WG hx g) .nil)))) rfl rfl (by kernel_rfl)
theorem bB1:bI1.ok (bE xs g) A:=dc hx (l:=[s35,TV 2 4]) (kp:=[]) (js:=[]) (.cons (o35 hx g) (.cons (WG hx g) .nil)) rfl rfl (by kernel_rfl)
theorem aD2 (n:Nat)(h:n=2\/n=3\/n=4):(ah7 n).ok (bE xs g) A:=by
 rcases h with rfl|rfl|rfl<;>exact dc hx (l:=[]) (kp:=[3]) (js:=[]) .nil rfl rfl (by kernel_rfl)
theorem bB6:bc9.ok (bE xs g) A:=dc hx (l:=[s35]) (kp:=[]) (js:=[]) (.cons (o35 hx g) .nil) rfl rfl (by kernel_rfl)
theorem aD4 (c:SO)(n:Nat)(h:n=1\/n=2\/n=3)(hc:c=zC\/c=vC 1\/c=vC 2):(ah9 c n).ok (bE xs g) A:=by
 rcases h with rfl|rfl|rfl<;>rcases hc with rfl|rfl|rfl<;>exact dc hx (l:=[s35]) (kp:=[]) (js:=[]) (.cons (o35 hx g) .nil) rfl rfl (by kernel_rfl)
theorem bB2 (c:SO)(n:Nat)(h:n=2\/n=3\/n=4)(hc:c=zC\/c=vC 1\/c=vC 2):(bc5 c n).ok (bE xs g) A:=by
 rcases h with rfl|rfl|rfl<;>rcases hc with rfl|rfl|rfl<;>exact dc hx (l:=[]) (kp:=[]) (js:=[]) .nil rfl rfl (by kernel_rfl)
theorem o78 (c:SO)(n:Nat)(h:n=2\/n=3\/n=4)(hc:c=zC\/c=vC 1\/c=vC 2):(s78 c n).ok (bE xs g) A:=by
 have hl:rN (bE xs g) [bc5 c n,ah7 2,ah7 3,ah7 4]:= .cons (bB2 hx g c n h hc) (.cons (aD2 hx g 2 (by simp)) (.cons (aD2 hx g 3 (by simp)) (.cons (aD2 hx g 4 (by simp)) .nil)))
 rcases h with rfl|rfl|rfl<;>rcases hc with rfl|rfl|rfl<;>exact dc hx (kp:=[]) (js:=[]) hl rfl rfl (by kernel_rfl)
def aG9:List Sh.Spec:=[s35,bc9]++[zC,vC 1,vC 2].flatMap fun c=>[ah9 c 1,ah9 c 2,ah9 c 3,s78 c 2,s78 c 3,s78 c 4]
def Uh:rN (bE xs g) aG9:=by
 refine .cons (o35 hx g) (.cons (bB6 hx g) ?_);intro s hs;obtain ⟨c,hc,h⟩:=List.mem_flatMap.1 hs;have hc:c=zC\/c=vC 1\/c=vC 2:=by simpa using hc
 simp only [B8,List.not_mem_nil,or_false] at h
 rcases h with rfl|rfl|rfl|rfl|rfl|rfl
 .exact aD4 hx g c 1 (by simp) hc
 .exact aD4 hx g c 2 (by simp) hc
 .exact aD4 hx g c 3 (by simp) hc
 .exact o78 hx g c 2 (by simp) hc
 .exact o78 hx g c 3 (by simp) hc
 .exact o78 hx g c 4 (by simp) hc
theorem o33:(s33 3).ok (bE xs g) A:=uO (kp:=[]) (js:=[]) (fuel:=40) (zZ hx (Uh hx g)) (Vs xs g) (JF xs g _ _) rfl rfl (by kernel_rfl)
end
end Go.Proofs.YtibjocmpkoepoaaGreat


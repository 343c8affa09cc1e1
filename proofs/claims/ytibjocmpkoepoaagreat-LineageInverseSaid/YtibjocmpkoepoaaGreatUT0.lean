import Derived.Test.YtibjocmpkoepoaaGreatUS0
import Derived.Test.YtibjocmpkoepoaaGreatUX0
set_option linter.all false
open Bool renaming and_eq_true → c7, false_eq_true → j3
open List renaming map_cons → F4, mem_cons → B4, mem_singleton → q6, replicate → c9, take_of_length_le → B5
open Nat renaming beq → s7, eq_of_beq_eq_true → j4, zero_le → I7
namespace Go.x9.S
section
variable {A:Prog} {l:F2} {b:Nat}
variable {dr:Bool} {j9 ops:List p6} {T:List c8} {H:o9} {n:Nat} {rl:List c8} {o7:List Touch} {Q:List c8->o9->List c8->Prop}
def bq {op:BinOp}{a c r:Data}(h:J8 op a c=some r){x y:y6}{u:List Nat}(h2:Ry A l b dr j9 ops T H (n+1) (.d r::rl) o7 Q)(hx:rq T n rl x= .d a:=by rfl)(hy:rq T n rl y= .d c:=by rfl) :
  Ry A l b dr j9 (⟨.bin op x y,none,none,u⟩::ops) T H n rl o7 Q:=Ry.pure (rs:=[]) rfl (by simp only [n9,hx,hy,h]) h2
def ci {k k' :IntKind}{c d:Int}(h:k.wrap c=d){x:y6}{u:List Nat}(h2:Ry A l b dr j9 ops T H (n+1) (.d (.int k d)::rl) o7 Q)(hx:rq T n rl x= .d (.int k' c):=by rfl) :
  Ry A l b dr j9 (⟨.mP k x,none,none,u⟩::ops) T H n rl o7 Q:=Ry.pure (rs:=[]) rfl (by simp only [n9,hx,h]) h2
end
end Go.x9.S
namespace Go.Proofs.YtibjocmpkoepoaaGreat
open Go.x9 Go.x9.S
attribute [local irreducible] Rx Ry Rn Ex Pf
def tp (xs:List Int)(p:Nat):u0:= .cells [.d (z8 (fun n=>[num n]) xs),.d (num (p:Int))]
def Vf (z:Int){n:Int}(h2:2<=n)(h3:n<=1000000):∃ r q:Int,J8 .rem (.int .i64 z) (.int .i64 n)=some (.int .i64 q)/\ -n<q/\q<n/\J8 .rem (.int .i64 (q+n)) (.int .i64 n)=some (.int .i64 r)/\0<=r/\r<n:=by
 have h1:=Int.tmod_lt_of_pos z (show 0<n by omega);have h4: -n<z.tmod n:=by
  by_cases hz:z<0
  .have e:z.tmod n= -((-z).tmod n):=by rw [<- Int.neg_tmod,Int.neg_neg]
   have:=Int.tmod_lt_of_pos (-z) (show 0<n by omega);omega
  .have:=Int.tmod_nonneg (a:=z) n (by omega)
   omega
 have h5:=Int.tmod_lt_of_pos (z.tmod n+n) (show 0<n by omega);have h6:=Int.tmod_nonneg (a:=z.tmod n+n) n (by omega);refine ⟨(z.tmod n+n).tmod n,z.tmod n,?_,h4,h1,?_,h6,h5⟩
 .simp [J8,U6,ak];omega
 .simp [J8,U6,ak];omega
def aG3 (xs:List Int)(i0:Nat)(pre:List u0)(hi0:(i0=0/\pre=[])\/(∃ o0,i0=1/\pre=[tp xs o0]))(p:Nat)(n:Int)(l:F2)(hx:xs.length<=35184372088832)(hp:p<=4 * xs.length)(hn:n<=1000000)(hl:l.may i0=true) :
  Pq A 22 [.ptr i0 0,.d (num n)] (pre++[tp xs p]) l fun v H1=>∃ (r:Int) (q:Nat),v= .d (num r)/\0<=r/\(2<=n->r<n)/\(n<2->r=0)/\q<=4 * xs.length/\H1=pre++[tp xs q]:=by
 have h0: -9223372036854775808<=(4:Int) * xs.length/\(4:Int) * xs.length<9223372036854775808:=by omega
 rcases hi0 with ⟨rfl,rfl⟩|⟨o0,rfl,rfl⟩
 .show Pq A 22 _ [.cells [.d (z8 (fun n=>[num n]) xs),.d (num (p:Int))]] _ _
  refine Pq.run (b:=1) [.ptr 0 0,.d (num n),.any,.any,.any] rfl rfl rfl rfl rfl ?_;refine gr ?_;refine tB (F0 n 2||(s8 xs.length 0||ah (4 * xs.length) p)) ?_ (fun h=> ?_) (fun h=> ?_)
  .repeat' (first|refine mu ?_ h0|refine gx ?_|refine fk (h1:=fun hw=> ?_) (h2:=fun hw=> ?_)|refine R8 (h1:=fun hw=> ?_) (h2:=fun hw=> ?_)|refine ⟨rfl,rfl,_,rfl,?_⟩|refine ⟨rfl,rfl⟩|fail)
   all_goals exact cc
  .refine gr ?_
   refine ⟨_,_,rfl,0,p,rfl,Int.le_refl _,fun h=>by omega,fun _=>rfl,hp,rfl⟩
  have h' :=h;simp [y3,s9,o6] at h';obtain ⟨h1,h2,h3⟩:=h';have hlen:0<xs.length:=by
   rcases Nat.eq_zero_or_pos xs.length with e|e
   .exact absurd (List.eq_nil_of_length_eq_zero e) h2
   .exact e
  obtain ⟨i,hi,hb⟩:∃ i:Nat,i<xs.length/\J8 .rem (.int .i64 (p:Int)) (.int .i64 (xs.length:Int))=some (.int .i64 (i:Int)) :=
   ⟨p % xs.length,Nat.mod_lt _ hlen,by simp [J8,U6,ak];exact ⟨by omega,rfl⟩⟩
  obtain ⟨s,hs,hq⟩:∃ s:Nat,s<=4/\J8 .quo (.int .i64 (p:Int)) (.int .i64 (xs.length:Int))=some (.int .i64 (s:Int)):=by
   have hd:p / xs.length<=4:=Nat.div_le_of_le_mul (by rw [Nat.mul_comm];exact hp);have e:(p:Int).tdiv xs.length=((p / xs.length:Nat):Int):=rfl;generalize p / xs.length=s at hd e;refine ⟨s,hd,?_⟩;have hne:¬ (xs.length:Int)=0:=by omega
   simp only [J8,U6,j3,if_false,if_true,ak,e,hne];have e2:IntKind.wrap .i64 (s:Int)=s:=Go.x9.wrap_small (by omega) (by omega);exact congrArg (fun z=>some (Data.int IntKind.i64 z)) e2
  repeat' (first|refine bq hb ?_|refine gx ?_|fail)
  repeat' (first|refine bq hq ?_|refine gx ?_|fail)
  refine Ex.MZ (fun st=>∃ z:Int,st=⟨[.ptr 0 0,.d (num n),.d (num 0),.d (num z),.d (num (s:Int))],[.cells [.d (z8 (fun n=>[num n]) xs),.d (num (p:Int))]]⟩) ?_ ?_
  .have hc:IntKind.wrap .u64 (s:Int)=(s:Int):=by
    match s,hs with
    |0,_=>rfl
    |1,_=>rfl
    |2,_=>rfl
    |3,_=>rfl
    |4,_=>rfl
    |s+5,h=>omega
   have hsh:J8 .shr (.int .i64 (nth xs i)) (.int .u64 (s:Int))=some (.int .i64 ((nth xs i).fdiv (2 ^ (min s 64)))):=by simp [J8,U6,su];rfl
   obtain ⟨z,hz⟩:∃ z,J8 .xor (.int .i64 ((nth xs i).fdiv (2 ^ (min s 64)))) (.int .i64 (s:Int))=some (.int .i64 z):=⟨_,by simp [J8,U6,ak];rfl⟩;refine tb (F0 0 s) (fun g=> ?_) (fun g=> ?_)
   .repeat' (first|refine ci hc ?_|refine bq hsh ?_|refine bq hz ?_|refine gx ?_|fail)
    exact ⟨_,rfl⟩
   .refine gr ?_
    exact ⟨_,rfl⟩
  .rintro _ ⟨z,rfl⟩
   obtain ⟨r,q,r1,r2,r3,r4,r5,r6⟩:=Vf z (show 2<=n by omega) hn;refine gr ?_;refine so1 (hl:=hl) (hb:=I7 _) (hq:=Nat.lt_succ_self 1) (h2:= ?_)
   repeat' (first|refine bq r1 ?_|refine bq r4 ?_|refine gx ?_|fail)
   refine ⟨_,_,rfl,r,p+1,rfl,r5,fun _=>r6,fun h=>by omega,by omega,?_⟩;rfl
 .show Pq A 22 _ [tp xs o0,.cells [.d (z8 (fun n=>[num n]) xs),.d (num (p:Int))]] _ _
  refine Pq.run (b:=2) [.ptr 1 0,.d (num n),.any,.any,.any] rfl rfl rfl rfl rfl ?_;refine gr ?_;refine tB (F0 n 2||(s8 xs.length 0||ah (4 * xs.length) p)) ?_ (fun h=> ?_) (fun h=> ?_)
  .repeat' (first|refine mu ?_ h0|refine gx ?_|refine fk (h1:=fun hw=> ?_) (h2:=fun hw=> ?_)|refine R8 (h1:=fun hw=> ?_) (h2:=fun hw=> ?_)|refine ⟨rfl,rfl,_,rfl,?_⟩|refine ⟨rfl,rfl⟩|fail)
   all_goals exact cc
  .refine gr ?_
   refine ⟨_,_,rfl,0,p,rfl,Int.le_refl _,fun h=>by omega,fun _=>rfl,hp,rfl⟩
  have h' :=h;simp [y3,s9,o6] at h';obtain ⟨h1,h2,h3⟩:=h';have hlen:0<xs.length:=by
   rcases Nat.eq_zero_or_pos xs.length with e|e
   .exact absurd (List.eq_nil_of_length_eq_zero e) h2
   .exact e
  obtain ⟨i,hi,hb⟩:∃ i:Nat,i<xs.length/\J8 .rem (.int .i64 (p:Int)) (.int .i64 (xs.length:Int))=some (.int .i64 (i:Int)) :=
   ⟨p % xs.length,Nat.mod_lt _ hlen,by simp [J8,U6,ak];exact ⟨by omega,rfl⟩⟩
  obtain ⟨s,hs,hq⟩:∃ s:Nat,s<=4/\J8 .quo (.int .i64 (p:Int)) (.int .i64 (xs.length:Int))=some (.int .i64 (s:Int)):=by
   have hd:p / xs.length<=4:=Nat.div_le_of_le_mul (by rw [Nat.mul_comm];exact hp);have e:(p:Int).tdiv xs.length=((p / xs.length:Nat):Int):=rfl;generalize p / xs.length=s at hd e;refine ⟨s,hd,?_⟩;have hne:¬ (xs.length:Int)=0:=by omega
   simp only [J8,U6,j3,if_false,if_true,ak,e,hne];have e2:IntKind.wrap .i64 (s:Int)=s:=Go.x9.wrap_small (by omega) (by omega);exact congrArg (fun z=>some (Data.int IntKind.i64 z)) e2
  repeat' (first|refine bq hb ?_|refine gx ?_|fail)
  repeat' (first|refine bq hq ?_|refine gx ?_|fail)
  refine Ex.MZ (fun st=>∃ z:Int,st=⟨[.ptr 1 0,.d (num n),.d (num 0),.d (num z),.d (num (s:Int))],[tp xs o0,.cells [.d (z8 (fun n=>[num n]) xs),.d (num (p:Int))]]⟩) ?_ ?_
  .have hc:IntKind.wrap .u64 (s:Int)=(s:Int):=by
    match s,hs with
    |0,_=>rfl
    |1,_=>rfl
    |2,_=>rfl
    |3,_=>rfl
    |4,_=>rfl
    |s+5,h=>omega
   have hsh:J8 .shr (.int .i64 (nth xs i)) (.int .u64 (s:Int))=some (.int .i64 ((nth xs i).fdiv (2 ^ (min s 64)))):=by simp [J8,U6,su];rfl
   obtain ⟨z,hz⟩:∃ z,J8 .xor (.int .i64 ((nth xs i).fdiv (2 ^ (min s 64)))) (.int .i64 (s:Int))=some (.int .i64 z):=⟨_,by simp [J8,U6,ak];rfl⟩;refine tb (F0 0 s) (fun g=> ?_) (fun g=> ?_)
   .repeat' (first|refine ci hc ?_|refine bq hsh ?_|refine bq hz ?_|refine gx ?_|fail)
    exact ⟨_,rfl⟩
   .refine gr ?_
    exact ⟨_,rfl⟩
  .rintro _ ⟨z,rfl⟩
   obtain ⟨r,q,r1,r2,r3,r4,r5,r6⟩:=Vf z (show 2<=n by omega) hn;refine gr ?_;refine so1 (hl:=hl) (hb:=I7 _) (hq:=Nat.lt_succ_self 1) (h2:= ?_)
   repeat' (first|refine bq r1 ?_|refine bq r4 ?_|refine gx ?_|fail)
   refine ⟨_,_,rfl,r,p+1,rfl,r5,fun _=>r6,fun h=>by omega,by omega,?_⟩;rfl
end Go.Proofs.YtibjocmpkoepoaaGreat
namespace Go.Proofs.YtibjocmpkoepoaaGreat
open Go.x9 Go.x9.S Go.x9.Sh
attribute [local irreducible] Rx Ry Rn Ex Pf
def sI:SD:= .int .i64 (-9223372036854775808) 9223372036854775807 .no
def sS:SD:= .str 1000
def sL (n:Nat)(r:List SD):SD:= .slice none 0 n r
def Za:List SD:=[sI,sI,sI,sS,sI]
def aK5:List SD:=[sS,sI,sS,sS,sL 100 [sI],sI,sI]
def aK7:List SD:=[sS,sL 100 aK5,sI,sI]
def aK6:List SD:=[sS,sL 100 Za]
def aK2:List SD:=[sS,sI,sL 100 Za]
def rVw:List SD:=[sS,sI,sS,sS,sL 100 [sI,sI],sL 100 Za,sL 100 aK6,.bool .uy,sL 100 aK2]
def sZ (n:Nat):SD:=sL 0 (c9 n .top)
def aK4:List SD:=[sL 100 aK7,sL 100 rVw,sZ 3,sZ 6,sZ 4,sZ 3,sZ 2,sZ 3]
section
variable {C:Ctx} {vs:List Nat}
def dI {d:x9.Data}(h:sI.g C vs d):∃ n,d=num n:=by
 unfold sI at h;simp only [SD.g] at h;obtain ⟨n,rfl,_⟩:=h;exact ⟨n,rfl⟩
def dS {d:x9.Data}(h:sS.g C vs d):∃ s:L3,d= .str s:=by
 unfold sS at h;simp only [SD.g] at h;obtain ⟨n,rfl,_⟩:=h;exact ⟨n,rfl⟩
def dB {d:x9.Data}(h:(SD.bool .uy).g C vs d):∃ b,d= .bool b:=by
 simp only [SD.g] at h;obtain ⟨n,rfl,_⟩:=h;exact ⟨n,rfl⟩
def dL {α:Type}{enc:α->List x9.Data}{P:α->Prop}{row:List SD}(hr:∀ r,L1.g C vs row r->∃ a,r=enc a/\P a){n:Nat}{d:x9.Data}(h:(sL n row).g C vs d):∃ l:List α,d=z8 enc l/\l.length<=n/\∀ a,a ∈ l->P a:=by
 unfold sL at h;simp only [SD.g] at h;obtain ⟨rows,rfl,_,h2,_,h4⟩:=h;have key:∀ rows:List (List x9.Data),(∀ r,r ∈ rows->L1.g C vs row r)->∃ l:List α,l.length=rows.length/\rows.flatten=l.flatMap enc/\∀ a,a ∈ l->P a:=by
  intro rows
  induction rows with
  |nil=>intro _;exact ⟨[],rfl,rfl,by simp⟩
  |cons r rs ih =>
   intro h;obtain ⟨a,ha,hok⟩:=hr r (h r (by simp));obtain ⟨l,h1,h2,h3⟩:=ih (fun r hr' =>h r (by simp [hr']));refine ⟨a::l,by simp [h1],by simp [h2,ha],?_⟩;intro b hb
   rcases B4.1 hb with rfl|hb
   .exact hok
   .exact h3 b hb
 obtain ⟨l,h1,Yd,h3⟩:=key rows h4;exact ⟨l,by rw [z8,h1,Yd],by omega,h3⟩
def s1 {a:SD}{ds:List x9.Data}(h:L1.g C vs [a] ds):∃ x,ds=[x]/\a.g C vs x:=by
 simp only [L1.g] at h;obtain ⟨x,_,rfl,h1,rfl⟩:=h;exact ⟨x,rfl,h1⟩
theorem sc {a b:SD}{l:List SD}{ds:List x9.Data}(h:L1.g C vs (a::b::l) ds):∃ x xs,ds=x::xs/\a.g C vs x/\L1.g C vs (b::l) xs:=by
 rw [L1.g] at h;exact h
def ai6 (r:List x9.Data)(h:L1.g C vs Za r):∃ a:Y6,r=a.enc/\True:=by
 obtain ⟨x0,_,rfl,h0,h⟩:=sc h;obtain ⟨x1,_,rfl,h1,h⟩:=sc h;obtain ⟨x2,_,rfl,h2,h⟩:=sc h;obtain ⟨x3,_,rfl,h3,h⟩:=sc h;obtain ⟨x4,rfl,h4⟩:=s1 h;obtain ⟨a0,rfl⟩:=dI h0;obtain ⟨a1,rfl⟩:=dI h1;obtain ⟨a2,rfl⟩:=dI h2;obtain ⟨a3,rfl⟩:=dS h3;obtain ⟨a4,rfl⟩:=dI h4;exact ⟨⟨a0,a1,a2,a3,a4⟩,rfl,trivial⟩
def ba9 (r:List x9.Data)(h:L1.g C vs [sI] r):∃ a:Int,r=[num a]/\True:=by
 obtain ⟨x0,rfl,h0⟩:=s1 h;obtain ⟨a0,rfl⟩:=dI h0;exact ⟨a0,rfl,trivial⟩
def az3 (r:List x9.Data)(h:L1.g C vs [sI,sI] r):∃ a:Int×Int,r=[num a.1,num a.2]/\True:=by
 obtain ⟨x0,_,rfl,h0,h⟩:=sc h;obtain ⟨x1,rfl,h1⟩:=s1 h;obtain ⟨a0,rfl⟩:=dI h0;obtain ⟨a1,rfl⟩:=dI h1;exact ⟨(a0,a1),rfl,trivial⟩
def ba8 (r:List x9.Data)(h:L1.g C vs aK5 r):∃ a:aG,r=a.enc/\a.F8.length<=100:=by
 obtain ⟨x0,_,rfl,h0,h⟩:=sc h;obtain ⟨x1,_,rfl,h1,h⟩:=sc h;obtain ⟨x2,_,rfl,h2,h⟩:=sc h;obtain ⟨x3,_,rfl,h3,h⟩:=sc h;obtain ⟨x4,_,rfl,h4,h⟩:=sc h;obtain ⟨x5,_,rfl,h5,h⟩:=sc h;obtain ⟨x6,rfl,h6⟩:=s1 h;obtain ⟨a0,rfl⟩:=dS h0;obtain ⟨a1,rfl⟩:=dI h1;obtain ⟨a2,rfl⟩:=dS h2;obtain ⟨a3,rfl⟩:=dS h3;obtain ⟨a4,rfl,k4,_⟩:=dL ba9 h4;obtain ⟨a5,rfl⟩:=dI h5;obtain ⟨a6,rfl⟩:=dI h6;exact ⟨⟨a0,a1,a2,a3,a4,a5,a6⟩,rfl,k4⟩
def bb1 (r:List x9.Data)(h:L1.g C vs aK7 r):∃ a:mO,r=a.enc/\a.p8.length<=100/\∀ x,x ∈ a.p8->x.F8.length<=100:=by
 obtain ⟨x0,_,rfl,h0,h⟩:=sc h;obtain ⟨x1,_,rfl,h1,h⟩:=sc h;obtain ⟨x2,_,rfl,h2,h⟩:=sc h;obtain ⟨x3,rfl,h3⟩:=s1 h;obtain ⟨a0,rfl⟩:=dS h0;obtain ⟨a1,rfl,k1,k2⟩:=dL ba8 h1;obtain ⟨a2,rfl⟩:=dI h2;obtain ⟨a3,rfl⟩:=dI h3;exact ⟨⟨a0,a1,a2,a3⟩,rfl,k1,k2⟩
def bb0 (r:List x9.Data)(h:L1.g C vs aK6 r):∃ a:GL,r=a.enc/\a.expr.length<=100:=by
 obtain ⟨x0,_,rfl,h0,h⟩:=sc h;obtain ⟨x1,rfl,h1⟩:=s1 h;obtain ⟨a0,rfl⟩:=dS h0;obtain ⟨a1,rfl,k1,_⟩:=dL ai6 h1;exact ⟨⟨a0,a1⟩,rfl,k1⟩
def ba6 (r:List x9.Data)(h:L1.g C vs aK2 r):∃ a:Ce,r=a.enc/\a.expr.length<=100:=by
 obtain ⟨x0,_,rfl,h0,h⟩:=sc h;obtain ⟨x1,_,rfl,h1,h⟩:=sc h;obtain ⟨x2,rfl,h2⟩:=s1 h;obtain ⟨a0,rfl⟩:=dS h0;obtain ⟨a1,rfl⟩:=dI h1;obtain ⟨a2,rfl,k1,_⟩:=dL ai6 h2;exact ⟨⟨a0,a1,a2⟩,rfl,k1⟩
structure aS5 (v:Vw):Prop where
 on:v.on.length<=100
 wh:v.wh.length<=100
 items:v.items.length<=100
 Dg:∀ x,x ∈ v.items->x.expr.length<=100
 D4:v.D4.length<=100
 Ql:∀ x,x ∈ v.D4->x.expr.length<=100
def dVw (r:List x9.Data)(h:L1.g C vs rVw r):∃ a:Vw,r=a.enc/\aS5 a:=by
 obtain ⟨x0,_,rfl,h0,h⟩:=sc h;obtain ⟨x1,_,rfl,h1,h⟩:=sc h;obtain ⟨x2,_,rfl,h2,h⟩:=sc h;obtain ⟨x3,_,rfl,h3,h⟩:=sc h;obtain ⟨x4,_,rfl,h4,h⟩:=sc h;obtain ⟨x5,_,rfl,h5,h⟩:=sc h;obtain ⟨x6,_,rfl,h6,h⟩:=sc h;obtain ⟨x7,_,rfl,h7,h⟩:=sc h;obtain ⟨x8,rfl,h8⟩:=s1 h;obtain ⟨a0,rfl⟩:=dS h0;obtain ⟨a1,rfl⟩:=dI h1;obtain ⟨a2,rfl⟩:=dS h2;obtain ⟨a3,rfl⟩:=dS h3;obtain ⟨a4,rfl,k4,_⟩:=dL az3 h4;obtain ⟨a5,rfl,k5,_⟩:=dL ai6 h5;obtain ⟨a6,rfl,k6,j6⟩:=dL bb0 h6;obtain ⟨a7,rfl⟩:=dB h7;obtain ⟨a8,rfl,k8,j8⟩:=dL ba6 h8;exact ⟨⟨a0,a1,a2,a3,a4,a5,a6,a7,a8⟩,rfl,k4,k5,k6,j6,k8,j8⟩
def dZ {α:Type}{enc:α->List x9.Data}{n:Nat}{d:x9.Data}(h:(sZ n).g C vs d):d=z8 enc []:=by
 unfold sZ sL at h;simp only [SD.g] at h;obtain ⟨rows,rfl,_,h2,_⟩:=h;obtain rfl:rows=[]:=List.length_eq_zero_iff.1 (by omega);rfl
def ba7 (r:List x9.Data)(h:L1.g C vs aK4 r):∃ c:y5,r=c.enc/\O4 c:=by
 obtain ⟨x0,_,rfl,h0,h⟩:=sc h;obtain ⟨x1,_,rfl,h1,h⟩:=sc h;obtain ⟨x2,_,rfl,h2,h⟩:=sc h;obtain ⟨x3,_,rfl,h3,h⟩:=sc h;obtain ⟨x4,_,rfl,h4,h⟩:=sc h;obtain ⟨x5,_,rfl,h5,h⟩:=sc h;obtain ⟨x6,_,rfl,h6,h⟩:=sc h;obtain ⟨x7,rfl,h7⟩:=s1 h;obtain ⟨a0,rfl,k0,j0⟩:=dL bb1 h0;obtain ⟨a1,rfl,k1,j1⟩:=dL dVw h1;obtain rfl:=dZ (enc:=Qd.enc) h2;obtain rfl:=dZ (enc:=Qi.enc) h3;obtain rfl:=dZ (enc:=Qb.enc) h4;obtain rfl:=dZ (enc:=Qh.enc) h5;obtain rfl:=dZ (enc:=Qj.enc) h6;obtain rfl:=dZ (enc:=PZ.enc) h7;refine ⟨⟨a0,a1,[],[],[],[],[],[]⟩,rfl,⟨⟨by simp;omega,by simp;omega,rfl,rfl,rfl,rfl,rfl,rfl⟩,?_,?_⟩,?_,?_,?_,?_,?_,?_⟩
 .intro k hk;have:=j0 _ (O7 hk);simp only at this ⊢;omega
 .intro k i hk hi;have:=(j0 _ (O7 hk)).2 _ (O7 hi);simp only at this ⊢;omega
 .intro k hk;have:=(j1 _ (O7 hk)).items;simp only at this ⊢;omega
 .intro k hk;have:=(j1 _ (O7 hk)).D4;simp only at this ⊢;omega
 .intro k hk;have:=(j1 _ (O7 hk)).on;simp only at this ⊢;omega
 .intro k hk;have:=(j1 _ (O7 hk)).wh;simp only at this ⊢;omega
 .intro k i hk hi;have:=(j1 _ (O7 hk)).Dg _ (O7 hi);simp only at this ⊢;omega
 .intro k i hk hi;have:=(j1 _ (O7 hk)).Ql _ (O7 hi);simp only at this ⊢;omega
end
structure si where
 w:Nat->u0->Prop
instance:Inhabited si:=⟨⟨fun _ _=>False⟩⟩
variable [Inhabited si]
def cA (xs:List Int)(g:y5):Ctx where
 Ω:=(default:si).w
 Φ k d:=match k with
  |0=>∃ s:L3,d= .str s/\s ∈ y5.sn g
  |1=>∃ i:Nat,d=num i/\i<y5.ns g
  |2=>d=ints xs
  |_=>False
 Θ k cs:=match k with
  |0=>∃ c:y5,cs=c.enc.map .d/\K1 c=true/\O4 c
  |1=>cs=g.enc.map .d
  |_=>False
 Ψ k o:=match k with
  |0=>∃ p,p<=4 * xs.length/\o=tp xs p
  |_=>False
 K5 k o h:=by
  match k,h with
  |0,h=>obtain ⟨p,_,rfl⟩:=h;rfl
def NV (B:jg)(f:FuncId)(x:SD)(l:F2)(i:Nat):Option SV :=
 if s7 f 22&&l.may i then match x.int? B with
  |some (.i64,lo,hi,r)=>if decide (1<=lo)&&decide (hi<=1000000) then some (.d (.int .i64 0 (hi - 1) (match r with| .eq i=> .lt i|_=> .no))) else none
  |_=>none
 else none
def yB:Sh.Sem:=fun B f args H l=>match args,H with
 |[.ptr 0 0,.d x],[.pr 0]=>(NV B f x l 0).map fun v=>[(v,[.pr 0])]
 |[.ptr 1 0,.d x],[.pr 0,.pr 0]=>(NV B f x l 1).map fun v=>[(v,[.pr 0,.pr 0])]
 |_,_=>none
def IC {xs:List Int}(hx:xs.length<=35184372088832){g:y5}{B:jg}{vs:List Nat}(hB:Bg vs B){f:FuncId}{x:SD}{l:F2}{i:Nat}{v:SV}(h:NV B f x l i=some v){d:x9.Data}(h2:x.g (cA xs g) vs d)
  {pre:List u0} (hi:(i=0/\pre=[])\/∃ o0,i=1/\pre=[tp xs o0]) {p:Nat} (hp:p<=4 * xs.length):∃ (w:c8) (q:Nat),v.g (cA xs g) vs w/\q<=4 * xs.length/\Pm A f [.ptr i 0,.d d] (pre++[tp xs p]) l w (pre++[tp xs q]):=by
 unfold NV at h;split at h
 .rename_i hc
  simp only [c7] at hc;have hf:=j4 hc.1;subst hf;split at h
  .rename_i lo hi' r hi?
   split at h
   .rename_i hb
    simp only [c7,decide_eq_true_eq] at hb;cases h;obtain ⟨n,rfl,h3,h4,h5⟩:=SD.iN hB hi? h2;obtain ⟨v,H1,⟨r',q,rfl,r1,r2,r3,hq,rfl⟩,hm⟩:=aG3 xs i pre hi p n l hx hp (by omega) hc.2;refine ⟨_,q,bE ?_,hq,hm⟩;have hr:r' <n:=by
     by_cases h2:2<=n
     .exact r2 h2
     .have:=r3 (by omega);omega
    simp only [SD.g];refine ⟨r',rfl,r1,by omega,?_⟩;split
    .rename_i i
     obtain ⟨m,m1,m2⟩:=h5;exact ⟨m,m1,r1,by omega⟩
    .trivial
   .cases h
  .cases h
 .cases h
def AN (xs:List Int)(hx:xs.length<=35184372088832)(g:y5):gO (cA xs g) A yB:=by
 intro B f args H l outs h vs hB az Hc ha hH;unfold yB at h;split at h
 .rename_i x
  obtain ⟨v,hv,rfl⟩:=Option.map_eq_some_iff.1 h;simp only [y8.g] at ha;obtain ⟨a0,_,rfl,h0,a1,_,rfl,h1,rfl⟩:=ha;simp only [K4.g] at hH;obtain ⟨o,_,rfl,⟨p,hp,rfl⟩,rfl⟩:=hH;have h0:=bu h0;subst h0;obtain ⟨d,rfl,h2⟩:=aL h1;obtain ⟨w,q,hw,hq,hm⟩:=IC hx hB hv h2 (pre:=[]) (.inl ⟨rfl,rfl⟩) hp;refine ⟨_,_,⟨_,q6.2 rfl,hw,?_⟩,hm⟩;simp only [K4.g];exact ⟨_,_,rfl,⟨q,hq,rfl⟩,rfl⟩
 .rename_i x
  obtain ⟨v,hv,rfl⟩:=Option.map_eq_some_iff.1 h;simp only [y8.g] at ha;obtain ⟨a0,_,rfl,h0,a1,_,rfl,h1,rfl⟩:=ha;simp only [K4.g] at hH;obtain ⟨o,_,rfl,⟨p0,hp0,rfl⟩,o',_,rfl,⟨p,hp,rfl⟩,rfl⟩:=hH;have h0:=bu h0;subst h0;obtain ⟨d,rfl,h2⟩:=aL h1;obtain ⟨w,q,hw,hq,hm⟩:=IC hx hB hv h2 (pre:=[tp xs p0]) (.inr ⟨p0,rfl,rfl⟩) hp;refine ⟨_,_,⟨_,q6.2 rfl,hw,?_⟩,hm⟩;simp only [K4.g];exact ⟨_,_,rfl,⟨p0,hp0,rfl⟩,_,_,rfl,⟨q,hq,rfl⟩,rfl⟩
 .cases h
def TE:Lo:=fun ops dr c s=>match ops,dr,c with
 |[⟨.load (some 8) (.slot t),none,none,_⟩,⟨.call f [.loc 0],none,none,_⟩],false,.loc 1=>if s7 f 40 then match s.T[t]? with
   |some (.ptr id 0)=>match s.H[id]? with
    |some (.cells p l)=>if y8.le (fun _ _=>false) s.B (l.map SV.J2) (aK4.map .d) then some ([{ s with H:=s.H.set id (.cells (some 0) l) }],[s]) else none
    |_=>none
   |_=>none
  else none
 |_,_,_=>none
theorem XP {C:Ctx}{vs:List Nat}:∀ {l:List SD} {cs:List c8},y8.g C vs (l.map .d) cs->∃ ds,cs=ds.map .d/\L1.g C vs l ds
 |[],_,h=>by have _:Inhabited si:=inferInstance;simp only [List.map_nil,y8.g] at h;subst h;exact ⟨[],rfl,by simp [L1.g]⟩
 |x::l,_,h=>by
  simp only [F4,y8.g] at h;obtain ⟨a,az,rfl,h1,h2⟩:=h;obtain ⟨d,rfl,h3⟩:=aL h1;obtain ⟨ds,rfl,h4⟩:=XP h2;exact ⟨d::ds,rfl,by simp only [L1.g];exact ⟨_,_,rfl,h3,h4⟩⟩
def zY (xs:List Int)(g:y5)(l:F2)(b:Nat):EG (cA xs g) A l b TE:=by
 intro ops dr c s p q h vs T H hs;unfold TE at h;split at h
 .rename_i t u f u'
  split at h
  .rename_i hf
   have hf:=j4 hf;subst hf;split at h
   .rename_i id e
    split at h
    .rename_i p' l' e2
     split at h
     .rename_i hle
      cases h;obtain ⟨hT,hH,hB⟩:=hs;obtain ⟨a,h1,h2⟩:=y8.get hT e;have h2:=bu h2;subst h2;obtain ⟨o,h3,h4⟩:=K4.get hH e2;obtain ⟨cs,rfl,h5,h6⟩:=h4;have h7:=y8.map (C:=cA xs g) (vs:=vs) (fun _ _=>SV.qt) h5;obtain ⟨ds,e3,h8⟩:=XP (y8.ct hB (C:=cA xs g) (fact:=fun _ _=>false) (fun k ds h=>by cases h) _ hle h7);obtain ⟨c,rfl,hc⟩:=ba7 ds h8;have hlen:cs.length=8:=by
       have:=congrArg List.length e3;simpa [y5.enc] using this
      have hR:Rn A l b [⟨.load (some 8) (.slot t),none,none,u⟩,⟨.call 40 [.loc 0],none,none,u'⟩] false T H fun T' H' L=>T' =T/\H' =H/\I5 T' L (.loc 1)= .d (.bool (K1 c)):=by
       refine Rn.text ?_;refine Ry.pure (v:=cat c) (rs:=[id]) rfl ?_ ?_
       .have wM:rq T 0 [] (.slot t)= .ptr id 0:=by simp [rq,opw,h1,c8.J2]
        simp only [n9,wM,rd,h3];rw [if_pos (by omega),List.drop_zero,B5 (by omega)];show some (c8.agg (cs.map c8.J2),[id])=_
        rw [e3];rfl
       .exact cl (ao9 c hc) (nl ⟨rfl,rfl,rfl⟩)
      unfold Rn at hR ⊢;obtain ⟨r,N,⟨r1,r2,r3⟩,hr⟩:=hR;refine ⟨r,N,⟨K1 c,r3,?_⟩,hr⟩;rw [r1,r2];cases hv:K1 c with
      |false=>exact ⟨s,by simp,vs,Le.refl _,hT,hH,hB⟩
      |true =>
       refine ⟨{ s with H:=s.H.set id (.cells (some 0) l') },by simp,vs,Le.refl _,hT,?_,hB⟩;have:=K4.set hH id (a:= .cells (some 0) l') (b:= .cells cs) ⟨cs,rfl,h5,fun k hk=>by
        cases hk;exact ⟨c,e3,hv,hc⟩⟩
       have e4:H.set id (.cells cs)=H:=Z1 h3
       rwa [e4] at this
     .cases h
    .cases h
   .cases h
  .cases h
 .cases h
def ab7:Lo:=fun _ _ _ _=>none
def HW {C:Ctx}{A:x9.Prog}{l:F2}{b:Nat}:EG C A l b ab7:=fun _ _ _ _ _ _ h=>by have _:Inhabited si:=inferInstance;cases h
def qx:Fact:=fun _ _=>false
def gb {C:Ctx}:yQ C qx:=fun _ _ h=>by have _:Inhabited si:=inferInstance;cases h
end Go.Proofs.YtibjocmpkoepoaaGreat
namespace Go.Proofs.YtibjocmpkoepoaaGreat
open Go.x9 Go.x9.S Go.x9.Sh
attribute [local irreducible] Rx Ry Rn Ex Pf
variable [Inhabited si]
def nr (C:Ctx)(l:List Sh.Spec):Prop:=∀ s,s ∈ l->s.ok C A
def nr.nil {C:Ctx}:nr C []:=fun s h=>by have _:Inhabited si:=inferInstance;cases h
def nr.cons {C:Ctx}{s:Sh.Spec}{l:List Sh.Spec}(h:s.ok C A)(hl:nr C l):nr C (s::l):=fun t ht=>by
 have _:Inhabited si:=inferInstance
 rcases B4.1 ht with rfl|ht
 .exact h
 .exact hl t ht
def as8 (l:List Sh.Spec):Sh.Sem:=AO yB (Vr qx l)
def yA {xs:List Int}(hx:xs.length<=35184372088832){g:y5}{l:List Sh.Spec}(h:nr (cA xs g) l):gO (cA xs g) A (as8 l):=oD (AN xs hx g) (Vs gb h)
def eZ {xs:List Int}(hx:xs.length<=35184372088832){g:y5}{l:List Sh.Spec}(h:nr (cA xs g) l){kp js:List Nat}{af:s6}{s:Sh.Spec}(hp:A.cw s.f=none)(ha:A.fn s.f=some af)(hc:as3 A (as8 l) ab7 qx kp js 40 af s=true):s.ok (cA xs g) A :=
 yz (yA hx h) gb HW hp ha hc
def l0:F2:=⟨0,0,0,0⟩
def l1 (p:Nat:=0):F2:=⟨0,0,p+1,p+1⟩
def tH (p:Nat):List SO:=c9 p (.pr 0)++[.pr 0]
def iR (a b:Int):SD:= .int .i64 a b .no
def s35:Sh.Spec:=⟨41,[.d (.str 1),.d (iR 0 1000000)],[],l0,[(.d (.str 2),[])]⟩
def vV:SV:= .agg none [.d (iR 0 2),.d sI,.d (.str 100)]
def aL6:Sh.Spec:=⟨228,[vV],[],l0,[(.d (.bool .uy),[])]⟩
def ar8:Sh.Spec:=⟨169,[vV],[],l0,[(vV,[])]⟩
def aL4:Sh.Spec:=⟨110,[.d sI],[],l0,[(vV,[])]⟩
def aL5:Sh.Spec:=⟨196,[.d (.str 100)],[],l0,[(vV,[])]⟩
def Zf:Sh.Spec:=⟨139,[.ptr 0 0],[.pr 0],l1,[(vV,[.pr 0])]⟩
def Zg:Sh.Spec:=⟨140,[.ptr 0 0],[.pr 0],l1,[(vV,[.pr 0])]⟩
def ar7:Sh.Spec:=⟨141,[.d (iR 3 18)],[],l0,[(.d (iR 1 3),[])]⟩
def rTm:List SD:=[iR 0 18,iR 0 2,sI,.str 100,iR 0 100]
def tyS:SV:= .d (.slice none 1 24 [iR 1 2])
def Ru (d:Nat)(hi:Nat):Sh.Spec:=⟨93,[.ptr 0 0,.d (iR 1 d),tyS,.d (iR 1 2)],[.pr 0],l1,[(.own 5 (.slice none 1 hi rTm),[.pr 0]),(.d (.slice none 1 hi rTm),[.pr 0])]⟩
def rC4:List SD:=[.str 2,iR 1 2,.str 6,.str 2,.slice none 0 12 [iR 0 3],iR 0 1,iR 0 20]
def Xu:List SD:=[.str 2,.slice none 2 4 rC4,iR 0 1,iR 0 40]
def bo6:Sh.Spec:=⟨94,[.ptr 0 0,tyS,.d (iR 1 3),.d (iR 0 3)],[.pr 0],l1,[(.d (.slice none 1 3 [.str 2,.slice none 1 4 rTm]),[.pr 0])]⟩
def ME (n:Nat):Sh.Spec:=⟨97,[.d (.slice none 0 n [iR 0 3]),.d (iR 0 3)],[],l0,[(.d (.slice none 0 (n+1) [iR 0 3]),[]),(.own 1 (.slice none 0 (n+1) [iR 0 3]),[])]⟩
def e0 (n:Nat):SV:= .d (.slice none 0 0 (c9 n .top))
def ai2:SV:= .agg none [.d (.slice none 0 3 Xu),e0 9,e0 3,e0 6,e0 4,e0 3,e0 2,e0 3]
def lC (n:Nat)(p:Nat):F2:=⟨p+1,n+p,n+p,p+1⟩
def rCn:List SD:=[.str 2,iR 1 2,.str 6,.str 2,.slice none 0 0 [iR 0 3],.lit (.int .i64 0),.lit (.int .i64 0)]
def az1:SV:= .agg none (rCn.map .d)
def bp8:SV:= .agg none [.d (.str 2),.d (.slice none 0 0 (c9 7 .top)),.d (iR 0 1),.d (iR 0 40)]
def Ds (n:Nat):SV:= .own n (.lit (.slice 0 []))
def zC:SO:= .cells none [Ds 4,Ds 9,Ds 3,Ds 6,Ds 4,Ds 3,Ds 2,Ds 3]
def vC (m:Nat):SO:= .cells (some 0) [.d (.slice none 1 m Xu),e0 9,e0 3,e0 6,e0 4,e0 3,e0 2,e0 3]
def ZE (n:Nat)(p:Nat):SV:= .agg none [.d (.str 2),.A8 (p+4) 7 0 n,.d (iR 0 1),.d (iR 0 40)]
def tBo (n:Nat)(p:Nat):SO:= .cells none [.d (.str 2),.A8 (p+4) 7 0 n,.d (iR 0 1),.d (iR 0 40)]
def SK (n:Nat):List SV:=(c9 n (rCn.map .d)).flatten
def ba5 (n:Nat):List SV:=(c9 n (rC4.map fun x=>match x with| .slice v lo hi r=>SV.q (.slice v lo hi r)|x=>SV.d x)).flatten
def hN (c:SO)(n:Nat)(p8:List SV)(p:Nat):List SO:=tH p++[zC,c,tBo n p,.cells none p8]
def aL8 (p:Nat):Sh.Spec:=⟨42,[.ptr p 0,ai2,bp8,.d (iR 0 3)],tH p,lC 1 p,[(az1,tH p)]⟩
def Zi (c:SO)(n:Nat)(p:Nat):Sh.Spec:=⟨42,[.ptr p 0,ai2,ZE n p,.d (iR 0 3)],hN c n (SK n) p,lC 5 p,[(az1,hN c n (SK n) p)]⟩
def ar6 (c:SO)(n:Nat)(p:Nat):Sh.Spec:=⟨96,[ZE n p],hN c n (SK n) p,⟨0,p+5,p+5,p+1⟩,[(.d (.slice none 0 n [iR 0 3]),hN c n (SK n) p)]⟩
def s78 (c:SO)(n:Nat)(p:Nat):Sh.Spec:=⟨43,[.ptr p 0,ai2,ZE n p],hN c n (SK n) p,⟨0,0,p+5,p+1⟩,[(ZE n p,hN c n (ba5 n) p)]⟩
def Sx:SV:= .agg (some 0) [.d (.slice none 1 3 Xu),e0 9,e0 3,e0 6,e0 4,e0 3,e0 2,e0 3]
def s33 (n:Nat)(p:Nat:=0):Sh.Spec:=⟨14,[.ptr p 0,.d (.lit (.int .i64 n))],tH p,l1 p,[(Sx,tH p)]⟩
def og:y5:=⟨[⟨[116,48],[⟨[99,48],1,[112,101,114,115,111,110],[],[],0,0⟩,⟨[99,49],2,[],[],[0],0,0⟩],0,0⟩],[],[],[],[],[],[],[]⟩
theorem am8:K1 og=true:=have _:Inhabited si:=inferInstance;by kernel_rfl
def am7:O4 og:=by
 have _:Inhabited si:=inferInstance;refine ⟨⟨by simp [y5.qy,og],?_,?_⟩,?_,?_,?_,?_,?_,?_⟩
 .intro n hn
  have:n=0:=by simp [og] at hn;omega
  subst this;simp [og,nth]
 .intro n i hn hi
  have:n=0:=by simp [og] at hn;omega
  subst this;have hi:i<2:=by simpa [og,nth] using hi
  match i,hi with
  |0,_=>simp [og,nth]
  |1,_=>simp [og,nth]
 .intro k hk;simp [og] at hk
 .intro k hk;simp [og] at hk
 .intro k hk;simp [og] at hk
 .intro k hk;simp [og] at hk
 .intro k i hk;simp [og] at hk
 .intro k i hk;simp [og] at hk
def aa4:Fact:=fun k ds=>s7 k 0&&Sh.uO ds og.enc
def Hw (xs:List Int)(g:y5):yQ (cA xs g) aa4:=fun k ds h=>by
 simp only [aa4,c7] at h;have h1:=j4 h.1;have h2:=Sh.Fg _ _ h.2;subst h1 h2;exact ⟨og,rfl,am8,am7⟩
section
variable {xs:List Int} (hx:xs.length<=35184372088832) (g:y5)
include hx
theorem o35:s35.ok (cA xs g) A:=eZ hx (l:=[]) (kp:=[]) (js:=[]) .nil rfl rfl (by kernel_rfl)
theorem bk6:aL6.ok (cA xs g) A:=eZ hx (l:=[]) (kp:=[]) (js:=[]) .nil rfl rfl (by kernel_rfl)
theorem aF7:ar8.ok (cA xs g) A:=eZ hx (l:=[aL6]) (kp:=[]) (js:=[]) (.cons (bk6 hx g) .nil) rfl rfl (by kernel_rfl)
theorem bk4:aL4.ok (cA xs g) A:=eZ hx (l:=[ar8]) (kp:=[]) (js:=[]) (.cons (aF7 hx g) .nil) rfl rfl (by kernel_rfl)
theorem bk5:aL5.ok (cA xs g) A:=eZ hx (l:=[ar8]) (kp:=[]) (js:=[]) (.cons (aF7 hx g) .nil) rfl rfl (by kernel_rfl)
theorem an4:Zf.ok (cA xs g) A:=eZ hx (l:=[aL4]) (kp:=[]) (js:=[]) (.cons (bk4 hx g) .nil) rfl rfl (by kernel_rfl)
theorem an5:Zg.ok (cA xs g) A:=eZ hx (l:=[aL5]) (kp:=[]) (js:=[]) (.cons (bk5 hx g) .nil) rfl rfl (by kernel_rfl)
theorem aF6:ar7.ok (cA xs g) A:=eZ hx (l:=[]) (kp:=[]) (js:=[]) .nil rfl rfl (by kernel_rfl)
theorem aF3:(Ru 1 1).ok (cA xs g) A:=eZ hx (l:=[Zf,Zg]) (kp:=[]) (js:=[]) (.cons (an4 hx g) (.cons (an5 hx g) .nil)) rfl rfl (by kernel_rfl)
theorem Uw:(Ru 2 4).ok (cA xs g) A:=eZ hx (l:=[Zf,Zg,ar7,Ru 1 1]) (kp:=[]) (js:=[1]) (.cons (an4 hx g) (.cons (an5 hx g) (.cons (aF6 hx g) (.cons (aF3 hx g) .nil)))) rfl rfl (by kernel_rfl)
theorem aF4:(Ru 3 13).ok (cA xs g) A:=eZ hx (l:=[Zf,Zg,ar7,Ru 2 4]) (kp:=[]) (js:=[1]) (.cons (an4 hx g) (.cons (an5 hx g) (.cons (aF6 hx g) (.cons (Uw hx g) .nil)))) rfl rfl (by kernel_rfl)
theorem bk3:bo6.ok (cA xs g) A:=eZ hx (l:=[s35,Ru 2 4]) (kp:=[]) (js:=[]) (.cons (o35 hx g) (.cons (Uw hx g) .nil)) rfl rfl (by kernel_rfl)
theorem Rh (n:Nat)(h:n=2\/n=3\/n=4):(ME n).ok (cA xs g) A:=by
 rcases h with rfl|rfl|rfl<;>exact eZ hx (l:=[]) (kp:=[3]) (js:=[]) .nil rfl rfl (by kernel_rfl)
theorem bk8 (p:Nat)(hp:p=0\/p=1):(aL8 p).ok (cA xs g) A:=by
 rcases hp with rfl|rfl<;>exact eZ hx (l:=[s35]) (kp:=[]) (js:=[]) (.cons (o35 hx g) .nil) rfl rfl (by kernel_rfl)
theorem an6 (p:Nat)(hp:p=0\/p=1)(c:SO)(n:Nat)(h:n=1\/n=2\/n=3)(hc:c=zC\/c=vC 1\/c=vC 2):(Zi c n p).ok (cA xs g) A:=by
 rcases hp with rfl|rfl<;>rcases h with rfl|rfl|rfl<;>rcases hc with rfl|rfl|rfl<;>exact eZ hx (l:=[s35]) (kp:=[]) (js:=[]) (.cons (o35 hx g) .nil) rfl rfl (by kernel_rfl)
theorem aF5 (p:Nat)(hp:p=0\/p=1)(c:SO)(n:Nat)(h:n=2\/n=3\/n=4)(hc:c=zC\/c=vC 1\/c=vC 2):(ar6 c n p).ok (cA xs g) A:=by
 rcases hp with rfl|rfl<;>rcases h with rfl|rfl|rfl<;>rcases hc with rfl|rfl|rfl<;>exact eZ hx (l:=[]) (kp:=[]) (js:=[]) .nil rfl rfl (by kernel_rfl)
theorem bl0 (c:SO)(n:Nat)(h:n=2\/n=3\/n=4)(hc:c=zC\/c=vC 1\/c=vC 2):(s78 c n 0).ok (cA xs g) A:=by
 have hl:nr (cA xs g) [ar6 c n 0,ME 2,ME 3,ME 4]:= .cons (aF5 hx g 0 (by simp) c n h hc) (.cons (Rh hx g 2 (by simp)) (.cons (Rh hx g 3 (by simp)) (.cons (Rh hx g 4 (by simp)) .nil)))
 rcases h with rfl|rfl|rfl<;>rcases hc with rfl|rfl|rfl<;>exact eZ hx (kp:=[]) (js:=[]) hl rfl rfl (by kernel_rfl)
theorem bl1 (c:SO)(n:Nat)(h:n=2\/n=3\/n=4)(hc:c=zC\/c=vC 1\/c=vC 2):(s78 c n 1).ok (cA xs g) A:=by
 have hl:nr (cA xs g) [ar6 c n 1,ME 2,ME 3,ME 4]:= .cons (aF5 hx g 1 (by simp) c n h hc) (.cons (Rh hx g 2 (by simp)) (.cons (Rh hx g 3 (by simp)) (.cons (Rh hx g 4 (by simp)) .nil)))
 rcases h with rfl|rfl|rfl<;>rcases hc with rfl|rfl|rfl<;>exact eZ hx (kp:=[]) (js:=[]) hl rfl rfl (by kernel_rfl)
def o78 (p:Nat)(hp:p=0\/p=1)(c:SO)(n:Nat)(h:n=2\/n=3\/n=4)(hc:c=zC\/c=vC 1\/c=vC 2):(s78 c n p).ok (cA xs g) A:=by
 rcases hp with rfl|rfl
 .exact bl0 hx g c n h hc
 .exact bl1 hx g c n h hc
def at0 (p:Nat):List Sh.Spec:=[s35,aL8 p]++[zC,vC 1,vC 2].flatMap fun c=>[Zi c 1 p,Zi c 2 p,Zi c 3 p,s78 c 2 p,s78 c 3 p,s78 c 4 p]
def DI (p:Nat)(hp:p=0\/p=1):nr (cA xs g) (at0 p):=by
 refine .cons (o35 hx g) (.cons (bk8 hx g p hp) ?_);intro s hs;obtain ⟨c,hc,h⟩:=List.mem_flatMap.1 hs;have hc:c=zC\/c=vC 1\/c=vC 2:=by simpa using hc
 simp only [B4,List.not_mem_nil,or_false] at h
 rcases h with rfl|rfl|rfl|rfl|rfl|rfl
 .exact an6 hx g p hp c 1 (by simp) hc
 .exact an6 hx g p hp c 2 (by simp) hc
 .exact an6 hx g p hp c 3 (by simp) hc
 .exact o78 hx g p hp c 2 (by simp) hc
 .exact o78 hx g p hp c 3 (by simp) hc
 .exact o78 hx g p hp c 4 (by simp) hc
theorem o33:(s33 3).ok (cA xs g) A:=yz (kp:=[]) (js:=[]) (fuel:=40) (yA hx (DI hx g 0 (by simp))) (Hw xs g) (zY xs g _ _) rfl rfl (by kernel_rfl)
theorem bk7:(s33 3 1).ok (cA xs g) A:=yz (kp:=[]) (js:=[]) (fuel:=40) (yA hx (DI hx g 1 (by simp))) (Hw xs g) (zY xs g _ _) rfl rfl (by kernel_rfl)
end
end Go.Proofs.YtibjocmpkoepoaaGreat


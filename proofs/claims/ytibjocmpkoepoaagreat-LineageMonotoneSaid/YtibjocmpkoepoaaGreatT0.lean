import Derived.Test.YtibjocmpkoepoaaGreatS0
import Derived.Test.YtibjocmpkoepoaaGreatX0
set_option linter.all false
open Bool renaming not_eq_true' → o8, and_eq_true → c9, false_eq_true → j5
open List renaming map_cons → E0, mem_cons → y7, mem_singleton → s6, replicate → j4, take_of_length_le → A8
open Nat renaming beq → s7, eq_of_beq_eq_true → j7, zero_le → N6
namespace Go.Abs.S
section
variable {A:Prog} {l:F2} {b:Nat}
variable {dr:Bool} {l6 ops:List p9} {T:List j3} {H:q8} {n:Nat} {rl:List j3} {p6:List Touch} {Q:List j3->q8->List j3->Prop}
def bq {op:BinOp}{a c r:Data}(h:J7 op a c=some r){x y:u9}{u:List Nat}(h2:Ry A l b dr l6 ops T H (n+1) (.d r::rl) p6 Q)(hx:rq T n rl x= .d a:=by rfl)(hy:rq T n rl y= .d c:=by rfl) :
  Ry A l b dr l6 (⟨.bin op x y,none,none,u⟩::ops) T H n rl p6 Q:=Ry.pure (rs:=[]) rfl (by simp only [o6,hx,hy,h]) h2
def ci {k k' :IntKind}{c d:Int}(h:k.wrap c=d){x:u9}{u:List Nat}(h2:Ry A l b dr l6 ops T H (n+1) (.d (.int k d)::rl) p6 Q)(hx:rq T n rl x= .d (.int k' c):=by rfl) :
  Ry A l b dr l6 (⟨.mI k x,none,none,u⟩::ops) T H n rl p6 Q:=Ry.pure (rs:=[]) rfl (by simp only [o6,hx,h]) h2
end
end Go.Abs.S
namespace Go.Proofs.YtibjocmpkoepoaaGreat
open Go.Abs Go.Abs.S
attribute [local irreducible] Rx Ry Rn Ex Pf
def tp (xs:List Int)(p:Nat):x9:= .cells [.d (A5 (fun n=>[num n]) xs),.d (num (p:Int))]
def UN (z:Int){n:Int}(h2:2<=n)(h3:n<=1000000):∃ r q:Int,J7 .rem (.int .i64 z) (.int .i64 n)=some (.int .i64 q)/\ -n<q/\q<n/\J7 .rem (.int .i64 (q+n)) (.int .i64 n)=some (.int .i64 r)/\0<=r/\r<n:=by
 have h1:=Int.tmod_lt_of_pos z (show 0<n by omega);have h4: -n<z.tmod n:=by
  by_cases hz:z<0
  .have e:z.tmod n= -((-z).tmod n):=by rw [<- Int.neg_tmod,Int.neg_neg]
   have:=Int.tmod_lt_of_pos (-z) (show 0<n by omega);omega
  .have:=Int.tmod_nonneg (a:=z) n (by omega)
   omega
 have h5:=Int.tmod_lt_of_pos (z.tmod n+n) (show 0<n by omega);have h6:=Int.tmod_nonneg (a:=z.tmod n+n) n (by omega);refine ⟨(z.tmod n+n).tmod n,z.tmod n,?_,h4,h1,?_,h6,h5⟩
 .simp [J7,U4,aC];omega
 .simp [J7,U4,aC];omega
def NL (xs:List Int)(i0:Nat)(pre:List x9)(hi0:(i0=0/\pre=[])\/(∃ o0,i0=1/\pre=[tp xs o0]))(p:Nat)(n:Int)(l:F2)(hx:xs.length<=35184372088832)(hp:p<=4 * xs.length)(hn:n<=1000000)(hl:l.may i0=true) :
  Pq A 22 [.ptr i0 0,.d (num n)] (pre++[tp xs p]) l fun v H1=>∃ (r:Int) (q:Nat),v= .d (num r)/\0<=r/\(2<=n->r<n)/\(n<2->r=0)/\q<=4 * xs.length/\H1=pre++[tp xs q]:=by
 have h0: -9223372036854775808<=(4:Int) * xs.length/\(4:Int) * xs.length<9223372036854775808:=by omega
 rcases hi0 with ⟨rfl,rfl⟩|⟨o0,rfl,rfl⟩
 .show Pq A 22 _ [.cells [.d (A5 (fun n=>[num n]) xs),.d (num (p:Int))]] _ _
  refine Pq.run (b:=1) [.ptr 0 0,.d (num n),.any,.any,.any] rfl rfl rfl rfl rfl ?_;refine gr ?_;refine tB (F3 n 2||(u0 xs.length 0||aF (4 * xs.length) p)) ?_ (fun h=> ?_) (fun h=> ?_)
  .repeat' (first|refine mu ?_ h0|refine gx ?_|refine fk (h1:=fun hw=> ?_) (h2:=fun hw=> ?_)|refine U0 (h1:=fun hw=> ?_) (h2:=fun hw=> ?_)|refine ⟨rfl,rfl,_,rfl,?_⟩|refine ⟨rfl,rfl⟩|fail)
   all_goals exact cc
  .refine gr ?_
   refine ⟨_,_,rfl,0,p,rfl,Int.le_refl _,fun h=>by omega,fun _=>rfl,hp,rfl⟩
  have h' :=h;simp [z8,y3,o9] at h';obtain ⟨h1,h2,h3⟩:=h';have hlen:0<xs.length:=by
   rcases Nat.eq_zero_or_pos xs.length with e|e
   .exact absurd (List.eq_nil_of_length_eq_zero e) h2
   .exact e
  obtain ⟨i,hi,hb⟩:∃ i:Nat,i<xs.length/\J7 .rem (.int .i64 (p:Int)) (.int .i64 (xs.length:Int))=some (.int .i64 (i:Int)) :=
   ⟨p % xs.length,Nat.mod_lt _ hlen,by simp [J7,U4,aC];exact ⟨by omega,rfl⟩⟩
  obtain ⟨s,hs,hq⟩:∃ s:Nat,s<=4/\J7 .quo (.int .i64 (p:Int)) (.int .i64 (xs.length:Int))=some (.int .i64 (s:Int)):=by
   have hd:p / xs.length<=4:=Nat.div_le_of_le_mul (by rw [Nat.mul_comm];exact hp);have e:(p:Int).tdiv xs.length=((p / xs.length:Nat):Int):=rfl;generalize p / xs.length=s at hd e;refine ⟨s,hd,?_⟩;have hne:¬ (xs.length:Int)=0:=by omega
   simp only [J7,U4,j5,if_false,if_true,aC,e,hne];have e2:IntKind.wrap .i64 (s:Int)=s:=Go.Abs.wrap_small (by omega) (by omega);exact congrArg (fun z=>some (Data.int IntKind.i64 z)) e2
  repeat' (first|refine bq hb ?_|refine gx ?_|fail)
  repeat' (first|refine bq hq ?_|refine gx ?_|fail)
  refine Ex.MB (fun st=>∃ z:Int,st=⟨[.ptr 0 0,.d (num n),.d (num 0),.d (num z),.d (num (s:Int))],[.cells [.d (A5 (fun n=>[num n]) xs),.d (num (p:Int))]]⟩) ?_ ?_
  .have hc:IntKind.wrap .u64 (s:Int)=(s:Int):=by
    match s,hs with
    |0,_=>rfl
    |1,_=>rfl
    |2,_=>rfl
    |3,_=>rfl
    |4,_=>rfl
    |s+5,h=>omega
   have hsh:J7 .shr (.int .i64 (nth xs i)) (.int .u64 (s:Int))=some (.int .i64 ((nth xs i).fdiv (2 ^ (min s 64)))):=by simp [J7,U4,sw];rfl
   obtain ⟨z,hz⟩:∃ z,J7 .xor (.int .i64 ((nth xs i).fdiv (2 ^ (min s 64)))) (.int .i64 (s:Int))=some (.int .i64 z):=⟨_,by simp [J7,U4,aC];rfl⟩;refine tb (F3 0 s) (fun g=> ?_) (fun g=> ?_)
   .repeat' (first|refine ci hc ?_|refine bq hsh ?_|refine bq hz ?_|refine gx ?_|fail)
    exact ⟨_,rfl⟩
   .refine gr ?_
    exact ⟨_,rfl⟩
  .rintro _ ⟨z,rfl⟩
   obtain ⟨r,q,r1,r2,r3,r4,r5,r6⟩:=UN z (show 2<=n by omega) hn;refine gr ?_;refine so1 (hl:=hl) (hb:=N6 _) (hq:=Nat.lt_succ_self 1) (h2:= ?_)
   repeat' (first|refine bq r1 ?_|refine bq r4 ?_|refine gx ?_|fail)
   refine ⟨_,_,rfl,r,p+1,rfl,r5,fun _=>r6,fun h=>by omega,by omega,?_⟩;rfl
 .show Pq A 22 _ [tp xs o0,.cells [.d (A5 (fun n=>[num n]) xs),.d (num (p:Int))]] _ _
  refine Pq.run (b:=2) [.ptr 1 0,.d (num n),.any,.any,.any] rfl rfl rfl rfl rfl ?_;refine gr ?_;refine tB (F3 n 2||(u0 xs.length 0||aF (4 * xs.length) p)) ?_ (fun h=> ?_) (fun h=> ?_)
  .repeat' (first|refine mu ?_ h0|refine gx ?_|refine fk (h1:=fun hw=> ?_) (h2:=fun hw=> ?_)|refine U0 (h1:=fun hw=> ?_) (h2:=fun hw=> ?_)|refine ⟨rfl,rfl,_,rfl,?_⟩|refine ⟨rfl,rfl⟩|fail)
   all_goals exact cc
  .refine gr ?_
   refine ⟨_,_,rfl,0,p,rfl,Int.le_refl _,fun h=>by omega,fun _=>rfl,hp,rfl⟩
  have h' :=h;simp [z8,y3,o9] at h';obtain ⟨h1,h2,h3⟩:=h';have hlen:0<xs.length:=by
   rcases Nat.eq_zero_or_pos xs.length with e|e
   .exact absurd (List.eq_nil_of_length_eq_zero e) h2
   .exact e
  obtain ⟨i,hi,hb⟩:∃ i:Nat,i<xs.length/\J7 .rem (.int .i64 (p:Int)) (.int .i64 (xs.length:Int))=some (.int .i64 (i:Int)) :=
   ⟨p % xs.length,Nat.mod_lt _ hlen,by simp [J7,U4,aC];exact ⟨by omega,rfl⟩⟩
  obtain ⟨s,hs,hq⟩:∃ s:Nat,s<=4/\J7 .quo (.int .i64 (p:Int)) (.int .i64 (xs.length:Int))=some (.int .i64 (s:Int)):=by
   have hd:p / xs.length<=4:=Nat.div_le_of_le_mul (by rw [Nat.mul_comm];exact hp);have e:(p:Int).tdiv xs.length=((p / xs.length:Nat):Int):=rfl;generalize p / xs.length=s at hd e;refine ⟨s,hd,?_⟩;have hne:¬ (xs.length:Int)=0:=by omega
   simp only [J7,U4,j5,if_false,if_true,aC,e,hne];have e2:IntKind.wrap .i64 (s:Int)=s:=Go.Abs.wrap_small (by omega) (by omega);exact congrArg (fun z=>some (Data.int IntKind.i64 z)) e2
  repeat' (first|refine bq hb ?_|refine gx ?_|fail)
  repeat' (first|refine bq hq ?_|refine gx ?_|fail)
  refine Ex.MB (fun st=>∃ z:Int,st=⟨[.ptr 1 0,.d (num n),.d (num 0),.d (num z),.d (num (s:Int))],[tp xs o0,.cells [.d (A5 (fun n=>[num n]) xs),.d (num (p:Int))]]⟩) ?_ ?_
  .have hc:IntKind.wrap .u64 (s:Int)=(s:Int):=by
    match s,hs with
    |0,_=>rfl
    |1,_=>rfl
    |2,_=>rfl
    |3,_=>rfl
    |4,_=>rfl
    |s+5,h=>omega
   have hsh:J7 .shr (.int .i64 (nth xs i)) (.int .u64 (s:Int))=some (.int .i64 ((nth xs i).fdiv (2 ^ (min s 64)))):=by simp [J7,U4,sw];rfl
   obtain ⟨z,hz⟩:∃ z,J7 .xor (.int .i64 ((nth xs i).fdiv (2 ^ (min s 64)))) (.int .i64 (s:Int))=some (.int .i64 z):=⟨_,by simp [J7,U4,aC];rfl⟩;refine tb (F3 0 s) (fun g=> ?_) (fun g=> ?_)
   .repeat' (first|refine ci hc ?_|refine bq hsh ?_|refine bq hz ?_|refine gx ?_|fail)
    exact ⟨_,rfl⟩
   .refine gr ?_
    exact ⟨_,rfl⟩
  .rintro _ ⟨z,rfl⟩
   obtain ⟨r,q,r1,r2,r3,r4,r5,r6⟩:=UN z (show 2<=n by omega) hn;refine gr ?_;refine so1 (hl:=hl) (hb:=N6 _) (hq:=Nat.lt_succ_self 1) (h2:= ?_)
   repeat' (first|refine bq r1 ?_|refine bq r4 ?_|refine gx ?_|fail)
   refine ⟨_,_,rfl,r,p+1,rfl,r5,fun _=>r6,fun h=>by omega,by omega,?_⟩;rfl
end Go.Proofs.YtibjocmpkoepoaaGreat
namespace Go.Proofs.YtibjocmpkoepoaaGreat
open Go.Abs Go.Abs.S Go.Abs.Sh
attribute [local irreducible] Rx Ry Rn Ex Pf
def sI:SD:= .int .i64 (-9223372036854775808) 9223372036854775807 .no
def sS:SD:= .str 1000
def sL (n:Nat)(r:List SD):SD:= .slice none 0 n r
def Yu:List SD:=[sI,sI,sI,sS,sI]
def aF7:List SD:=[sS,sI,sS,sS,sL 100 [sI],sI,sI]
def aF9:List SD:=[sS,sL 100 aF7,sI,sI]
def aF8:List SD:=[sS,sL 100 Yu]
def aF4:List SD:=[sS,sI,sL 100 Yu]
def rVw:List SD:=[sS,sI,sS,sS,sL 100 [sI,sI],sL 100 Yu,sL 100 aF8,.bool .uv,sL 100 aF4]
def sZ (n:Nat):SD:=sL 0 (j4 n .top)
def aF6:List SD:=[sL 100 aF9,sL 100 rVw,sZ 3,sZ 6,sZ 4,sZ 3,sZ 2,sZ 3]
section
variable {C:Ctx} {vs:List Nat}
def dI {d:Abs.Data}(h:sI.g C vs d):∃ n,d=num n:=by
 unfold sI at h;simp only [SD.g] at h;obtain ⟨n,rfl,_⟩:=h;exact ⟨n,rfl⟩
def dS {d:Abs.Data}(h:sS.g C vs d):∃ s:L0,d= .str s:=by
 unfold sS at h;simp only [SD.g] at h;obtain ⟨n,rfl,_⟩:=h;exact ⟨n,rfl⟩
def dB {d:Abs.Data}(h:(SD.bool .uv).g C vs d):∃ b,d= .bool b:=by
 simp only [SD.g] at h;obtain ⟨n,rfl,_⟩:=h;exact ⟨n,rfl⟩
def dL {α:Type}{enc:α->List Abs.Data}{P:α->Prop}{row:List SD}(hr:∀ r,K7.g C vs row r->∃ a,r=enc a/\P a){n:Nat}{d:Abs.Data}(h:(sL n row).g C vs d):∃ l:List α,d=A5 enc l/\l.length<=n/\∀ a,a ∈ l->P a:=by
 unfold sL at h;simp only [SD.g] at h;obtain ⟨rows,rfl,_,h2,_,h4⟩:=h;have key:∀ rows:List (List Abs.Data),(∀ r,r ∈ rows->K7.g C vs row r)->∃ l:List α,l.length=rows.length/\rows.flatten=l.flatMap enc/\∀ a,a ∈ l->P a:=by
  intro rows
  induction rows with
  |nil=>intro _;exact ⟨[],rfl,rfl,by simp⟩
  |cons r rs ih =>
   intro h;obtain ⟨a,ha,hok⟩:=hr r (h r (by simp));obtain ⟨l,h1,h2,h3⟩:=ih (fun r hr' =>h r (by simp [hr']));refine ⟨a::l,by simp [h1],by simp [h2,ha],?_⟩;intro b hb
   rcases y7.1 hb with rfl|hb
   .exact hok
   .exact h3 b hb
 obtain ⟨l,h1,XD,h3⟩:=key rows h4;exact ⟨l,by rw [A5,h1,XD],by omega,h3⟩
def s1 {a:SD}{ds:List Abs.Data}(h:K7.g C vs [a] ds):∃ x,ds=[x]/\a.g C vs x:=by
 simp only [K7.g] at h;obtain ⟨x,_,rfl,h1,rfl⟩:=h;exact ⟨x,rfl,h1⟩
theorem sc {a b:SD}{l:List SD}{ds:List Abs.Data}(h:K7.g C vs (a::b::l) ds):∃ x xs,ds=x::xs/\a.g C vs x/\K7.g C vs (b::l) xs:=by
 rw [K7.g] at h;exact h
def ae9 (r:List Abs.Data)(h:K7.g C vs Yu r):∃ a:Y4,r=a.enc/\True:=by
 obtain ⟨x0,_,rfl,h0,h⟩:=sc h;obtain ⟨x1,_,rfl,h1,h⟩:=sc h;obtain ⟨x2,_,rfl,h2,h⟩:=sc h;obtain ⟨x3,_,rfl,h3,h⟩:=sc h;obtain ⟨x4,rfl,h4⟩:=s1 h;obtain ⟨a0,rfl⟩:=dI h0;obtain ⟨a1,rfl⟩:=dI h1;obtain ⟨a2,rfl⟩:=dI h2;obtain ⟨a3,rfl⟩:=dS h3;obtain ⟨a4,rfl⟩:=dI h4;exact ⟨⟨a0,a1,a2,a3,a4⟩,rfl,trivial⟩
def aP0 (r:List Abs.Data)(h:K7.g C vs [sI] r):∃ a:Int,r=[num a]/\True:=by
 obtain ⟨x0,rfl,h0⟩:=s1 h;obtain ⟨a0,rfl⟩:=dI h0;exact ⟨a0,rfl,trivial⟩
def av9 (r:List Abs.Data)(h:K7.g C vs [sI,sI] r):∃ a:Int×Int,r=[num a.1,num a.2]/\True:=by
 obtain ⟨x0,_,rfl,h0,h⟩:=sc h;obtain ⟨x1,rfl,h1⟩:=s1 h;obtain ⟨a0,rfl⟩:=dI h0;obtain ⟨a1,rfl⟩:=dI h1;exact ⟨(a0,a1),rfl,trivial⟩
def aO9 (r:List Abs.Data)(h:K7.g C vs aF7 r):∃ a:aJ,r=a.enc/\a.F7.length<=100:=by
 obtain ⟨x0,_,rfl,h0,h⟩:=sc h;obtain ⟨x1,_,rfl,h1,h⟩:=sc h;obtain ⟨x2,_,rfl,h2,h⟩:=sc h;obtain ⟨x3,_,rfl,h3,h⟩:=sc h;obtain ⟨x4,_,rfl,h4,h⟩:=sc h;obtain ⟨x5,_,rfl,h5,h⟩:=sc h;obtain ⟨x6,rfl,h6⟩:=s1 h;obtain ⟨a0,rfl⟩:=dS h0;obtain ⟨a1,rfl⟩:=dI h1;obtain ⟨a2,rfl⟩:=dS h2;obtain ⟨a3,rfl⟩:=dS h3;obtain ⟨a4,rfl,k4,_⟩:=dL aP0 h4;obtain ⟨a5,rfl⟩:=dI h5;obtain ⟨a6,rfl⟩:=dI h6;exact ⟨⟨a0,a1,a2,a3,a4,a5,a6⟩,rfl,k4⟩
def aP2 (r:List Abs.Data)(h:K7.g C vs aF9 r):∃ a:mH,r=a.enc/\a.p8.length<=100/\∀ x,x ∈ a.p8->x.F7.length<=100:=by
 obtain ⟨x0,_,rfl,h0,h⟩:=sc h;obtain ⟨x1,_,rfl,h1,h⟩:=sc h;obtain ⟨x2,_,rfl,h2,h⟩:=sc h;obtain ⟨x3,rfl,h3⟩:=s1 h;obtain ⟨a0,rfl⟩:=dS h0;obtain ⟨a1,rfl,k1,k2⟩:=dL aO9 h1;obtain ⟨a2,rfl⟩:=dI h2;obtain ⟨a3,rfl⟩:=dI h3;exact ⟨⟨a0,a1,a2,a3⟩,rfl,k1,k2⟩
def aP1 (r:List Abs.Data)(h:K7.g C vs aF8 r):∃ a:Gp,r=a.enc/\a.expr.length<=100:=by
 obtain ⟨x0,_,rfl,h0,h⟩:=sc h;obtain ⟨x1,rfl,h1⟩:=s1 h;obtain ⟨a0,rfl⟩:=dS h0;obtain ⟨a1,rfl,k1,_⟩:=dL ae9 h1;exact ⟨⟨a0,a1⟩,rfl,k1⟩
def aO7 (r:List Abs.Data)(h:K7.g C vs aF4 r):∃ a:BM,r=a.enc/\a.expr.length<=100:=by
 obtain ⟨x0,_,rfl,h0,h⟩:=sc h;obtain ⟨x1,_,rfl,h1,h⟩:=sc h;obtain ⟨x2,rfl,h2⟩:=s1 h;obtain ⟨a0,rfl⟩:=dS h0;obtain ⟨a1,rfl⟩:=dI h1;obtain ⟨a2,rfl,k1,_⟩:=dL ae9 h2;exact ⟨⟨a0,a1,a2⟩,rfl,k1⟩
structure aO0 (v:Vw):Prop where
 on:v.on.length<=100
 wh:v.wh.length<=100
 items:v.items.length<=100
 CR:∀ x,x ∈ v.items->x.expr.length<=100
 D2:v.D2.length<=100
 Qd:∀ x,x ∈ v.D2->x.expr.length<=100
def dVw (r:List Abs.Data)(h:K7.g C vs rVw r):∃ a:Vw,r=a.enc/\aO0 a:=by
 obtain ⟨x0,_,rfl,h0,h⟩:=sc h;obtain ⟨x1,_,rfl,h1,h⟩:=sc h;obtain ⟨x2,_,rfl,h2,h⟩:=sc h;obtain ⟨x3,_,rfl,h3,h⟩:=sc h;obtain ⟨x4,_,rfl,h4,h⟩:=sc h;obtain ⟨x5,_,rfl,h5,h⟩:=sc h;obtain ⟨x6,_,rfl,h6,h⟩:=sc h;obtain ⟨x7,_,rfl,h7,h⟩:=sc h;obtain ⟨x8,rfl,h8⟩:=s1 h;obtain ⟨a0,rfl⟩:=dS h0;obtain ⟨a1,rfl⟩:=dI h1;obtain ⟨a2,rfl⟩:=dS h2;obtain ⟨a3,rfl⟩:=dS h3;obtain ⟨a4,rfl,k4,_⟩:=dL av9 h4;obtain ⟨a5,rfl,k5,_⟩:=dL ae9 h5;obtain ⟨a6,rfl,k6,j6⟩:=dL aP1 h6;obtain ⟨a7,rfl⟩:=dB h7;obtain ⟨a8,rfl,k8,j8⟩:=dL aO7 h8;exact ⟨⟨a0,a1,a2,a3,a4,a5,a6,a7,a8⟩,rfl,k4,k5,k6,j6,k8,j8⟩
def dZ {α:Type}{enc:α->List Abs.Data}{n:Nat}{d:Abs.Data}(h:(sZ n).g C vs d):d=A5 enc []:=by
 unfold sZ sL at h;simp only [SD.g] at h;obtain ⟨rows,rfl,_,h2,_⟩:=h;obtain rfl:rows=[]:=List.length_eq_zero_iff.1 (by omega);rfl
def aO8 (r:List Abs.Data)(h:K7.g C vs aF6 r):∃ c:y4,r=c.enc/\Q2 c:=by
 obtain ⟨x0,_,rfl,h0,h⟩:=sc h;obtain ⟨x1,_,rfl,h1,h⟩:=sc h;obtain ⟨x2,_,rfl,h2,h⟩:=sc h;obtain ⟨x3,_,rfl,h3,h⟩:=sc h;obtain ⟨x4,_,rfl,h4,h⟩:=sc h;obtain ⟨x5,_,rfl,h5,h⟩:=sc h;obtain ⟨x6,_,rfl,h6,h⟩:=sc h;obtain ⟨x7,rfl,h7⟩:=s1 h;obtain ⟨a0,rfl,k0,j0⟩:=dL aP2 h0;obtain ⟨a1,rfl,k1,j1⟩:=dL dVw h1;obtain rfl:=dZ (enc:=PU.enc) h2;obtain rfl:=dZ (enc:=Qa.enc) h3;obtain rfl:=dZ (enc:=PS.enc) h4;obtain rfl:=dZ (enc:=PZ.enc) h5;obtain rfl:=dZ (enc:=Qb.enc) h6;obtain rfl:=dZ (enc:=PO.enc) h7;refine ⟨⟨a0,a1,[],[],[],[],[],[]⟩,rfl,⟨⟨by simp;omega,by simp;omega,rfl,rfl,rfl,rfl,rfl,rfl⟩,?_,?_⟩,?_,?_,?_,?_,?_,?_⟩
 .intro k hk;have:=j0 _ (S3 hk);simp only at this ⊢;omega
 .intro k i hk hi;have:=(j0 _ (S3 hk)).2 _ (S3 hi);simp only at this ⊢;omega
 .intro k hk;have:=(j1 _ (S3 hk)).items;simp only at this ⊢;omega
 .intro k hk;have:=(j1 _ (S3 hk)).D2;simp only at this ⊢;omega
 .intro k hk;have:=(j1 _ (S3 hk)).on;simp only at this ⊢;omega
 .intro k hk;have:=(j1 _ (S3 hk)).wh;simp only at this ⊢;omega
 .intro k i hk hi;have:=(j1 _ (S3 hk)).CR _ (S3 hi);simp only at this ⊢;omega
 .intro k i hk hi;have:=(j1 _ (S3 hk)).Qd _ (S3 hi);simp only at this ⊢;omega
end
structure xy where
 w:Nat->x9->Prop
instance:Inhabited xy:=⟨⟨fun _ _=>False⟩⟩
variable [Inhabited xy]
def dx (xs:List Int)(g:y4):Ctx where
 Ω:=(default:xy).w
 Φ k d:=match k with
  |0=>∃ s:L0,d= .str s/\s ∈ y4.sn g
  |1=>∃ i:Nat,d=num i/\i<y4.ns g
  |2=>d=ints xs
  |_=>False
 Θ k cs:=match k with
  |0=>∃ c:y4,cs=c.enc.map .d/\N9 c=true/\Q2 c
  |1=>cs=g.enc.map .d
  |_=>False
 Ψ k o:=match k with
  |0=>∃ p,p<=4 * xs.length/\o=tp xs p
  |_=>False
 L7 k o h:=by
  match k,h with
  |0,h=>obtain ⟨p,_,rfl⟩:=h;rfl
def NG (B:jh)(f:FuncId)(x:SD)(l:F2)(i:Nat):Option SV :=
 if s7 f 22&&l.may i then match x.int? B with
  |some (.i64,lo,hi,r)=>if decide (1<=lo)&&decide (hi<=1000000) then some (.d (.int .i64 0 (hi - 1) (match r with| .eq i=> .lt i|_=> .no))) else none
  |_=>none
 else none
def yf:Sh.Sem:=fun B f args H l=>match args,H with
 |[.ptr 0 0,.d x],[.pr 0]=>(NG B f x l 0).map fun v=>[(v,[.pr 0])]
 |[.ptr 1 0,.d x],[.pr 0,.pr 0]=>(NG B f x l 1).map fun v=>[(v,[.pr 0,.pr 0])]
 |_,_=>none
def HW {xs:List Int}(hx:xs.length<=35184372088832){g:y4}{B:jh}{vs:List Nat}(hB:Bg vs B){f:FuncId}{x:SD}{l:F2}{i:Nat}{v:SV}(h:NG B f x l i=some v){d:Abs.Data}(h2:x.g (dx xs g) vs d)
  {pre:List x9} (hi:(i=0/\pre=[])\/∃ o0,i=1/\pre=[tp xs o0]) {p:Nat} (hp:p<=4 * xs.length):∃ (w:j3) (q:Nat),v.g (dx xs g) vs w/\q<=4 * xs.length/\Pm A f [.ptr i 0,.d d] (pre++[tp xs p]) l w (pre++[tp xs q]):=by
 unfold NG at h;split at h
 .rename_i hc
  simp only [c9] at hc;have hf:=j7 hc.1;subst hf;split at h
  .rename_i lo hi' r hi?
   split at h
   .rename_i hb
    simp only [c9,decide_eq_true_eq] at hb;cases h;obtain ⟨n,rfl,h3,h4,h5⟩:=SD.iT hB hi? h2;obtain ⟨v,H1,⟨r',q,rfl,r1,r2,r3,hq,rfl⟩,hm⟩:=NL xs i pre hi p n l hx hp (by omega) hc.2;refine ⟨_,q,bZ ?_,hq,hm⟩;have hr:r' <n:=by
     by_cases h2:2<=n
     .exact r2 h2
     .have:=r3 (by omega);omega
    simp only [SD.g];refine ⟨r',rfl,r1,by omega,?_⟩;split
    .rename_i i
     obtain ⟨m,m1,m2⟩:=h5;exact ⟨m,m1,r1,by omega⟩
    .trivial
   .cases h
  .cases h
 .cases h
def Au (xs:List Int)(hx:xs.length<=35184372088832)(g:y4):gR (dx xs g) A yf:=by
 intro B f args H l outs h vs hB az Hc ha hH;unfold yf at h;split at h
 .rename_i x
  obtain ⟨v,hv,rfl⟩:=Option.map_eq_some_iff.1 h;simp only [y5.g] at ha;obtain ⟨a0,_,rfl,h0,a1,_,rfl,h1,rfl⟩:=ha;simp only [K2.g] at hH;obtain ⟨o,_,rfl,⟨p,hp,rfl⟩,rfl⟩:=hH;have h0:=bu h0;subst h0;obtain ⟨d,rfl,h2⟩:=aP h1;obtain ⟨w,q,hw,hq,hm⟩:=HW hx hB hv h2 (pre:=[]) (.inl ⟨rfl,rfl⟩) hp;refine ⟨_,_,⟨_,s6.2 rfl,hw,?_⟩,hm⟩;simp only [K2.g];exact ⟨_,_,rfl,⟨q,hq,rfl⟩,rfl⟩
 .rename_i x
  obtain ⟨v,hv,rfl⟩:=Option.map_eq_some_iff.1 h;simp only [y5.g] at ha;obtain ⟨a0,_,rfl,h0,a1,_,rfl,h1,rfl⟩:=ha;simp only [K2.g] at hH;obtain ⟨o,_,rfl,⟨p0,hp0,rfl⟩,o',_,rfl,⟨p,hp,rfl⟩,rfl⟩:=hH;have h0:=bu h0;subst h0;obtain ⟨d,rfl,h2⟩:=aP h1;obtain ⟨w,q,hw,hq,hm⟩:=HW hx hB hv h2 (pre:=[tp xs p0]) (.inr ⟨p0,rfl,rfl⟩) hp;refine ⟨_,_,⟨_,s6.2 rfl,hw,?_⟩,hm⟩;simp only [K2.g];exact ⟨_,_,rfl,⟨p0,hp0,rfl⟩,_,_,rfl,⟨q,hq,rfl⟩,rfl⟩
 .cases h
def Tw:KF:=fun ops dr c s=>match ops,dr,c with
 |[⟨.load (some 8) (.slot t),none,none,_⟩,⟨.call f [.loc 0],none,none,_⟩],false,.loc 1=>if s7 f 40 then match s.T[t]? with
   |some (.ptr id 0)=>match s.H[id]? with
    |some (.cells p l)=>if y5.le (fun _ _=>false) s.B (l.map SV.I7) (aF6.map .d) then some ([{ s with H:=s.H.set id (.cells (some 0) l) }],[s]) else none
    |_=>none
   |_=>none
  else none
 |_,_,_=>none
theorem Xo {C:Ctx}{vs:List Nat}:∀ {l:List SD} {cs:List j3},y5.g C vs (l.map .d) cs->∃ ds,cs=ds.map .d/\K7.g C vs l ds
 |[],_,h=>by have _:Inhabited xy:=inferInstance;simp only [List.map_nil,y5.g] at h;subst h;exact ⟨[],rfl,by simp [K7.g]⟩
 |x::l,_,h=>by
  simp only [E0,y5.g] at h;obtain ⟨a,az,rfl,h1,h2⟩:=h;obtain ⟨d,rfl,h3⟩:=aP h1;obtain ⟨ds,rfl,h4⟩:=Xo h2;exact ⟨d::ds,rfl,by simp only [K7.g];exact ⟨_,_,rfl,h3,h4⟩⟩
def Hv (xs:List Int)(g:y4)(l:F2)(b:Nat):Ej (dx xs g) A l b Tw:=by
 intro ops dr c s p q h vs T H hs;unfold Tw at h;split at h
 .rename_i t u f u'
  split at h
  .rename_i hf
   have hf:=j7 hf;subst hf;split at h
   .rename_i id e
    split at h
    .rename_i p' l' e2
     split at h
     .rename_i hle
      cases h;obtain ⟨hT,hH,hB⟩:=hs;obtain ⟨a,h1,h2⟩:=y5.get hT e;have h2:=bu h2;subst h2;obtain ⟨o,h3,h4⟩:=K2.get hH e2;obtain ⟨cs,rfl,h5,h6⟩:=h4;have h7:=y5.map (C:=dx xs g) (vs:=vs) (fun _ _=>SV.qt) h5;obtain ⟨ds,e3,h8⟩:=Xo (y5.cA hB (C:=dx xs g) (fact:=fun _ _=>false) (fun k ds h=>by cases h) _ hle h7);obtain ⟨c,rfl,hc⟩:=aO8 ds h8;have hlen:cs.length=8:=by
       have:=congrArg List.length e3;simpa [y4.enc] using this
      have hR:Rn A l b [⟨.load (some 8) (.slot t),none,none,u⟩,⟨.call 40 [.loc 0],none,none,u'⟩] false T H fun T' H' L=>T' =T/\H' =H/\G9 T' L (.loc 1)= .d (.bool (N9 c)):=by
       refine Rn.text ?_;refine Ry.pure (v:=cat c) (rs:=[id]) rfl ?_ ?_
       .have vZ:rq T 0 [] (.slot t)= .ptr id 0:=by simp [rq,opw,h1,j3.I7]
        simp only [o6,vZ,rd,h3];rw [if_pos (by omega),List.drop_zero,A8 (by omega)];show some (j3.agg (cs.map j3.I7),[id])=_
        rw [e3];rfl
       .exact cl (al0 c hc) (nl ⟨rfl,rfl,rfl⟩)
      unfold Rn at hR ⊢;obtain ⟨r,N,⟨r1,r2,r3⟩,hr⟩:=hR;refine ⟨r,N,⟨N9 c,r3,?_⟩,hr⟩;rw [r1,r2];cases hv:N9 c with
      |false=>exact ⟨s,by simp,vs,Le.refl _,hT,hH,hB⟩
      |true =>
       refine ⟨{ s with H:=s.H.set id (.cells (some 0) l') },by simp,vs,Le.refl _,hT,?_,hB⟩;have:=K2.set hH id (a:= .cells (some 0) l') (b:= .cells cs) ⟨cs,rfl,h5,fun k hk=>by
        cases hk;exact ⟨c,e3,hv,hc⟩⟩
       have e4:H.set id (.cells cs)=H:=Z3 h3
       rwa [e4] at this
     .cases h
    .cases h
   .cases h
  .cases h
 .cases h
def ZG:KF:=fun _ _ _ _=>none
def Hu {C:Ctx}{A:Abs.Prog}{l:F2}{b:Nat}:Ej C A l b ZG:=fun _ _ _ _ _ _ h=>by have _:Inhabited xy:=inferInstance;cases h
def qz:Fact:=fun _ _=>false
def gl {C:Ctx}:yz C qz:=fun _ _ h=>by have _:Inhabited xy:=inferInstance;cases h
end Go.Proofs.YtibjocmpkoepoaaGreat
namespace Go.Proofs.YtibjocmpkoepoaaGreat
open Go.Abs Go.Abs.S Go.Abs.Sh
attribute [local irreducible] Rx Ry Rn Ex Pf
variable [Inhabited xy]
def mY (C:Ctx)(l:List Sh.Spec):Prop:=∀ s,s ∈ l->s.ok C A
def mY.nil {C:Ctx}:mY C []:=fun s h=>by have _:Inhabited xy:=inferInstance;cases h
def mY.cons {C:Ctx}{s:Sh.Spec}{l:List Sh.Spec}(h:s.ok C A)(hl:mY C l):mY C (s::l):=fun t ht=>by
 have _:Inhabited xy:=inferInstance
 rcases y7.1 ht with rfl|ht
 .exact h
 .exact hl t ht
def ao7 (l:List Sh.Spec):Sh.Sem:=Av yf (Va qz l)
def FA {xs:List Int}(hx:xs.length<=35184372088832){g:y4}{l:List Sh.Spec}(h:mY (dx xs g) l):gR (dx xs g) A (ao7 l):=ot (Au xs hx g) (Vb gl h)
def fe {xs:List Int}(hx:xs.length<=35184372088832){g:y4}{l:List Sh.Spec}(h:mY (dx xs g) l){kp js:List Nat}{af:s8}{s:Sh.Spec}(hp:A.eF s.f=none)(ha:A.fn s.f=some af)(hc:ao2 A (ao7 l) ZG qz kp js 40 af s=true):s.ok (dx xs g) A :=
 Fy (FA hx h) gl Hu hp ha hc
def l0:F2:=⟨0,0,0,0⟩
def l1 (p:Nat:=0):F2:=⟨0,0,p+1,p+1⟩
def tH (p:Nat):List SO:=j4 p (.pr 0)++[.pr 0]
def iR (a b:Int):SD:= .int .i64 a b .no
def s35:Sh.Spec:=⟨41,[.d (.str 1),.d (iR 0 1000000)],[],l0,[(.d (.str 2),[])]⟩
def vV:SV:= .agg none [.d (iR 0 2),.d sI,.d (.str 100)]
def aG9:Sh.Spec:=⟨228,[vV],[],l0,[(.d (.bool .uv),[])]⟩
def an7:Sh.Spec:=⟨169,[vV],[],l0,[(vV,[])]⟩
def aG7:Sh.Spec:=⟨110,[.d sI],[],l0,[(vV,[])]⟩
def aG8:Sh.Spec:=⟨196,[.d (.str 100)],[],l0,[(vV,[])]⟩
def Yy:Sh.Spec:=⟨139,[.ptr 0 0],[.pr 0],l1,[(vV,[.pr 0])]⟩
def Yz:Sh.Spec:=⟨140,[.ptr 0 0],[.pr 0],l1,[(vV,[.pr 0])]⟩
def an6:Sh.Spec:=⟨141,[.d (iR 3 18)],[],l0,[(.d (iR 1 3),[])]⟩
def rTm:List SD:=[iR 0 18,iR 0 2,sI,.str 100,iR 0 100]
def tyS:SV:= .d (.slice none 1 24 [iR 1 2])
def Ro (d:Nat)(hi:Nat):Sh.Spec:=⟨93,[.ptr 0 0,.d (iR 1 d),tyS,.d (iR 1 2)],[.pr 0],l1,[(.own 5 (.slice none 1 hi rTm),[.pr 0]),(.d (.slice none 1 hi rTm),[.pr 0])]⟩
def rC4:List SD:=[.str 2,iR 1 2,.str 6,.str 2,.slice none 0 12 [iR 0 3],iR 0 1,iR 0 20]
def Yt:List SD:=[.str 2,.slice none 2 4 rC4,iR 0 1,iR 0 40]
def ba9:Sh.Spec:=⟨94,[.ptr 0 0,tyS,.d (iR 1 3),.d (iR 0 3)],[.pr 0],l1,[(.d (.slice none 1 3 [.str 2,.slice none 1 4 rTm]),[.pr 0])]⟩
def Mf (n:Nat):Sh.Spec:=⟨97,[.d (.slice none 0 n [iR 0 3]),.d (iR 0 3)],[],l0,[(.d (.slice none 0 (n+1) [iR 0 3]),[]),(.own 1 (.slice none 0 (n+1) [iR 0 3]),[])]⟩
def e0 (n:Nat):SV:= .d (.slice none 0 0 (j4 n .top))
def ae5:SV:= .agg none [.d (.slice none 0 3 Yt),e0 9,e0 3,e0 6,e0 4,e0 3,e0 2,e0 3]
def lC (n:Nat)(p:Nat):F2:=⟨p+1,n+p,n+p,p+1⟩
def rCn:List SD:=[.str 2,iR 1 2,.str 6,.str 2,.slice none 0 0 [iR 0 3],.lit (.int .i64 0),.lit (.int .i64 0)]
def av7:SV:= .agg none (rCn.map .d)
def bb9:SV:= .agg none [.d (.str 2),.d (.slice none 0 0 (j4 7 .top)),.d (iR 0 1),.d (iR 0 40)]
def De (n:Nat):SV:= .own n (.lit (.slice 0 []))
def zC:SO:= .cells none [De 4,De 9,De 3,De 6,De 4,De 3,De 2,De 3]
def vC (m:Nat):SO:= .cells (some 0) [.d (.slice none 1 m Yt),e0 9,e0 3,e0 6,e0 4,e0 3,e0 2,e0 3]
def YU (n:Nat)(p:Nat):SV:= .agg none [.d (.str 2),.B6 (p+4) 7 0 n,.d (iR 0 1),.d (iR 0 40)]
def tBo (n:Nat)(p:Nat):SO:= .cells none [.d (.str 2),.B6 (p+4) 7 0 n,.d (iR 0 1),.d (iR 0 40)]
def Sy (n:Nat):List SV:=(j4 n (rCn.map .d)).flatten
def aO6 (n:Nat):List SV:=(j4 n (rC4.map fun x=>match x with| .slice v lo hi r=>SV.q (.slice v lo hi r)|x=>SV.d x)).flatten
def hN (c:SO)(n:Nat)(p8:List SV)(p:Nat):List SO:=tH p++[zC,c,tBo n p,.cells none p8]
def aH1 (p:Nat):Sh.Spec:=⟨42,[.ptr p 0,ae5,bb9,.d (iR 0 3)],tH p,lC 1 p,[(av7,tH p)]⟩
def YA (c:SO)(n:Nat)(p:Nat):Sh.Spec:=⟨42,[.ptr p 0,ae5,YU n p,.d (iR 0 3)],hN c n (Sy n) p,lC 5 p,[(av7,hN c n (Sy n) p)]⟩
def an5 (c:SO)(n:Nat)(p:Nat):Sh.Spec:=⟨96,[YU n p],hN c n (Sy n) p,⟨0,p+5,p+5,p+1⟩,[(.d (.slice none 0 n [iR 0 3]),hN c n (Sy n) p)]⟩
def s78 (c:SO)(n:Nat)(p:Nat):Sh.Spec:=⟨43,[.ptr p 0,ae5,YU n p],hN c n (Sy n) p,⟨0,0,p+5,p+1⟩,[(YU n p,hN c n (aO6 n) p)]⟩
def Sk:SV:= .agg (some 0) [.d (.slice none 1 3 Yt),e0 9,e0 3,e0 6,e0 4,e0 3,e0 2,e0 3]
def s33 (n:Nat)(p:Nat:=0):Sh.Spec:=⟨14,[.ptr p 0,.d (.lit (.int .i64 n))],tH p,l1 p,[(Sk,tH p)]⟩
def nW:y4:=⟨[⟨[116,48],[⟨[99,48],1,[112,101,114,115,111,110],[],[],0,0⟩,⟨[99,49],2,[],[],[0],0,0⟩],0,0⟩],[],[],[],[],[],[],[]⟩
def aj3:N9 nW=true:=have _:Inhabited xy:=inferInstance;by kernel_rfl
def aj2:Q2 nW:=by
 have _:Inhabited xy:=inferInstance;refine ⟨⟨by simp [y4.qA,nW],?_,?_⟩,?_,?_,?_,?_,?_,?_⟩
 .intro n hn
  have:n=0:=by simp [nW] at hn;omega
  subst this;simp [nW,nth]
 .intro n i hn hi
  have:n=0:=by simp [nW] at hn;omega
  subst this;have hi:i<2:=by simpa [nW,nth] using hi
  match i,hi with
  |0,_=>simp [nW,nth]
  |1,_=>simp [nW,nth]
 .intro k hk;simp [nW] at hk
 .intro k hk;simp [nW] at hk
 .intro k hk;simp [nW] at hk
 .intro k hk;simp [nW] at hk
 .intro k i hk;simp [nW] at hk
 .intro k i hk;simp [nW] at hk
def Zr:Fact:=fun k ds=>s7 k 0&&Sh.uK ds nW.enc
def SP (xs:List Int)(g:y4):yz (dx xs g) Zr:=fun k ds h=>by
 simp only [Zr,c9] at h;have h1:=j7 h.1;have h2:=Sh.EK _ _ h.2;subst h1 h2;exact ⟨nW,rfl,aj3,aj2⟩
section
variable {xs:List Int} (hx:xs.length<=35184372088832) (g:y4)
include hx
def o35:s35.ok (dx xs g) A:=fe hx (l:=[]) (kp:=[]) (js:=[]) .nil rfl rfl (by kernel_rfl)
def aX0:aG9.ok (dx xs g) A:=fe hx (l:=[]) (kp:=[]) (js:=[]) .nil rfl rfl (by kernel_rfl)
def aB5:an7.ok (dx xs g) A:=fe hx (l:=[aG9]) (kp:=[]) (js:=[]) (.cons (aX0 hx g) .nil) rfl rfl (by kernel_rfl)
def aW8:aG7.ok (dx xs g) A:=fe hx (l:=[an7]) (kp:=[]) (js:=[]) (.cons (aB5 hx g) .nil) rfl rfl (by kernel_rfl)
def aW9:aG8.ok (dx xs g) A:=fe hx (l:=[an7]) (kp:=[]) (js:=[]) (.cons (aB5 hx g) .nil) rfl rfl (by kernel_rfl)
def aj8:Yy.ok (dx xs g) A:=fe hx (l:=[aG7]) (kp:=[]) (js:=[]) (.cons (aW8 hx g) .nil) rfl rfl (by kernel_rfl)
def aj9:Yz.ok (dx xs g) A:=fe hx (l:=[aG8]) (kp:=[]) (js:=[]) (.cons (aW9 hx g) .nil) rfl rfl (by kernel_rfl)
def aB4:an6.ok (dx xs g) A:=fe hx (l:=[]) (kp:=[]) (js:=[]) .nil rfl rfl (by kernel_rfl)
def aB1:(Ro 1 1).ok (dx xs g) A:=fe hx (l:=[Yy,Yz]) (kp:=[]) (js:=[]) (.cons (aj8 hx g) (.cons (aj9 hx g) .nil)) rfl rfl (by kernel_rfl)
def Ui:(Ro 2 4).ok (dx xs g) A:=fe hx (l:=[Yy,Yz,an6,Ro 1 1]) (kp:=[]) (js:=[1]) (.cons (aj8 hx g) (.cons (aj9 hx g) (.cons (aB4 hx g) (.cons (aB1 hx g) .nil)))) rfl rfl (by kernel_rfl)
def aB2:(Ro 3 13).ok (dx xs g) A:=fe hx (l:=[Yy,Yz,an6,Ro 2 4]) (kp:=[]) (js:=[1]) (.cons (aj8 hx g) (.cons (aj9 hx g) (.cons (aB4 hx g) (.cons (Ui hx g) .nil)))) rfl rfl (by kernel_rfl)
def aW7:ba9.ok (dx xs g) A:=fe hx (l:=[s35,Ro 2 4]) (kp:=[]) (js:=[]) (.cons (o35 hx g) (.cons (Ui hx g) .nil)) rfl rfl (by kernel_rfl)
def QY (n:Nat)(h:n=2\/n=3\/n=4):(Mf n).ok (dx xs g) A:=by
 rcases h with rfl|rfl|rfl<;>exact fe hx (l:=[]) (kp:=[3]) (js:=[]) .nil rfl rfl (by kernel_rfl)
def aX1 (p:Nat)(hp:p=0\/p=1):(aH1 p).ok (dx xs g) A:=by
 rcases hp with rfl|rfl<;>exact fe hx (l:=[s35]) (kp:=[]) (js:=[]) (.cons (o35 hx g) .nil) rfl rfl (by kernel_rfl)
def ak0 (p:Nat)(hp:p=0\/p=1)(c:SO)(n:Nat)(h:n=1\/n=2\/n=3)(hc:c=zC\/c=vC 1\/c=vC 2):(YA c n p).ok (dx xs g) A:=by
 rcases hp with rfl|rfl<;>rcases h with rfl|rfl|rfl<;>rcases hc with rfl|rfl|rfl<;>exact fe hx (l:=[s35]) (kp:=[]) (js:=[]) (.cons (o35 hx g) .nil) rfl rfl (by kernel_rfl)
def aB3 (p:Nat)(hp:p=0\/p=1)(c:SO)(n:Nat)(h:n=2\/n=3\/n=4)(hc:c=zC\/c=vC 1\/c=vC 2):(an5 c n p).ok (dx xs g) A:=by
 rcases hp with rfl|rfl<;>rcases h with rfl|rfl|rfl<;>rcases hc with rfl|rfl|rfl<;>exact fe hx (l:=[]) (kp:=[]) (js:=[]) .nil rfl rfl (by kernel_rfl)
theorem aX3 (c:SO)(n:Nat)(h:n=2\/n=3\/n=4)(hc:c=zC\/c=vC 1\/c=vC 2):(s78 c n 0).ok (dx xs g) A:=by
 have hl:mY (dx xs g) [an5 c n 0,Mf 2,Mf 3,Mf 4]:= .cons (aB3 hx g 0 (by simp) c n h hc) (.cons (QY hx g 2 (by simp)) (.cons (QY hx g 3 (by simp)) (.cons (QY hx g 4 (by simp)) .nil)))
 rcases h with rfl|rfl|rfl<;>rcases hc with rfl|rfl|rfl<;>exact fe hx (kp:=[]) (js:=[]) hl rfl rfl (by kernel_rfl)
theorem aX4 (c:SO)(n:Nat)(h:n=2\/n=3\/n=4)(hc:c=zC\/c=vC 1\/c=vC 2):(s78 c n 1).ok (dx xs g) A:=by
 have hl:mY (dx xs g) [an5 c n 1,Mf 2,Mf 3,Mf 4]:= .cons (aB3 hx g 1 (by simp) c n h hc) (.cons (QY hx g 2 (by simp)) (.cons (QY hx g 3 (by simp)) (.cons (QY hx g 4 (by simp)) .nil)))
 rcases h with rfl|rfl|rfl<;>rcases hc with rfl|rfl|rfl<;>exact fe hx (kp:=[]) (js:=[]) hl rfl rfl (by kernel_rfl)
def o78 (p:Nat)(hp:p=0\/p=1)(c:SO)(n:Nat)(h:n=2\/n=3\/n=4)(hc:c=zC\/c=vC 1\/c=vC 2):(s78 c n p).ok (dx xs g) A:=by
 rcases hp with rfl|rfl
 .exact aX3 hx g c n h hc
 .exact aX4 hx g c n h hc
def ao9 (p:Nat):List Sh.Spec:=[s35,aH1 p]++[zC,vC 1,vC 2].flatMap fun c=>[YA c 1 p,YA c 2 p,YA c 3 p,s78 c 2 p,s78 c 3 p,s78 c 4 p]
def RA (p:Nat)(hp:p=0\/p=1):mY (dx xs g) (ao9 p):=by
 refine .cons (o35 hx g) (.cons (aX1 hx g p hp) ?_);intro s hs;obtain ⟨c,hc,h⟩:=List.mem_flatMap.1 hs;have hc:c=zC\/c=vC 1\/c=vC 2:=by simpa using hc
 simp only [y7,List.not_mem_nil,or_false] at h
 rcases h with rfl|rfl|rfl|rfl|rfl|rfl
 .exact ak0 hx g p hp c 1 (by simp) hc
 .exact ak0 hx g p hp c 2 (by simp) hc
 .exact ak0 hx g p hp c 3 (by simp) hc
 .exact o78 hx g p hp c 2 (by simp) hc
 .exact o78 hx g p hp c 3 (by simp) hc
 .exact o78 hx g p hp c 4 (by simp) hc
def o33:(s33 3).ok (dx xs g) A:=Fy (kp:=[]) (js:=[]) (fuel:=40) (FA hx (RA hx g 0 (by simp))) (SP xs g) (Hv xs g _ _) rfl rfl (by kernel_rfl)
end
end Go.Proofs.YtibjocmpkoepoaaGreat


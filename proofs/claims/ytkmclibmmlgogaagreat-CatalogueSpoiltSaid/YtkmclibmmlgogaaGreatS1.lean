/- Texts S5 S6 S7 S8 (made short by a program) -/
import Derived.Test.YtkmclibmmlgogaaGreatS0
import Derived.Test.YtkmclibmmlgogaaGreatB6
set_option linter.unusedVariables false
set_option linter.unusedSimpArgs false
open Bool renaming and_eq_true → b5, false_eq_true → b7
open List renaming cons_append → L6, drop_of_length_le → k9, getElem?_append_left → x9, getElem?_append_right → s7, length_append → E0, length_cons → B7, mem_cons → C6, mem_singleton → B0, replicate → c9, take_of_length_le → q5
open Nat renaming add_assoc → H9, beq → r9, ble → L3, eq_of_beq_eq_true → b9, le_of_ble_eq_true → o7, le_refl → n5, lt_or_ge → u9
namespace Go.y3.Sh
open Go.y3
section
variable {C:Ctx} {vs:List Nat} {B:fZ}
theorem aF {x:SD}{v:b6}(h:(SV.d x).g C vs v):∃ d,v= .d d/\x.g C vs d:=by simp_all [SV.g]
theorem pZ {z:Nat}{x:SD}{v:b6}(h:(SV.own z x).g C vs v):∃ len cells,v= .own z len cells/\x.g C vs (.slice len cells):=by simp_all [SV.g]
theorem bT {x:SD}{d:Data}(h:x.g C vs d):(SV.d x).g C vs (.d d):=by simp_all [SV.g]
theorem bM {id off:Nat}{v:b6}(h:(SV.ptr id off).g C vs v):v= .ptr id off:=by simp_all [SV.g]
theorem kS {id off a b:Nat}{v:b6}(h:(SV.D4 id off a b).g C vs v):v= .D4 id off a b:=by simp_all [SV.g]
theorem vN {row:List SD}{v:b6}(h:(SV.Q5 row).g C vs v):∃ cells rest,v= .Q5 (cells++rest)/\F2.g C vs row cells:=by simp_all [SV.g]
theorem Tv {v:Option Nat}{lo hi n:Nat}(h1:lo<=n)(h2:n<=hi)(h3:∀ i,v=some i->vs[i]? =some n):(Pr v lo hi).g C vs (.int .i64 n):=by
 unfold Pr;split
 ·grind [b9,SD.g]
 ·refine ⟨_,rfl,by omega,by omega,?_⟩
  split
  ·exact ⟨n,h3 _ rfl,rfl⟩
  ·trivial
theorem SQ (hB:Bg vs B){x:SD}{d:Data}{n:Int}(h:exact? B x=some n)(hx:x.g C vs d):∃ k,d= .int k n:=by
 unfold exact? at h;split at h
 ·split at h
  ·grind [SD.gL]
  ·cases h
 ·cases h
theorem yl (hB:Bg vs B){σ:q7->SV}{ρ:q7->b6}(hρ:∀ x,(σ x).g C vs (ρ x)){dl dh a b:Int}{n:Nat}{o:Option q7}(hn:o=none->dl<=n/\(n:Int)<=dh)(h:Bb σ B dl dh o=some (a,b)):∃ m,U6 ρ n o=some m/\a<=m/\m<=b:=by
 cases o with
 |none=>obtain ⟨rfl,rfl⟩:=h;exact ⟨n,rfl,hn rfl⟩
 |some x =>
  have h1:=hρ x;simp [Bb] at h;split at h
  ·rename_i y hy
   rw [hy] at h1;split at h
   ·rename_i k p q r hi
    obtain ⟨d,e,h1⟩:=aF h1;obtain ⟨m,rfl,h2,h3,_⟩:=SD.gL hB hi h1;simp_all [U6]
   ·cases h
  ·cases h
theorem q6.It:∀ {x:List SD} {d:List Data},F2.g C vs x d->q6.g C vs (x.map .d) (d.map .d)
 |[],_,h=>by simp_all [F2.g,q6.g]
 |x::xs,_,h=>by
  obtain ⟨d,ds,rfl,h1,h2⟩:=h;exact ⟨_,_,rfl,bT h1,q6.It h2⟩
theorem Ki {sz:Nat}:∀ {rows:List (List Data)} {i:Nat},(∀ r,r ∈ rows->r.length=sz)->i<rows.length->∃ r,r ∈ rows/\rows.flatten.drop (i * sz)=r++rows.flatten.drop ((i+1) * sz)
 |[],i,_,h=>by simp at h
 |r::rows,0,hr,h=>by
  simp_all
 |r::rows,i+1,hr,h=>by
  obtain ⟨q,h1,h2⟩:=Ki (rows:=rows) (i:=i) (fun r h=>hr r (by simp [h])) (by simpa using h);simp_all [List.flatten_cons,List.drop_append,k9,Nat.succ_mul,Nat.add_sub_cancel]
theorem jE {sz:Nat}:∀ {rows:List (List Data)},(∀ r,r ∈ rows->r.length=sz)->rows.flatten.length=rows.length * sz
 |[],_=>by simp
 |r::rows,h=>by
  have:=jE (rows:=rows) (fun r hr=>h r (by simp [hr]))
  grind
theorem yN {sz:Nat}:∀ {rows:List (List Data)},(∀ r,r ∈ rows->r.length=sz)->∀ i,rows.flatten.take (i * sz)=(rows.take i).flatten
 |[],_,i=>by simp
 |r::rows,h,0=>by simp
 |r::rows,h,i+1=>by
  have:=yN (rows:=rows) (fun r hr=>h r (by simp [hr])) i;simp_all [List.flatten_cons,List.take_succ_cons,List.take_append,q5,Nat.succ_mul,Nat.add_sub_cancel]
theorem xd {sz:Nat}:∀ {rows:List (List Data)},(∀ r,r ∈ rows->r.length=sz)->∀ i,rows.flatten.drop (i * sz)=(rows.drop i).flatten
 |[],_,i=>by simp
 |r::rows,h,0=>by simp
 |r::rows,h,i+1=>by
  have:=xd (rows:=rows) (fun r hr=>h r (by simp [hr])) i;simp_all [List.flatten_cons,List.drop_succ_cons,List.drop_append,k9,Nat.succ_mul,Nat.add_sub_cancel]
theorem PT {sz:Nat}{row:List SD}{rows:List (List Data)}{a b l1 l2:Nat}(hw:row.length=sz)(hr:∀ r,r ∈ rows->F2.g C vs row r)(hab:a<=b)(hb:b<=rows.length)(h1:l1<=b - a)(h2:b - a<=l2) :
  (SD.slice none l1 l2 row).g C vs (.slice ((b:Int) - a).toNat ((rows.flatten.take (b * sz)).drop (a * sz))):=by
 have hrl:∀ r,r ∈ rows->r.length=sz:=fun r h=>by grind [F2.len]
 grind [List.mem_of_mem_take,yN,xd,SD.g,List.mem_of_mem_drop]
theorem Jw {c:SD}(hk:c.kind? =some .u8):∀ {rows:List (List Data)},(∀ r,r ∈ rows->F2.g C vs [c] r)->∃ bs,fe rows.flatten=some bs/\bs.length=rows.length
 |[],_=>⟨[],rfl,rfl⟩
 |r::rows,h=>by
  obtain ⟨bs,h1,h2⟩:=Jw hk (rows:=rows) (fun r hr=>h r (by simp [hr]));have h3:=h r (by simp)
  grind [F2.g,SD.vO,UInt8.ofNat,fe]
theorem Uq (hB:Bg vs B){σ:q7->SV}{ρ:q7->b6}(hρ:∀ x,(σ x).g C vs (ρ x)){H:List SO}{H' :o6}(hH:H6.g C vs H H'){op:q9}{v:SV}{rs:List Nat}(h:yz σ H B op=some (v,rs)) :
  ∃ r,m6 ρ H' op=some (r,rs)/\v.g C vs r:=by
 cases op<;>simp only [yz,reduceCtorEq] at h
 case pick c a b =>
  have hc:=hρ c;split at h
  ·rename_i x hx
   rw [hx] at hc;obtain ⟨d,e1,hd⟩:=aF hc;split at h
   ·rename_i t ht
    obtain ⟨t',rfl,e2⟩:=SD.dc ht hd;simp only at e2;subst e2;cases h;refine ⟨_,(by simp only [m6,e1];rfl),?_⟩;cases t' <;>exact hρ _
   ·cases h
  ·cases h
 case build zero parts =>
  split at h
  ·rename_i cs hcs
   cases h;obtain ⟨ds,h1,h2⟩:=vX (rC hρ parts) (xP zero) hcs;exact ⟨_,(by simp only [m6,h1];rfl),by simp only [SV.g];exact ⟨_,rfl,h2,fun k h=>by cases h⟩⟩
  ·cases h
 case p8 sz len zero parts ob =>
  cases ob<;>simp only [yz,reduceCtorEq] at h;split at h
  ·rename_i cs hcs
   split at h
   ·rename_i xs hxs
    split at h
    ·rename_i hc
     simp only [b5] at hc;have c1:=o7 hc.1;have c2:=b9 hc.2;cases h;obtain ⟨ds,h1,h2⟩:=vX (rC hρ parts) (xP zero) hcs;obtain ⟨es,h3,h4⟩:=mX h2 hxs;have hl:=F2.len h4;refine ⟨.own sz len es,?_,by simp only [SV.g];exact ⟨_,_,rfl,od c2 h4⟩⟩;simp only [m6,h1,h3];rw [if_pos ⟨by omega,by omega⟩]
    ·cases h
   ·cases h
  ·cases h
 case load n x =>
  have hx:=hρ x;cases n with
  |none =>
   simp only [yz] at h;split at h
   ·rename_i id off e
    rw [e] at hx;have e1:=bM hx;split at h
    ·rename_i w hw
     cases h;obtain ⟨cs,h1,h2⟩:=Bi hH hw;simp only [q6.g] at h2;obtain ⟨a,_,rfl,h3,rfl⟩:=h2;exact ⟨_,(by simp only [m6,e1,h1]),SV.oC h3⟩
    ·cases h
   ·rename_i c row e
    rw [e] at hx;obtain ⟨cells,rest,e1,h1⟩:=vN hx;cases h;simp only [F2.g] at h1;obtain ⟨d,ds,rfl,h2,h3⟩:=h1;exact ⟨.d d,by simp only [m6,e1,L6],bT h2⟩
   ·cases h
  |some n =>
   simp only [yz] at h;split at h
   ·rename_i id off e
    rw [e] at hx;have e1:=bM hx;split at h
    ·rename_i p l hl
     split at h
     ·rename_i hc
      have hc:=o7 hc;cases h;obtain ⟨o,h1,h2⟩:=H6.get hH hl;obtain ⟨cs,rfl,h3,h4⟩:=h2;have hlen:=q6.len h3;refine ⟨.agg (((cs.drop off).take n).map b6.G4),?_,?_⟩
      ·simp only [m6,e1,rd,h1]
       rw [if_pos (by omega)]
      ·simp only [SV.g]
       refine ⟨_,rfl,q6.map (fun _ _=>SV.oC) (q6.take (q6.drop h3 off) n),fun k hk=> ?_⟩;split at hk
       ·rename_i mE
        simp only [b5] at mE;have c1:=b9 mE.1;have c2:=b9 mE.2;subst c1;have:(cs.drop 0).take n=cs:=by rw [List.drop_zero,q5 (by omega)]
        rw [this];have e3:(cs.map b6.G4).map b6.G4=cs.map b6.G4:=by
         rw [List.map_map]
         congr 1
         funext v
         cases v<;>rfl
        rw [e3];exact h4 k hk
       ·cases hk
     ·cases h
    ·cases h
   ·rename_i row e
    rw [e] at hx;obtain ⟨cells,rest,e1,h1⟩:=vN hx;split at h
    ·rename_i hc
     have hc:=o7 hc;cases h;have hlen:=F2.len h1;refine ⟨.agg ((cells.take n).map .d),?_,?_⟩
     ·simp only [m6,e1]
      rw [if_pos (by simp;omega),List.take_append_of_le_length (by omega)]
     ·simp only [SV.g]
      exact ⟨_,rfl,q6.It (F2.take h1 n),fun k h=>by cases h⟩
    ·cases h
   ·cases h
 case X6 x =>
  have hx:=hρ x;split at h
  ·rename_i id off e
   cases h;rw [e] at hx;exact ⟨_,(by simp only [m6,bM hx];rfl),by simp only [SV.g]⟩
  ·rename_i id lo z c e
   cases h;rw [e] at hx;simp only [SV.g] at hx;obtain ⟨j,j1,j2⟩:=hx;exact ⟨_,(by simp only [m6,j2];rfl),by simp only [SV.g];exact ⟨j,j1,rfl⟩⟩
  ·rename_i row e
   cases h;rw [e] at hx;obtain ⟨cells,rest,e1,h1⟩:=vN hx;exact ⟨_,(by simp only [m6,e1];rfl),by simp only [SV.g];exact ⟨_,_,rfl,h1⟩⟩
  ·cases h
 case bin op x y =>
  have hx:=hρ x;have hy:=hρ y;split at h
  ·rename_i a b ea eb
   rw [ea] at hx;rw [eb] at hy;obtain ⟨d,e1,h1⟩:=aF hx;obtain ⟨f,e2,h2⟩:=aF hy;split at h
   ·rename_i z hz
    cases h;obtain ⟨r,h3,h4⟩:=YI hB h1 h2 hz;exact ⟨.d r,by simp only [m6,e1,e2,h3],bT h4⟩
   ·cases h
  ·cases h
 case un op x =>
  cases op<;>simp only [yz,reduceCtorEq] at h;have hx:=hρ x;split at h
  ·rename_i a ea
   rw [ea] at hx;obtain ⟨d,e1,h1⟩:=aF hx;split at h
   ·rename_i b hb
    cases h;obtain ⟨b',rfl,e2⟩:=SD.dc hb h1;simp only at e2;subst e2;exact ⟨_,(by simp only [m6,e1,yU];rfl),bT (by simp [SD.g])⟩
   ·rename_i c hc
    cases h;obtain ⟨b',rfl,e2⟩:=SD.dc hc h1;have:=JY (C:=C) (vs:=vs) (x:= .bool c) (b:=b') (by simp only [SD.g];exact ⟨_,rfl,e2⟩);exact ⟨_,(by simp only [m6,e1,yU]),bT this⟩
   ·cases h
  ·cases h
 case o9 neg x y =>
  have hx:=hρ x;have hy:=hρ y;split at h
  ·rename_i a b ea eb
   rw [ea] at hx;rw [eb] at hy;obtain ⟨d,e1,h1⟩:=aF hx;obtain ⟨f,e2,h2⟩:=aF hy;split at h
   ·rename_i p q hp hq
    cases h;obtain ⟨t,rfl,_⟩:=SD.dc hp h1;obtain ⟨u,rfl,_⟩:=SD.dc hq h2;exact ⟨_,(by simp only [m6,e1,e2];rfl),bT (by simp only [SD.g];exact ⟨_,rfl,trivial⟩)⟩
   ·cases h
  ·cases h
 case kY k x =>
  have hx:=hρ x;split at h
  ·rename_i a ea
   rw [ea] at hx;obtain ⟨d,e1,h1⟩:=aF hx;split at h
   ·rename_i k' hk
    cases h;obtain ⟨n,rfl⟩:=SD.vO hk h1;exact ⟨_,(by simp only [m6,e1];rfl),bT (by simp only [SD.g];exact ⟨_,rfl⟩)⟩
   ·cases h
  ·cases h
 case je x =>
  have hx:=hρ x;split at h
  ·rename_i a ea
   rw [ea] at hx;obtain ⟨d,e1,h1⟩:=aF hx;split at h
   ·rename_i v lo hi c hs
    split at h
    ·rename_i hk
     cases h;obtain ⟨_,rows,rfl,h2,h3,h4,h5⟩:=SD.dJ hB hs h1;obtain ⟨bs,h6,h7⟩:=Jw hk h5;have hl:rows.flatten.length=rows.length:=by
      have:=jE (sz:=1) (rows:=rows) (fun r hr=>F2.len (h5 r hr));omega
     exact ⟨.d (.str bs),by simp only [m6,e1,hl,if_true,h6],bT (by simp only [SD.g];exact ⟨_,rfl,by omega⟩)⟩
    ·cases h
   ·cases h
  ·cases h
 case aN sz x lo hi =>
  have hx:=hρ x;split at h
  ·rename_i a ea
   rw [ea] at hx;obtain ⟨d,e1,h1⟩:=aF hx;split at h
   ·rename_i v l1 l2 row hs
    obtain ⟨hw,rows,rfl,h2,h3,h4,h5⟩:=SD.dJ hB hs h1;have hfl:rows.flatten.length=rows.length * sz:=jE (fun r hr=>by rw [F2.len (h5 r hr)];exact hw);split at h
    ·rename_i a1 a2 hlo
     split at h
     ·rename_i hc
      simp only [b5,decide_eq_true_eq] at hc;cases h;obtain ⟨m,b1,b2,b3⟩:=yl (n:=0) hB hρ (fun _=>⟨Int.le_refl _,Int.le_refl _⟩) hlo;obtain ⟨m',rfl⟩:=Int.eq_ofNat_of_zero_le (show 0<=m by omega);refine ⟨_,?_,bT (PT (a:=m') (b:=rows.length) (l1:=l1 - a2.toNat) (l2:=l2 - a1.toNat) hw h5 (by omega) (n5 _) (by omega) (by omega))⟩;have b4:U6 ρ rows.length none=some (rows.length:Int):=rfl;simp only [m6,e1,b1,b4];rw [if_pos (by refine ⟨?_,?_,?_,hfl⟩<;>omega)];simp
     ·cases h
    ·rename_i a1 a2 hop hlo
     split at h
     ·rename_i b1 b2 hhi
      split at h
      ·rename_i hc
       simp only [b5,decide_eq_true_eq] at hc;cases h;obtain ⟨m,c1,c2,c3⟩:=yl (n:=0) hB hρ (fun _=>⟨Int.le_refl _,Int.le_refl _⟩) hlo;obtain ⟨q,d1,d2,d3⟩:=yl (n:=rows.length) (dl:=0) (dh:=0) hB hρ (o:=some hop) (fun h=>by cases h) hhi;obtain ⟨m',rfl⟩:=Int.eq_ofNat_of_zero_le (show 0<=m by omega);obtain ⟨q',rfl⟩:=Int.eq_ofNat_of_zero_le (show 0<=q by omega);refine ⟨_,?_,bT (PT (a:=m') (b:=q') (l1:=(b1 - a2).toNat) (l2:=(b2 - a1).toNat) hw h5 (by omega) (by omega) (by omega) (by omega))⟩;simp only [m6,e1,c1,d1];rw [if_pos (by refine ⟨?_,?_,?_,hfl⟩<;>omega)];simp
      ·cases h
     ·cases h
    ·cases h
   ·cases h
  ·rename_i id z a len ea
   rw [ea] at hx;have e1:=kS hx;split at h
   ·rename_i a1 a2 b1 b2 hlo hhi
    split at h
    ·rename_i hc
     simp only [b5,decide_eq_true_eq] at hc;obtain ⟨⟨⟨⟨⟨c1,c2⟩,c3⟩,c4⟩,c5⟩,c6⟩:=hc;have c6:=b9 c6;subst c6;obtain ⟨m,f1,f2,f3⟩:=yl (n:=0) hB hρ (fun _=>⟨Int.le_refl _,Int.le_refl _⟩) hlo;obtain ⟨q,g1,g2,g3⟩:=yl (n:=len) hB hρ (fun _=>⟨Int.le_refl _,Int.le_refl _⟩) hhi;have em:m=a1:=by omega
     have eq:q=b1:=by omega
     subst em eq;simp only [m6,e1,f1,g1];rw [if_pos ⟨by omega,by omega,by omega,trivial⟩];split at h
     ·rename_i he
      simp only [decide_eq_true_eq] at he;cases h;rw [if_pos he];exact ⟨_,rfl,bT (by simp [SD.g])⟩
     ·rename_i he
      simp only [decide_eq_true_eq] at he;cases h;rw [if_neg he];exact ⟨_,rfl,by simp only [SV.g]⟩
    ·cases h
   ·cases h
  ·cases h
 case off k x =>
  have hx:=hρ x;split at h
  ·rename_i id off e
   cases h;rw [e] at hx;exact ⟨_,(by simp only [m6,bM hx];rfl),by simp only [SV.g]⟩
  ·rename_i id lo z c e
   cases h;rw [e] at hx;simp only [SV.g] at hx;obtain ⟨j,j1,j2⟩:=hx;exact ⟨.ptr id (lo+j * z+k),(by simp only [m6,j2]),by simp only [SV.g];exact ⟨j,j1,by rw [show lo+k+j * z=lo+j * z+k by omega]⟩⟩
  ·rename_i row e
   rw [e] at hx;split at h
   ·rename_i hc
    have hc:=o7 hc;cases h;obtain ⟨cells,rest,e1,h1⟩:=vN hx;have:=F2.len h1;refine ⟨_,(by simp only [m6,e1];rfl),?_⟩;simp only [SV.g];exact ⟨cells.drop k,rest,by rw [List.drop_append_of_le_length (by omega)],F2.drop h1 k⟩
   ·cases h
  ·cases h
 case C4 sz x i =>
  have hx:=hρ x;have hi:=hρ i;split at h
  ·rename_i a j ea ej
   rw [ea] at hx;rw [ej] at hi;obtain ⟨d,e1,h1⟩:=aF hx;obtain ⟨f,e2,h2⟩:=aF hi;split at h
   ·rename_i v lo hi' row k j1 j2 r hs hj
    split at h
    ·rename_i hc
     simp only [b5,Bool.or_eq_true,decide_eq_true_eq] at hc;cases h;obtain ⟨hw,rows,rfl,h3,h4,h5,h6⟩:=SD.dJ hB hs h1;obtain ⟨n,rfl,k1,k2,k3⟩:=SD.gL hB hj h2;have hlt:0<=n/\n<rows.length:=by
      refine ⟨by omega,?_⟩
      rcases hc.2 with hc|hc
      ·omega
      ·unfold inR at hc
       split at hc
       ·rename_i p q
        have hpq:=b9 hc;subst hpq;obtain ⟨m,m1,m2,m3⟩:=k3;rw [h5 _ rfl] at m1;cases m1;exact m3
       ·cases hc
     obtain ⟨n',rfl⟩:=Int.eq_ofNat_of_zero_le hlt.1;obtain ⟨q,q1,q2⟩:=Ki (sz:=sz) (rows:=rows) (i:=n') (fun r hr=>by rw [F2.len (h6 r hr)];exact hw) (by omega);refine ⟨.Q5 (rows.flatten.drop (n' * sz)),?_,?_⟩
     ·simp only [m6,e1,e2]
      rw [if_pos hlt];simp
     ·simp only [SV.g]
      exact ⟨q,_,by rw [q2],h6 q q1⟩
    ·cases h
   ·cases h
  ·rename_i id z lo len j ea ej
   rw [ea] at hx;rw [ej] at hi;have e1:=kS hx;obtain ⟨f,e2,h2⟩:=aF hi;split at h
   ·rename_i n hn
    split at h
    ·rename_i hc
     simp only [b5,decide_eq_true_eq] at hc;have c2:=b9 hc.2;cases h;obtain ⟨k,rfl⟩:=SQ hB hn h2;refine ⟨.ptr id (lo+n.toNat * sz),?_,by simp only [SV.g]⟩;simp only [m6,e1,e2];rw [if_pos ⟨hc.1.1,hc.1.2,c2⟩]
    ·cases h
   ·split at h
    ·rename_i k a b r hj
     split at h
     ·rename_i hc
      simp only [b5,decide_eq_true_eq] at hc;have c2:=b9 hc.2;cases h;obtain ⟨n,rfl,k1,k2,_⟩:=SD.gL hB hj h2;refine ⟨.ptr id (lo+n.toNat * sz),?_,?_⟩
      ·simp only [m6,e1,e2]
       rw [if_pos ⟨by omega,by omega,c2⟩]
      ·simp only [SV.g]
       exact ⟨n.toNat,by omega,rfl⟩
     ·cases h
    ·cases h
  ·cases h
 case extract x i =>
  have hx:=hρ x;split at h
  ·rename_i l e
   rw [e] at hx;simp only [SV.g] at hx;obtain ⟨cs,e1,h1⟩:=hx;split at h
   ·rename_i v' hv
    cases h;obtain ⟨b,h2,h3⟩:=q6.get h1 hv;exact ⟨b,by simp only [m6,e1,h2],h3⟩
   ·cases h
  ·cases h
 case len x =>
  have hx:=hρ x;split at h
  ·rename_i a ea
   rw [ea] at hx;obtain ⟨d,e1,h1⟩:=aF hx;split at h
   ·rename_i v' lo hi hl
    cases h;obtain ⟨n,cells,rfl,h2,h3,h4⟩:=SD.Ip hB hl h1;exact ⟨.d (.int .i64 n),by simp only [m6,e1,i64],bT (Tv h2 h3 h4)⟩
   ·cases h
  ·rename_i e
   cases h;rw [e] at hx;exact ⟨_,(by simp only [m6,kS hx,i64];rfl),bT (by simp [SD.g])⟩
  ·cases h
 case U9 x =>
  have hx:=hρ x;split at h
  ·rename_i a ea
   rw [ea] at hx;obtain ⟨d,e1,h1⟩:=aF hx;split at h
   ·rename_i m hm
    cases h;obtain ⟨s,rfl,h2,_⟩:=SD.tT hm h1;exact ⟨.d (.int .i64 s.length),by simp only [m6,e1,i64],bT (by simp only [SD.g];exact ⟨_,rfl,by omega,by omega,trivial⟩)⟩
   ·rename_i m s hm
    cases h;obtain ⟨s',rfl,h2,h3⟩:=SD.tT hm h1;have:=h3 s rfl;subst this;exact ⟨.d (.int .i64 s'.length),by simp only [m6,e1,i64],bT (by simp [SD.g])⟩
   ·cases h
  ·cases h
end
structure SS where
 T:List SV
 H:List SO
 L:List SV
 n6:List Touch
 B:fZ
def SS.g (C:Ctx)(vs:List Nat)(s:SS)(st:E5):Prop:=q6.g C vs s.T st.T/\H6.g C vs s.H st.H/\q6.g C vs s.L st.L/\st.n6=s.n6/\Bg vs s.B
def nh (s:SS)(k:Nat)(v:SV):SS:={ s with L:=s.L.set k v }
mutual
def SV.V8 :SV->Option Nat
 | .top=>none
 | .ptr id _=>some (id+1)
 | .D4 id _ _ _=>some (id+1)
 | .wp id _ _ _=>some (id+1)
 | .agg _ l=>q6.V8 l
 | .tuple l=>q6.V8 l
 | .bn k=>some k
 |_=>some 0
def q6.V8 :List SV->Option Nat
 |[]=>some 0
 |x::xs=>match x.V8,q6.V8 xs with
  |some a,some b=>some (max a b)
  |_,_=>none
end
def SO.V8 :SO->Option Nat
 | .dead=>some 0
 | .cells _ l=>q6.V8 l
 | .pr _=>some 0
 | .bn k=>some k
 | .top=>none
 | .yd _ b=>some b
def wK :List SO->Option (List Nat)
 |[]=>some []
 |o::os=>match o.V8,wK os with
  |some a,some b=>some (a::b)
  |_,_=>none
mutual
def SV.kill (id:Nat):SV->SV
 | .ptr i o=>if r9 i id then .any else .ptr i o
 | .D4 i z l n=>if r9 i id then .any else .D4 i z l n
 | .agg p l=>match q6.V8 l with
  |some 0=> .agg p l
  |_=> .agg none (q6.kill id l)
 | .tuple l=> .tuple (q6.kill id l)
 | .bn k=>if r9 k 0 then .bn 0 else .top
 | .wp .. => .top
 |v=>v
def q6.kill (id:Nat):List SV->List SV
 |[]=>[]
 |v::vs=>v.kill id::q6.kill id vs
end
def SO.kill (id:Nat):SO->SO
 | .cells p l=>match q6.V8 l with
  |some 0=> .cells p l
  |_=> .cells none (q6.kill id l)
 | .bn k=>if r9 k 0 then .bn 0 else .top
 | .yd k b=>if L3 b id then .yd k b else .top
 |o=>o
mutual
theorem Pj (id:Nat):∀ (v:b6),v.N4<=id->v.kill id=v
 | .any,_=>by simp [b6.kill]
 | .d _,_=>by simp [b6.kill]
 | .ptr i o,h=>by simp only [b6.N4] at h;simp only [b6.kill];rw [if_neg (by omega)]
 | .Q5 _,_=>by simp [b6.kill]
 | .D4 i z l n,h=>by simp only [b6.N4] at h;simp only [b6.kill];rw [if_neg (by omega)]
 | .own _ _ _,_=>by simp [b6.kill]
 | .I8,_=>by simp [b6.kill]
 | .agg l,h=>by simp only [b6.N4] at h;simp only [b6.kill];rw [pU id l h]
 | .tuple l,h=>by simp only [b6.N4] at h;simp only [b6.kill];rw [pU id l h]
 | .func f a b,h=>by simp only [b6.N4] at h;simp only [b6.kill];rw [pU id a (by omega),pU id b (by omega)]
 | .map i,h=>by simp only [b6.N4] at h;simp only [b6.kill];rw [if_neg (by omega)]
theorem pU (id:Nat):∀ (l:List b6),A4 l<=id->G5 id l=l
 |[],_=>rfl
 |v::l,h=>by simp only [A4] at h;simp only [G5];rw [Pj id v (by omega),pU id l (by omega)]
end
theorem Vh (id:Nat)(v:b6)(h:v.N4=0):v.kill id=v:=Pj id v (by omega)
theorem Pk (id:Nat)(l:List b6)(h:A4 l=0):G5 id l=l:=pU id l (by omega)
theorem PM (id:Nat){o:y7}(h:o.N4<=id):o.kill id=o:=by
 cases o with
 |dead=>rfl
 |cells l=>simp only [y7.N4] at h;simp only [y7.kill,pU id l h]
 |map es =>
  simp only [y7.N4] at h;simp only [y7.kill]
  congr 1
  have:∀ es:List (Key×b6),A4 (es.map (·.2))<=id->es.map (fun p=>(p.1,p.2.kill id))=es:=by
   intro es
   induction es with
   |nil=>intro _;rfl
   |cons e es ih =>
    intro h;simp only [List.map_cons,A4] at h;simp only [List.map_cons];rw [Pj id e.2 (by omega),ih (by omega)]
  exact this es h
theorem PL (id:Nat){o:y7}(h:o.N4=0):o.kill id=o:=PM id (by omega)
section
variable {C:Ctx} {vs:List Nat}
mutual
theorem SV.bD:∀ {x:SV} {v:b6} {n:Nat},x.V8 =some n->x.g C vs v->v.N4=n
 | .top,_,_,h,_=>by simp [SV.V8] at h
 | .any,_,_,h,hg=>by simp only [SV.g] at hg;subst hg;simp only [SV.V8,Option.some.injEq] at h;subst h;rfl
 | .d _,_,_,h,hg=>by simp only [SV.g] at hg;obtain ⟨y,rfl,_⟩:=hg;simp only [SV.V8,Option.some.injEq] at h;subst h;rfl
 | .own _ _,_,_,h,hg=>by simp only [SV.g] at hg;obtain ⟨y,_,rfl,_⟩:=hg;simp only [SV.V8,Option.some.injEq] at h;subst h;rfl
 | .I8,_,_,h,hg=>by simp only [SV.g] at hg;subst hg;simp only [SV.V8,Option.some.injEq] at h;subst h;rfl
 | .ptr ..,_,_,h,hg=>by simp only [SV.g] at hg;subst hg;simp only [SV.V8,Option.some.injEq] at h;subst h;simp [b6.N4]
 | .Q5 _,_,_,h,hg=>by simp only [SV.g] at hg;obtain ⟨_,_,rfl,_⟩:=hg;simp only [SV.V8,Option.some.injEq] at h;subst h;rfl
 | .wp ..,_,_,h,hg=>by simp only [SV.g] at hg;obtain ⟨j,_,rfl⟩:=hg;simp only [SV.V8,Option.some.injEq] at h;subst h;simp [b6.N4]
 | .D4 ..,_,_,h,hg=>by simp only [SV.g] at hg;subst hg;simp only [SV.V8,Option.some.injEq] at h;subst h;simp [b6.N4]
 | .agg p l,_,_,h,hg=>by simp only [SV.g] at hg;obtain ⟨cs,rfl,h1,_⟩:=hg;simp only [SV.V8] at h;simp only [b6.N4];exact q6.bD h h1
 | .tuple l,_,_,h,hg=>by simp only [SV.g] at hg;obtain ⟨cs,rfl,h1⟩:=hg;simp only [SV.V8] at h;simp only [b6.N4];exact q6.bD h h1
 | .bn k,_,_,h,hg=>by simp only [SV.g] at hg;simp only [SV.V8,Option.some.injEq] at h;subst h;exact hg.1
 | .q x,v,_,h,hg=>by
  simp only [SV.g] at hg;obtain ⟨y,h1,_⟩:=hg;simp only [SV.V8,Option.some.injEq] at h;subst h;cases v<;>simp only [b6.G4,reduceCtorEq] at h1<;>rfl
theorem q6.bD:∀ {x:List SV} {v:List b6} {n:Nat},q6.V8 x=some n->q6.g C vs x v->A4 v=n
 |[],_,_,h,hg=>by simp only [q6.g] at hg;subst hg;simp only [q6.V8,Option.some.injEq] at h;subst h;rfl
 |x::xs,_,_,h,hg=>by
  simp only [q6.g] at hg;obtain ⟨d,ds,rfl,h1,h2⟩:=hg;simp only [q6.V8] at h;split at h
  ·rename_i a b ha hb
   simp only [Option.some.injEq] at h;subst h;simp only [A4];rw [SV.bD ha h1,q6.bD hb h2]
  ·cases h
end
theorem SO.bD {x:SO}{o:y7}{n:Nat}(h:x.V8 =some n)(hg:x.g C vs o):o.N4=n:=by
 cases x with
 |dead=>simp only [SO.g] at hg;subst hg;simp only [SO.V8,Option.some.injEq] at h;subst h;rfl
 |cells p l=>obtain ⟨cs,rfl,h1,_⟩:=hg;simp only [SO.V8] at h;simp only [y7.N4];exact q6.bD h h1
 |pr k=>simp only [SO.g] at hg;simp only [SO.V8,Option.some.injEq] at h;subst h;exact C.N4 k o hg
 |bn k=>simp only [SO.g] at hg;simp only [SO.V8,Option.some.injEq] at h;subst h;exact hg
 |top=>simp [SO.V8] at h
 |yd k b=>simp only [SO.g] at hg;simp only [SO.V8,Option.some.injEq] at h;subst h;exact hg.2
theorem Cm:∀ {x:List SO} {H:o6} {l:List Nat},wK x=some l->H6.g C vs x H->H.map y7.N4=l
 |[],_,_,h,hg=>by simp_all [H6.g,wK,Option.some.injEq]
 |x::xs,_,_,h,hg=>by
  obtain ⟨d,ds,rfl,h1,h2⟩:=hg;simp [wK] at h;split at h
  ·rename_i a b ha hb
   simp [Option.some.injEq] at h;subst h;simp only [List.map_cons];rw [SO.bD ha h1,Cm hb h2]
  ·cases h
mutual
theorem SV.dy (id:Nat):∀ {x:SV} {v:b6},x.g C vs v->(x.kill id).g C vs (v.kill id)
 | .top,_,_=>by simp [SV.kill,SV.g]
 | .any,_,hg=>by simp only [SV.g] at hg;subst hg;simp [SV.kill,b6.kill,SV.g]
 | .d _,_,hg=>by have hg' :=hg;simp only [SV.g] at hg;obtain ⟨y,rfl,_⟩:=hg;simpa only [SV.kill,b6.kill] using hg'
 | .own _ _,_,hg=>by have hg' :=hg;simp only [SV.g] at hg;obtain ⟨y,_,rfl,_⟩:=hg;simpa only [SV.kill,b6.kill] using hg'
 | .I8,_,hg=>by simp only [SV.g] at hg;subst hg;simp [SV.kill,b6.kill,SV.g]
 | .ptr i o,_,hg=>by
  simp only [SV.g] at hg;subst hg;simp only [SV.kill,b6.kill];split
  ·rename_i h;rw [if_pos (b9 h)];simp [SV.g]
  ·rename_i h;rw [if_neg (fun e=>h (by rw [e];exact Nat.beq_refl _))];simp [SV.g]
 | .wp ..,_,_=>by simp [SV.kill,SV.g]
 | .Q5 _,_,hg=>by have hg' :=hg;simp only [SV.g] at hg;obtain ⟨_,_,rfl,_⟩:=hg;simpa only [SV.kill,b6.kill] using hg'
 | .D4 i z l n,_,hg=>by
  simp only [SV.g] at hg;subst hg;simp only [SV.kill,b6.kill];split
  ·rename_i h;rw [if_pos (b9 h)];simp [SV.g]
  ·rename_i h;rw [if_neg (fun e=>h (by rw [e];exact Nat.beq_refl _))];simp [SV.g]
 | .agg p l,_,hg=>by
  have hg' :=hg;simp only [SV.g] at hg;obtain ⟨cs,rfl,h1,h2⟩:=hg;simp only [SV.kill,b6.kill];split
  ·rename_i h
   rw [Pk id cs (q6.bD h h1)];exact hg'
  ·simp only [SV.g]
   exact ⟨_,rfl,q6.dy id h1,fun k h=>by cases h⟩
 | .tuple l,_,hg=>by
  simp only [SV.g] at hg;obtain ⟨cs,rfl,h1⟩:=hg;simp only [SV.kill,b6.kill,SV.g];exact ⟨_,rfl,q6.dy id h1⟩
 | .bn k,v,hg=>by
  simp only [SV.kill];split
  ·rename_i h
   have h:=b9 h;subst h;simp only [SV.g] at hg ⊢;rw [Vh id v hg.1];exact hg
  ·simp [SV.g]
 | .q x,v,hg=>by
  have hg' :=hg;simp only [SV.g] at hg;obtain ⟨y,h1,_⟩:=hg;simp only [SV.kill];rw [Vh id v (by cases v<;>simp only [b6.G4,reduceCtorEq] at h1<;>rfl)];exact hg'
theorem q6.dy (id:Nat):∀ {x:List SV} {v:List b6},q6.g C vs x v->q6.g C vs (q6.kill id x) (G5 id v)
 |[],_,h=>by simp only [q6.g] at h;subst h;simp [q6.kill,G5,q6.g]
 |x::xs,_,h=>by
  simp only [q6.g] at h;obtain ⟨d,ds,rfl,h2,h3⟩:=h;simp only [q6.kill,G5,q6.g];exact ⟨_,_,rfl,SV.dy id h2,q6.dy id h3⟩
end
theorem SO.dy (id:Nat){x:SO}{o:y7}(h:x.g C vs o):(x.kill id).g C vs (o.kill id):=by
 cases x with
 |dead=>simp only [SO.g] at h;subst h;rfl
 |cells p l =>
  have h' :=h;obtain ⟨cs,rfl,h1,h2⟩:=h;simp only [SO.kill,y7.kill];split
  ·rename_i hb
   rw [Pk id cs (q6.bD hb h1)];exact h'
  ·exact ⟨_,rfl,q6.dy id h1,fun k h=>by cases h⟩
 |pr k =>
  simp only [SO.g] at h;simp only [SO.kill];rw [PL id (C.N4 k o h)];exact h
 |bn k =>
  simp only [SO.kill];split
  ·rename_i hk
   have hk:=b9 hk;subst hk;rw [PL id h];exact h
  ·trivial
 |top=>trivial
 |yd k b =>
  simp only [SO.kill];split
  ·rename_i hk
   rw [PM id (by have:=h.2;have:=o7 hk;omega)];exact h
  ·trivial
theorem H6.map {f:SO->SO}{f' :y7->y7}(hf:∀ x a,SO.g C vs x a->SO.g C vs (f x) (f' a)):∀ {x:List SO} {d:o6},H6.g C vs x d->H6.g C vs (x.map f) (d.map f')
 |[],_,h=>by simp_all [H6.g]
 |x::xs,_,h=>by
  obtain ⟨d,ds,rfl,h2,h3⟩:=h;exact ⟨_,_,rfl,hf _ _ h2,H6.map hf h3⟩
end
def wH (l:List Nat):Nat:=l.foldr max 0
def T9 (bs:List Nat)(strict:Nat):Nat->Nat->Nat
 |0,n=>n
 |k+1,n=>if L3 n strict then n else
  if r9 (max n (wH ((bs.take n).drop strict))) n then n else T9 bs strict k (max n (wH ((bs.take n).drop strict)))
def JD:List Nat->Nat->Bool
 |[],_=>true
 |b::bs,k=>L3 b (k+1)&&JD bs (k+1)
def ot (bs:List Nat)(strict n:Nat):Nat:=if L3 n strict then n else if JD ((bs.take n).drop strict) strict then n else strict
theorem Og:∀ H:o6,Y6 H=wH (H.map y7.N4)
 |[]=>rfl
 |o::H=>by simp [Y6,wH];rw [Og H];rfl
theorem nQ (H:o6)(a b:Nat):Y6 ((H.take a).drop b)=wH (((H.map y7.N4).take a).drop b):=by
 rw [Og,List.map_drop,List.map_take]
theorem tf (H:o6)(strict:Nat):∀ (k n:Nat),I4 H strict k n=T9 (H.map y7.N4) strict k n
 |0,n=>rfl
 |k+1,n=>by
  simp [I4,T9,nQ,Nat.ble_eq,Nat.beq_eq];split
  ·rfl
  ·split
   ·rfl
   ·exact tf H strict k _
theorem Ow:∀ (H:o6) (k:Nat),P8 H k=JD (H.map y7.N4) k
 |[],_=>rfl
 |o::H,k=>by
  simp [P8,JD];rw [Ow H (k+1)]
  congr 1
  rw [Bool.eq_iff_iff,Nat.ble_eq];simp
theorem Jc (H:o6)(s n:Nat):C8 H s n=ot (H.map y7.N4) s n:=by
 simp [C8,ot,Ow,List.map_drop,List.map_take,Nat.ble_eq]
def aQ (s:SS):q7->SV×SS
 | .loc j=>match s.L[j]? with
  |some (.own z x)=>(.own z x,{ s with L:=s.L.set j (.d x) })
  |some (.q x)=>(.q x,s)
  |_=>(bO s.T s.L (.loc j),s)
 | .const v=>(Sz v,s)
 | .slot t=>(bO s.T s.L (.slot t),s)
section
variable {C:Ctx} {vs:List Nat} {s:SS} {st:E5}
theorem bN (hs:s.g C vs st)(k:Nat){v:SV}{a:b6}(h:v.g C vs a):(nh s k v).g C vs (put st k a) :=
 ⟨hs.1,hs.2.1,q6.set hs.2.2.1 k h,hs.2.2.2⟩
theorem wo (hs:s.g C vs st)(x:q7):(aQ s x).1.g C vs (D7 st x).1/\(aQ s x).2.g C vs (D7 st x).2:=by
 obtain ⟨hT,hH,hL,ht,hB⟩:=hs;have hr:∀ x,(bO s.T s.L x).g C vs (F5 st.T st.L x):=fun x=>Dw hT hL x
 cases x with
 |const v=>exact ⟨PJ v,hT,hH,hL,ht,hB⟩
 |slot t=>exact ⟨hr (.slot t),hT,hH,hL,ht,hB⟩
 |loc j =>
  simp only [aQ];split
  ·rename_i z x e
   obtain ⟨a,h1,h2⟩:=q6.get hL e;simp only [SV.g] at h2;obtain ⟨len,cells,rfl,h3⟩:=h2;simp only [D7,h1];refine ⟨?_,hT,hH,q6.set hL j ?_,ht,hB⟩
   ·simp only [SV.g];exact ⟨_,_,rfl,h3⟩
   ·simp only [SV.g];exact ⟨_,rfl,h3⟩
  ·rename_i x e
   obtain ⟨a,h1,h2⟩:=q6.get hL e;have hq:∀ v:b6,v.G4=a.G4->(SV.q x).g C vs v:=fun v hv=>by
    simp only [SV.g] at h2 ⊢;rw [hv];exact h2
   simp only [D7];split
   ·rename_i z len cells e2
    rw [h1] at e2;cases e2;refine ⟨hq _ rfl,hT,hH,?_,ht,hB⟩;have:=q6.set hL j (a:= .q x) (b:= .d (.slice len cells)) (hq _ rfl)
    rwa [X7 e] at this
   ·refine ⟨hq _ ?_,hT,hH,hL,ht,hB⟩
    simp only [F5,List.getD_eq_getElem?_getD,h1,Option.getD_some];cases a<;>rfl
  ·rename_i hno hnq
   simp only [D7];split
   ·rename_i z len cells e
    cases hx:s.L[j]? with
    |none=>rw [q6.none hL hx] at e;cases e
    |some y =>
     obtain ⟨a,h1,h2⟩:=q6.get hL hx;rw [e] at h1;cases h1;have hy:(y= .top\/y= .bn 0):=by
      cases y<;>simp only [SV.g,reduceCtorEq,and_false,exists_false] at h2
      ·exact .inl rfl
      ·obtain ⟨_,h2,_⟩:=h2;cases h2
      ·rename_i z' x';exact absurd hx (hno z' x')
      ·obtain ⟨_,_,h2,_⟩:=h2;cases h2
      ·obtain ⟨_,h2,_⟩:=h2;cases h2
      ·obtain ⟨_,h2,_⟩:=h2;cases h2
      ·rw [<- h2.1];exact .inr rfl
      ·rename_i x';exact absurd hx (hnq x')
     have hg:∀ v:b6,v.N4=0->v.one=true->y.g C vs v:=fun v e1 e2=>by
      rcases hy with rfl|rfl
      ·simp [SV.g]
      ·simp only [SV.g];exact ⟨e1,e2⟩
     refine ⟨?_,hT,hH,?_,ht,hB⟩
     ·have:bO s.T s.L (.loc j)=y:=by rcases hy with rfl|rfl<;>simp [bO,List.getD_eq_getElem?_getD,hx,SV.G4]
      rw [this];exact hg _ rfl rfl
     ·have:=q6.set hL j (a:=y) (b:= .d (.slice len cells)) (hg _ rfl rfl)
      rwa [X7 hx] at this
   ·exact ⟨hr (.loc j),hT,hH,hL,ht,hB⟩
end
def rP (s:SS)(u5:Option Nat)(o:SO):SS:=match u5 with
 |none=>{ s with H:=s.H++[o] }
 |some i=>{ s with H:=s.H.set i o }
def jl (s:SS)(u5:Option Nat):Nat:=u5.getD s.H.length
def okB (lim:G9)(id:Nat):Option Nat->Bool
 |some b=>L3 b (id+1)||(L3 lim.base id&&L3 lim.strict id)
 |none=>L3 lim.base id&&L3 lim.strict id
def wj (x y:SV):Option SV:=match x.data?,y.data? with
 |some a,some b=>some (.q (a.join b))
 |_,_=>none
def NH:List SV->List SV->Option (List SV)
 |[],l=>some l
 |_::_,[]=>none
 |y::ys,x::l=>match wj x y,NH ys l with
  |some z,some r=>some (z::r)
  |_,_=>none
def Gk (new:List SV)(sz:Nat):Nat->List SV->Option (List SV)
 |0,l=>some l
 |c+1,l=>match NH new l with
  |some l1=>match Gk new sz c (l1.drop sz) with
   |some r=>some (l1.take sz++r)
   |none=>none
  |none=>none
def Dy (lim:G9)(k n:Nat)(s:SS)(x:q7):SV->Option SS
 | .ptr id off=>match (aQ s x).1.cells? with
  |some l=>if r9 l.length n&&lim.may id&&okB lim id (q6.V8 l) then
    match swr (aQ s x).2.H id off (aQ s x).1.tag l with
    |some H' =>some (nh { (aQ s x).2 with H:=H',n6:= .obj id::(aQ s x).2.n6 } k .any)
    |none=>none
   else none
  |none=>none
 | .wp id lo sz c=>match (aQ s x).1.cells?,(aQ s x).2.H[id]? with
  |some l,some (.cells _ old)=>match Gk l sz c (old.drop lo) with
   |some r=>if r9 l.length n&&lim.may id&&okB lim id (q6.V8 l)&&L3 n sz&&L3 (lo+c * sz) (old.length+sz - n)&&L3 lo old.length then
     some (nh { (aQ s x).2 with H:=(aQ s x).2.H.set id (.cells none (old.take lo++r)),n6:= .obj id::(aQ s x).2.n6 } k .any)
    else none
   |none=>none
  |_,_=>none
 |_=>none
def IK (B:fZ)(H:List SO)(sz:Nat):SV->Option SD
 | .d z=>match z.slice? B sz with
  |some _=>some z
  |none=>none
 | .D4 id z lo len=>if r9 z sz then match Ur H id lo (len * sz) with
   |some l=>match iN (l.map SV.G4) with
    |some xs=>some (mkSlice sz len xs)
    |none=>none
   |none=>none
  else none
 |_=>none
def YJ (B:fZ)(sz:Nat)(x z:SD):Option (SD×Nat):=match x.slice? B sz,z.slice? B sz with
 |some (_,lo1,hi1,ao7),some (_,lo2,hi2,ao8) =>
  if r9 hi1 0 then some (z,hi2) else if r9 hi2 0 then some (x,hi1) else some (.slice none (lo1+lo2) (hi1+hi2) (F2.join ao7 ao8),hi1+hi2)
 |_,_=>none
def EA (n6:List Touch)(s:Nat):Bool:=n6.any (Touch.R9 s)
def yy (s:SS):q7->Option (Nat×Nat)
 | .loc m=>match s.L[m]? with
  |some (.ptr id off)=>some (id,off)
  |_=>none
 | .slot t=>if EA s.n6 t then none else match s.T[t]? with
  |some (.ptr id off)=>some (id,off)
  |_=>none
 | .const _=>none
def yD (l:G9)(s:SS)(sz:Nat):q9->Option (SD×SS)
 | .O3 (.slot t)=>if EA s.n6 t then none else match s.T[t]? with
  |some (.own z x)=>if r9 z sz then some (x,{ s with T:=s.T.set t (.d x),n6:= .slot t::s.n6 }) else none
  |_=>none
 | .load none x=>match yy s x with
  |some (id,off)=>if s.n6.any (Touch.aP id off)|| !l.may id then none else
   match s.H[id]? with
   |some (.cells p cs)=>match cs[off]? with
    |some (.own z x)=>if r9 z sz then some (x,{ s with H:=s.H.set id (.cells p (cs.set off (.d x))),n6:= .cell id off::s.n6 }) else none
    |_=>none
   |_=>none
  |none=>none
 |_=>none
def yC (l:G9)(j4:List n8)(s:SS)(sz:Nat):q7->Option (SD×SS)
 | .const (.own z len cells)=>if r9 z sz then some (.lit (.slice len cells),s) else none
 | .loc j=>match s.L[j]? with
  |some (.own z x)=>if r9 z sz then some (x,{ s with L:=s.L.set j (.d x) }) else none
  |some (.d x)=>match x.pV s.B,j4[j]? with
   |some _,some a=>yD l s sz a.op
   |_,_=>none
  |_=>none
 |_=>none
def Dr (l:G9)(s:SS):q9->Bool
 | .O3 (.slot t)=> !EA s.n6 t&&(match s.T[t]? with|some .I8=>true|_=>false)
 | .load none x=>match yy s x with
  |some (id,off)=> !s.n6.any (Touch.aP id off)&&l.may id&&(match s.H[id]? with
   |some (.cells _ cs)=>(match cs[off]? with|some .I8=>true|_=>false)
   |_=>false)
  |none=>false
 |_=>false
def IP (l:G9)(j4:List n8)(s:SS):q7->Bool
 | .const .I8=>true
 | .loc j=>match s.L[j]? with
  |some .I8=>true
  |some (.d x)=>match x.pV s.B,j4[j]? with
   |some _,some a=>Dr l s a.op
   |_,_=>false
  |_=>false
 |_=>false
def Di (B:fZ)(H:List SO)(sz:Nat):SV->Option (Nat×List SV)
 | .d z=>match z.slice? B sz with
  |some (_,lo,hi,row)=>if r9 lo hi then some (lo,(c9 lo (row.map .d)).flatten) else none
  |none=>none
 | .D4 id z lo len=>if r9 z sz then match Ur H id lo (len * sz) with
   |some l=>some (len,l.map SV.G4)
   |none=>none
  else none
 |_=>none
def Kt (n bytes:Nat):Bool:=L3 ((2 * n+512) * bytes) 281474976710656
def oo (lim:G9)(j4:List n8)(u5:Option Nat)(k sz bytes:Nat)(ob:Bool)(s:SS)(x:q7)(y:SV):Option SS :=
 if ob then match Di s.B s.H sz y with
  |some (m,cs)=>if IP lim j4 s x&&Kt m bytes&&Nat.blt 0 sz then
    (if r9 m 0 then some (nh s k .I8) else some (nh (rP s u5 (.cells none cs)) k (.D4 (jl s u5) sz 0 m)))
   else none
  |none=>none
 else match IK s.B s.H sz y with
  |some z=>match yC lim j4 s sz x with
   |some (x0,s')=>match YJ s.B sz x0 z with
    |some (r,hi)=>if Kt hi bytes&&Nat.blt 0 sz then some (nh s' k (.own sz r)) else none
    |none=>none
   |none=>none
  |none=>none
def vU (lim:G9)(entry k sz bytes:Nat)(s:SS)(id lo len:Nat)(y:SV):Option SS :=
 if L3 lim.base id&&L3 entry id&&lim.may id then
  match s.H[id]?,Di s.B s.H sz y with
  |some (.cells _ l),some (m,cs)=>match q6.V8 cs with
   |some b=>if r9 lo 0&&r9 (len * sz) l.length&&Kt (len+m) bytes&&L3 b id&&cs.all SV.one&&Nat.blt 0 sz then
     some (nh { s with T:=q6.kill id s.T,H:=(s.H.take lim.base++(s.H.drop lim.base).map (SO.kill id)).set id (.cells none (q6.kill id l++cs)),L:=q6.kill id s.L,n6:= .obj id::s.n6 } k (.D4 id sz lo (len+m)))
    else none
   |none=>none
  |_,_=>none
 else none
section
variable {C:Ctx} {vs:List Nat} {s:SS} {st:E5}
theorem SS.F5 (hs:s.g C vs st)(x:q7):(bO s.T s.L x).g C vs (F5 st.T st.L x):=Dw hs.1 hs.2.2.1 x
theorem ar6 {x y z:SV}{v:b6}(h:wj x y=some z):(x.g C vs v->z.g C vs v)/\(y.g C vs v->z.g C vs v):=by
 unfold wj at h;split at h
 ·rename_i a b ha hb
  cases h;have ad:∀ {v:b6} {d:Data},v.data? =some d->v.G4= .d d:=by intro v d h;cases v<;>simp_all [b6.data?,b6.G4]
  refine ⟨fun hx=> ?_,fun hy=> ?_⟩
  ·obtain ⟨d,h1,h2⟩:=SV.HS hx ha
   simp only [SV.g];exact ⟨d,ad h1,SD.S8 a b h2⟩
  ·obtain ⟨d,h1,h2⟩:=SV.HS hy hb
   simp only [SV.g];exact ⟨d,ad h1,SD.S9 a b h2⟩
 ·cases h
theorem Jh:∀ {new l r:List SV} {ns cs:List b6},NH new l=some r->q6.g C vs l cs->(q6.g C vs r cs)/\(q6.g C vs new ns->q6.g C vs r (ns++cs.drop ns.length))
 |[],l,r,ns,cs,h,hl=>by
  simp only [NH,Option.some.injEq] at h;subst h;refine ⟨hl,fun hn=> ?_⟩;simp only [q6.g] at hn;subst hn;simpa using hl
 |_::_,[],r,ns,cs,h,hl=>by simp [NH] at h
 |y::ys,x::l,r,ns,cs,h,hl=>by
  simp only [NH] at h;split at h
  ·rename_i z r' hz hr
   cases h;simp only [q6.g] at hl;obtain ⟨c,cs',rfl,h1,h2⟩:=hl;refine ⟨?_,fun hn=> ?_⟩
   ·simp only [q6.g]
    exact ⟨_,_,rfl,(ar6 hz).1 h1,(Jh (ns:=[]) hr h2).1⟩
   ·simp only [q6.g] at hn
    obtain ⟨n,ns',rfl,n1,n2⟩:=hn;simp only [L6,B7,List.drop_succ_cons,q6.g];exact ⟨_,_,rfl,(ar6 hz).2 n1,(Jh hr h2).2 n2⟩
  ·cases h
theorem KG {new:List SV}{sz:Nat}{ns:List b6}(hn:q6.g C vs new ns)(hsz:ns.length<=sz):∀ {c:Nat} {l r:List SV} {cs:List b6},Gk new sz c l=some r->q6.g C vs l cs->q6.g C vs r cs/\∀ j,j<c->q6.g C vs r (splice cs (j * sz) ns)
 |0,l,r,cs,h,hl=>by
  simp only [Gk,Option.some.injEq] at h;subst h;exact ⟨hl,fun j hj=>absurd hj (by omega)⟩
 |c+1,l,r,cs,h,hl=>by
  simp only [Gk] at h;split at h
  ·rename_i l1 h1
   split at h
   ·rename_i r' h2
    cases h;obtain ⟨g1,g2⟩:=Jh (ns:=ns) h1 hl;have g2:=g2 hn;obtain ⟨k1,k2⟩:=KG hn hsz h2 (q6.drop g1 sz);have e0:cs=cs.take sz++cs.drop sz:=(List.take_append_drop sz cs).symm;refine ⟨?_,fun j hj=> ?_⟩
    ·rw [e0];exact q6.app (q6.take g1 sz) k1
    ·cases j with
     |zero =>
      simp only [splice,Nat.zero_mul,List.take_zero,List.nil_append,Nat.zero_add];have e1:ns++cs.drop ns.length=(ns++cs.drop ns.length).take sz++cs.drop sz:=by
       have:=(List.take_append_drop sz (ns++cs.drop ns.length)).symm;rw [List.drop_append,k9 hsz,List.nil_append,List.drop_drop,show ns.length+(sz - ns.length)=sz by omega] at this;exact this
      rw [e1];exact q6.app (q6.take g2 sz) k1
     |succ j =>
      have h3:=k2 j (by omega)
      by_cases hlen:sz<=cs.length
      ·have e1:splice cs ((j+1) * sz) ns=cs.take sz++splice (cs.drop sz) (j * sz) ns:=by
        simp only [splice,List.append_assoc];rw [show (j+1) * sz=sz+j * sz by rw [Nat.succ_mul,Nat.add_comm],List.take_add,List.append_assoc,List.drop_drop,H9]
       rw [e1];exact q6.app (q6.take g1 sz) h3
      ·have e1:splice cs ((j+1) * sz) ns=cs.take sz++splice (cs.drop sz) (j * sz) ns:=by
        simp only [splice,List.append_assoc];rw [show (j+1) * sz=sz+j * sz by rw [Nat.succ_mul,Nat.add_comm],List.take_add,List.append_assoc,List.drop_drop,H9]
       rw [e1];exact q6.app (q6.take g1 sz) h3
   ·cases h
  ·cases h
theorem QY (hs:s.g C vs st){E:Env}{k n:Nat}{x:q7}{a:SV}{a' :b6}(ha:a.g C vs a'){s' :SS}(h:Dy E.lim k n s x a=some s'):∃ st',Q0 E k n st a' x=some st' /\s'.g C vs st' :=by
 have hbd:∀ (id:Nat) (l:List SV) (cs:List b6),q6.g C vs l cs->okB E.lim id (q6.V8 l)=true->A4 cs<=id+1\/(E.lim.base<=id/\E.lim.strict<=id):=by
  intro id l cs h2 h4;unfold okB at h4;split at h4
  ·rename_i b hb
   simp only [Bool.or_eq_true,b5,Nat.ble_eq] at h4;rw [q6.bD hb h2];exact h4
  ·simp only [b5,Nat.ble_eq] at h4
   exact .inr h4
 cases a<;>simp only [Dy,reduceCtorEq] at h
 rotate_left
 ·rename_i id lo sz c
  simp only [SV.g] at ha;obtain ⟨j,j1,rfl⟩:=ha;obtain ⟨hv,hT,hH,hL,ht,hB⟩:=wo hs x;split at h
  ·rename_i l p old hl ho
   obtain ⟨cs,h1,h2,h3⟩:=SV.vI hv hl;split at h
   ·rename_i r hr
    split at h
    ·rename_i hc
     simp only [b5,Nat.ble_eq] at hc;cases h;have hlen:=q6.len h2;have hn:=b9 hc.1.1.1.1.1;obtain ⟨o',o1,co,rfl,o2,_⟩:=H6.get hH ho;have WT:=q6.len o2;have hw:=(KG h2 (by omega) hr (q6.drop o2 lo)).2 j j1;have hcs:j * sz+sz<=c * sz:=by rw [<- Nat.succ_mul];exact Nat.mul_le_mul_right _ j1
     have hwr:wr (D7 st x).2.H id (lo+j * sz) cs=some ((D7 st x).2.H.set id (.cells (splice co (lo+j * sz) cs))):=by
      simp only [wr,o1];rw [if_pos (by omega)]
     have e1:splice co (lo+j * sz) cs=co.take lo++splice (co.drop lo) (j * sz) cs:=by
      simp only [splice,List.append_assoc];rw [List.take_add,List.append_assoc,List.drop_drop,H9]
     refine ⟨_,?_,bN (s:={ (aQ s x).2 with H:=(aQ s x).2.H.set id (.cells none (old.take lo++r)),n6:= .obj id::(aQ s x).2.n6 }) (st:={ (D7 st x).2 with H:=(D7 st x).2.H.set id (.cells (splice co (lo+j * sz) cs)),n6:= .obj id::(D7 st x).2.n6 })
      ⟨hT,H6.set hH id ⟨_,rfl,by rw [e1];exact q6.app (q6.take o2 lo) hw,fun k hk=>by cases hk⟩,hL,congrArg (Touch.obj id::·) ht,hB⟩ k (v:= .any) (a:= .any) (by simp only [SV.g])⟩
     simp only [Q0,h1];rw [if_pos ⟨by omega,hc.1.1.1.1.2,hbd _ _ _ h2 hc.1.1.1.2⟩,hwr]
    ·cases h
   ·cases h
  ·cases h
 rename_i id off;rw [bM ha];obtain ⟨hv,hT,hH,hL,ht,hB⟩:=wo hs x;split at h
 ·rename_i l hl
  obtain ⟨cs,h1,h2,h3⟩:=SV.vI hv hl;split at h
  ·rename_i hc
   simp only [b5] at hc;split at h
   ·rename_i H' hw
    cases h;obtain ⟨H3,w1,w2⟩:=aq4 hH h2 h3 hw;have hlen:=q6.len h2;have hn:=b9 hc.1.1;have hbb:A4 cs<=id+1\/(E.lim.base<=id/\E.lim.strict<=id):=by
     have h4:=hc.2;unfold okB at h4;split at h4
     ·rename_i b hb
      simp only [Bool.or_eq_true,b5,Nat.ble_eq] at h4;rw [q6.bD hb h2];exact h4
     ·simp only [b5,Nat.ble_eq] at h4
      exact .inr h4
    refine ⟨_,?_,bN (s:={ (aQ s x).2 with H:=H',n6:= .obj id::(aQ s x).2.n6 }) (st:={ (D7 st x).2 with H:=H3,n6:= .obj id::(D7 st x).2.n6 }) ⟨hT,w2,hL,congrArg (Touch.obj id::·) ht,hB⟩ k (v:= .any) (a:= .any) (by simp only [SV.g])⟩;simp only [Q0,h1];rw [if_pos ⟨by omega,hc.1.2,hbb⟩,w1]
   ·cases h
  ·cases h
 ·cases h
theorem QB (hs:s.g C vs st){sz:Nat}{y:SV}{y' :b6}(hy:y.g C vs y'){z:SD}(h:IK s.B s.H sz y=some z):∃ m cs new,J5 st.H sz y' =some (m,cs)/\N9 cs=some new/\z.g C vs (.slice m new):=by
 obtain ⟨hT,hH,hL,ht,hB⟩:=hs;cases y<;>simp only [IK,reduceCtorEq] at h
 ·split at h
  ·rename_i q hq
   cases h;obtain ⟨d,rfl,h1⟩:=aF hy;obtain ⟨hw,rows,rfl,h2,h3,h4,h5⟩:=SD.dJ hB hq h1;have hfl:rows.flatten.length=rows.length * sz:=jE (fun r hr=>by grind [F2.len]);exact ⟨_,_,_,by simp_all [J5,if_true],gA _,h1⟩
  ·cases h
 ·rename_i id z' lo len
  rw [kS hy];split at h
  ·split at h
   ·rename_i l hl
    split at h
    ·rename_i xs hxs
     cases h;obtain ⟨cs,h1,h2⟩:=Bi hH hl;have h3:=q6.map (C:=C) (vs:=vs) (fun _ _=>SV.oC) h2;obtain ⟨ds,h4,h5⟩:=mX h3 hxs;have hlen:xs.length=len * sz:=by
      have e1:=F2.len h5;have e2:∀ {v:List b6} {d:List Data},N9 v=some d->d.length=v.length:=by
       intro v
       induction v with
       |nil=>simp_all [N9,Option.some.injEq]
       |cons a v ih =>
        grind [N9,Option.some.injEq]
      have e4:=q6.len h2;simp_all [Ur]<;>grind
     refine ⟨len,_,ds,?_,h4,od hlen h5⟩;simp_all [J5,if_pos]
    ·cases h
   ·cases h
  ·cases h
theorem YK {B:fZ}(hB:Bg vs B){sz:Nat}{x z r:SD}{hi len m:Nat}{cells new:List Data}(h:YJ B sz x z=some (r,hi))(hx:x.g C vs (.slice len cells))(hz:z.g C vs (.slice m new)):r.g C vs (.slice (len+m) (cells++new))/\len+m<=hi:=by
 unfold YJ at h;split at h
 ·rename_i v1 lo1 hi1 ao7 v2 lo2 hi2 ao8 e1 e2
  obtain ⟨w1,bb7,r1,a1,a2,a3,a4⟩:=SD.dJ hB e1 hx;obtain ⟨w2,bb8,r2,b1,b2,b3,b4⟩:=SD.dJ hB e2 hz;split at h
  ·simp_all
  ·split at h
   ·simp_all
   ·grind [SD.g,List.flatten_append,E0,F2.S8,F2.S9]
 ·cases h
theorem QT (hs:s.g C vs st){x:q7}{id off:Nat}(h:yy s x=some (id,off)):Z8 st x=some (id,off):=by
 obtain ⟨hT,hH,hL,ht,hB⟩:=hs;cases x with
 |loc m =>
  simp [yy] at h;split at h
  ·rename_i e
   obtain ⟨a,h1,h2⟩:=q6.get hL e;rw [bM h2] at h1
   grind [Z8]
  ·cases h
 |slot t =>
  simp only [yy] at h;split at h
  ·cases h
  ·rename_i hh
   unfold EA at hh;split at h
   ·rename_i e
    obtain ⟨a,h1,h2⟩:=q6.get hT e;rw [bM h2] at h1;simp_all [Z8,if_neg]
   ·cases h
 |const v=>cases h
theorem IX (hs:s.g C vs st){l:G9}{sz:Nat}{op:q9}{x:SD}{s' :SS}(h:yD l s sz op=some (x,s')):∃ len cells st',V2 l st sz op=some (len,cells,st')/\x.g C vs (.slice len cells)/\s'.g C vs st' :=by
 have hs' :=hs;obtain ⟨hT,hH,hL,ht,hB⟩:=hs;unfold yD at h;split at h
 ·rename_i t
  split at h
  ·cases h
  ·rename_i hh
   unfold EA at hh;split at h
   ·rename_i z x' e
    split at h
    ·obtain ⟨rfl,rfl⟩:=h
     obtain ⟨a,h1,h2⟩:=q6.get hT e;obtain ⟨len,cells,rfl,h3⟩:=pZ h2;refine ⟨len,cells,{ st with T:=st.T.set t (.d (.slice len cells)),n6:= .slot t::st.n6 },?_,h3,q6.set hT t (bT h3),hH,hL,by simp_all,hB⟩;simp_all [V2,if_neg,if_pos]
    ·cases h
   ·cases h
 ·split at h
  ·rename_i id off hp
   split at h
   ·cases h
   ·split at h
    ·rename_i p cs e
     split at h
     ·rename_i z x' e2
      split at h
      ·obtain ⟨rfl,rfl⟩:=h
       obtain ⟨o,h1,h2⟩:=H6.get hH e;obtain ⟨ds,rfl,h3,h4⟩:=h2;obtain ⟨a,h5,h6⟩:=q6.get h3 e2;obtain ⟨len,cells,rfl,h7⟩:=pZ h6;refine ⟨len,cells,{ st with H:=st.H.set id (.cells (ds.set off (.d (.slice len cells)))),n6:= .cell id off::st.n6 },?_,h7,hT,H6.set hH id ⟨_,rfl,q6.set h3 off (bT h7),fun k hk=> ?_⟩,hL,by simp_all,hB⟩
       ·simp [V2,QT hs' hp]
        simp_all
       simp_all [b6.G4,List.map_set,X7]
      ·cases h
     ·cases h
    ·cases h
  ·cases h
 ·cases h
theorem rO (hB:Bg vs s.B){x:SD}{d:Data}{q:Option Nat×Nat×Nat}(h:x.pV s.B=some q)(hx:x.g C vs d):∃ n cells,d= .slice n cells:=by
 grind [SD.Ip]
theorem IW (hs:s.g C vs st){l:G9}{j4:List n8}{sz:Nat}{y:q7}{x:SD}{s' :SS}(h:yC l j4 s sz y=some (x,s')):∃ len cells st',Q1 l j4 st sz y=some (len,cells,st')/\x.g C vs (.slice len cells)/\s'.g C vs st' :=by
 have hs' :=hs;obtain ⟨hT,hH,hL,ht,hB⟩:=hs;unfold yC at h;split at h
 ·split at h
  ·rename_i hz
   have hz:=b9 hz
   grind [Q1,SD.g]
  ·cases h
 ·rename_i j
  split at h
  ·rename_i z x' e
   split at h
   ·obtain ⟨rfl,rfl⟩:=h
    obtain ⟨a,h1,h2⟩:=q6.get hL e;obtain ⟨len,cells,rfl,h3⟩:=pZ h2;refine ⟨len,cells,{ st with L:=st.L.set j (.d (.slice len cells)) },?_,h3,hT,hH,q6.set hL j (bT h3),ht,hB⟩;simp_all [Q1,if_pos]
   ·cases h
  all_goals grind [q6.get,aF,rO,IX,Q1]
 ·cases h
theorem Nw (hs:s.g C vs st){l:G9}{op:q9}(h:Dr l s op=true):mP l st op=true:=by
 have hs' :=hs;obtain ⟨hT,hH,hL,ht,hB⟩:=hs;unfold Dr at h;split at h
 ·simp [EA] at h
  grind [q6.get,SV.g,mP,Bool.and_self]
 ·split at h
  ·simp [b5] at h
   obtain ⟨h1,h2⟩:=h;split at h2
   ·rename_i p cs e
    split at h2
    ·obtain ⟨o,h3,h4⟩:=H6.get hH e
     obtain ⟨ds,rfl,h5,_⟩:=h4
     grind [q6.get,SV.g,mP,QT,Bool.and_self]
    ·cases h2
   ·cases h2
  ·cases h
 ·cases h
theorem QM (hs:s.g C vs st){l:G9}{j4:List n8}{y:q7}(h:IP l j4 s y=true):isNil l j4 st y=true:=by
 have hs' :=hs;obtain ⟨hT,hH,hL,ht,hB⟩:=hs;unfold IP at h;split at h
 ·rfl
 ·all_goals grind [q6.get,SV.g,isNil,aF,rO,Nw]
 ·cases h
theorem JH {row:List SD}:∀ {rows:List (List Data)},(∀ r,r ∈ rows->F2.g C vs row r)->q6.g C vs (c9 rows.length (row.map .d)).flatten (rows.flatten.map .d)
 |[],_=>by simp [q6.g]
 |r::rows,h=>by
  simp only [List.flatten_cons,List.map_append];exact q6.app (q6.It (h r (by simp))) (JH (fun r hr=>h r (by simp [hr])))
theorem FC (hs:s.g C vs st){sz m:Nat}{y:SV}{y' :b6}(hy:y.g C vs y'){l:List SV}(h:Di s.B s.H sz y=some (m,l)):∃ cs,J5 st.H sz y' =some (m,cs)/\q6.g C vs l cs:=by
 obtain ⟨hT,hH,hL,ht,hB⟩:=hs;cases y<;>simp only [Di,reduceCtorEq] at h
 ·split at h
  ·rename_i v lo hi row hq
   split at h
   ·rename_i he
    have he:=b9 he;simp [Option.some.injEq,Prod.mk.injEq] at h;obtain ⟨rfl,rfl⟩:=h;obtain ⟨d,rfl,h1⟩:=aF hy;obtain ⟨hw,rows,rfl,h2,h3,h4,h5⟩:=SD.dJ hB hq h1;have hfl:rows.flatten.length=rows.length * sz:=jE (fun r hr=>by grind [F2.len]);have hn:lo=rows.length:=by omega
    subst hn;exact ⟨_,by simp_all [J5,if_true],JH h5⟩
   ·cases h
  ·cases h
 ·rw [kS hy]
  split at h
  ·split at h
   ·rename_i l' hl
    obtain ⟨rfl,rfl⟩:=h;obtain ⟨cs,h1,h2⟩:=Bi hH hl;simp_all [q6.map,SV.oC,J5,if_pos]
   ·cases h
  ·cases h
theorem Dx {n m bytes:Nat}(h:Kt n bytes=true)(hm:m<=n):roomFor m bytes=true:=by
 have h:=o7 h;simp [roomFor,decide_eq_true_eq];exact Nat.le_trans (Nat.mul_le_mul_right _ (by omega)) h
theorem Dq (hs:s.g C vs st){u5:Option Nat}{o:SO}{o' :y7}(h:o.g C vs o'):(rP s u5 o).g C vs (J7 st u5 o')/\newId st u5=jl s u5:=by
 obtain ⟨hT,hH,hL,ht,hB⟩:=hs;have hlen:=H6.len hH;cases u5 with
 |none =>
  refine ⟨⟨hT,H6.app hH (by simp_all [H6.g]),hL,ht,hB⟩,?_⟩;simp [newId,jl,hlen]
 |some i=>exact ⟨⟨hT,H6.set hH i h,hL,ht,hB⟩,rfl⟩
theorem Bd (hs:s.g C vs st){E:Env}{j4:List n8}{u5:Option Nat}{k sz bytes:Nat}{ob:Bool}{x:q7}{y:SV}{y' :b6}(hy:y.g C vs y'){s' :SS}(h:oo E.lim j4 u5 k sz bytes ob s x y=some s'):∃ st',L0 E j4 u5 k sz bytes ob st x y' =some st' /\s'.g C vs st' :=by
 unfold oo at h;split at h
 ·split at h
  ·rename_i m cs he
   obtain ⟨ds,h1,h2⟩:=FC hs hy he;split at h
   ·rename_i hc
    simp [b5] at hc;have c1:=QM hs hc.1.1;have c2:=Dx hc.1.2 (n5 _);split at h
    ·cases h
     refine ⟨_,?_,bN hs k (v:= .I8) (a:= .I8) (by rfl)⟩;simp_all [L0,if_true,if_pos]
    ·cases h
     obtain ⟨n1,n2⟩:=Dq hs (u5:=u5) (o:= .cells none cs) (o' := .cells ds) ⟨ds,rfl,h2,fun k h=>by cases h⟩;refine ⟨_,?_,bN n1 k (v:= .D4 (jl s u5) sz 0 m) (a:= .D4 (newId st u5) sz 0 m) (by grind [SV.g])⟩;simp_all [L0,if_true,if_pos,if_neg]
   ·cases h
  ·cases h
 ·split at h
  ·rename_i z hz
   obtain ⟨m,cs,new,h1,h2,h3⟩:=QB hs hy hz;split at h
   ·rename_i x0 s1 ht
    obtain ⟨len,cells,S4,h4,h5,h6⟩:=IW hs ht;split at h
    ·rename_i r hi ae7
     obtain ⟨h7,h8⟩:=YK hs.2.2.2.2 ae7 h5 h3;split at h
     ·rename_i hc
      simp [b5] at hc;have c2:=Dx hc.1 h8;cases h;refine ⟨_,?_,bN h6 k (v:= .own sz r) (a:= .own sz (len+m) (cells++new)) (by grind [SV.g])⟩;simp_all [L0,if_neg,if_pos]
     ·cases h
    ·cases h
   ·cases h
  ·cases h
theorem Nr (hs:s.g C vs st){E:Env}{k sz bytes id lo len:Nat}{y:SV}{y' :b6}(hy:y.g C vs y'){s' :SS}(h:vU E.lim E.entry k sz bytes s id lo len y=some s'):∃ st',S2 E k sz bytes st id lo len y' =some st' /\s'.g C vs st' :=by
 unfold vU at h;split at h
 ·rename_i hc0
  simp [b5,Nat.ble_eq] at hc0;split at h
  ·rename_i p l m cs OP he
   split at h
   ·split at h
    ·rename_i hc
     simp only [b5,Nat.ble_eq] at hc;obtain ⟨⟨⟨⟨⟨c1,c2⟩,c3⟩,c4⟩,c5⟩,c6⟩:=hc;cases h;obtain ⟨ds,h1,h2⟩:=FC hs hy he;obtain ⟨hT,hH,hL,ht,hB⟩:=hs;obtain ⟨o,h3,h4⟩:=H6.get hH OP;obtain ⟨es,rfl,h5,_⟩:=h4;have e1:=q6.len h5;have c1:=b9 c1;have c2:=b9 c2;have hrf:=Dx c3 (n5 _);refine ⟨_,?_,bN (s:={ s with T:=q6.kill id s.T,H:=(s.H.take E.lim.base++(s.H.drop E.lim.base).map (SO.kill id)).set id (.cells none (q6.kill id l++cs)),L:=q6.kill id s.L,n6:= .obj id::s.n6 }) (st:={ T:=G5 id st.T,H:=(st.H.take E.lim.base++(st.H.drop E.lim.base).map (y7.kill id)).set id (.cells (G5 id es++ds)),L:=G5 id st.L,n6:= .obj id::st.n6 }) ⟨q6.dy id hT,H6.set (H6.app (H6.take hH _) (H6.map (fun _ _=>SO.dy id) (H6.drop hH _))) id (a:= .cells none (q6.kill id l++cs)) (b:= .cells (G5 id es++ds)) ⟨_,rfl,q6.app (q6.dy id h5) h2,fun k h=>by cases h⟩,q6.dy id hL,by simp_all,hB⟩ k (v:= .D4 id sz lo (len+m)) (a:= .D4 id sz lo (len+m)) (by rfl)⟩;simp only [S2,h3,h1];rw [if_pos ⟨hc0.1.1,hc0.1.2,hc0.2⟩,if_pos ⟨c1,by omega,hrf,by grind [q6.bD],q6.xS h2 c5,o7 c6⟩]
    ·cases h
   ·cases h
  ·cases h
 ·cases h
end
abbrev Sem:=fZ->FuncId->List SV->List SO->G9->Option (List (SV×List SO))
def ee (C:Ctx)(A:Prog)(sem:Sem):Prop:=∀ B f args H l outs,sem B f args H l=some outs->∀ vs,Bg vs B->∀ as Hc,q6.g C vs args as->H6.g C vs H Hc ->
 Pq A f as Hc l fun v H1=>∃ o,o ∈ outs/\o.1.g C vs v/\H6.g C vs o.2 H1
def fc {α β:Type}(f:α->Option (List β)):List α->Option (List β)
 |[]=>some []
 |a::r=>match f a,fc f r with
  |some x,some y=>some (x++y)
  |_,_=>none
theorem V7 {α β:Type}{f:α->Option (List β)}:∀ {l:List α} {r:List β},fc f l=some r->∀ a,a ∈ l->∃ x,f a=some x/\∀ b,b ∈ x->b ∈ r
 |[],_,_,a,h=>by cases h
 |c::l,r,h,a,ha=>by
  simp [fc] at h;split at h
  ·rename_i x y hx hy
   cases h
   rcases C6.1 ha with rfl|ha
   ·simp_all
   ·obtain ⟨z,h1,h2⟩:=V7 hy a ha
    simp_all
  ·cases h
section
variable (A:Prog) (sem:Sem)
def QC (lim:G9)(k:Nat)(f:FuncId)(args:List SV)(s:SS):Option (List SS) :=
 if A.prom f then match sem s.B f args s.H lim with
  |some outs=>if outs.all (fun o=>L3 s.H.length o.2.length) then some (outs.map fun o=>nh { s with H:=o.2,n6:= .below o.2.length::s.n6 } k o.1) else none
  |none=>none
 else match wK s.H,q6.V8 args with
  |some bs,some b0 =>
   if L3 (T9 bs lim.strict 8 b0) s.H.length&&L3 (wH ((bs.take (T9 bs lim.strict 8 b0)).drop lim.strict)) (T9 bs lim.strict 8 b0) then
    match A.mode f with
    |0=>match sem s.B f args (s.H.take (T9 bs lim.strict 8 b0)) { lim with base:=T9 bs lim.strict 8 b0,strict:=ot bs lim.strict (T9 bs lim.strict 8 b0) } with
     |some outs=>if outs.all (fun o=>r9 o.2.length (T9 bs lim.strict 8 b0)) then some (outs.map fun o=>nh { s with H:=o.2++s.H.drop (T9 bs lim.strict 8 b0),n6:= .below (T9 bs lim.strict 8 b0)::s.n6 } k o.1) else none
     |none=>none
    |1=>match sem s.B f args (s.H.take (T9 bs lim.strict 8 b0)) ⟨0,T9 bs lim.strict 8 b0,T9 bs lim.strict 8 b0,ot bs lim.strict (T9 bs lim.strict 8 b0)⟩ with
     |some outs=>if outs.all (fun o=>r9 o.2.length (T9 bs lim.strict 8 b0)) then some (outs.map fun o=>nh s k o.1) else none
     |none=>none
    |_=>match (args.headD .any).V8 with
     |some m=>match sem s.B f args (s.H.take (T9 bs lim.strict 8 b0)) (lim.mC m (T9 bs lim.strict 8 b0) (T9 bs lim.strict 8 b0) (ot bs lim.strict (T9 bs lim.strict 8 b0))) with
      |some outs=>if outs.all (fun o=>r9 o.2.length (T9 bs lim.strict 8 b0))&&L3 m (T9 bs lim.strict 8 b0) then some (outs.map fun o=>nh { s with H:=o.2.take m++s.H.drop m,n6:= .below m::s.n6 } k o.1) else none
      |none=>none
     |none=>none
   else none
  |_,_=>none
def one {α:Type}:Option α->Option (List α)
 |some a=>some [a]
 |none=>none
def YL (lim:G9)(entry:Nat)(j4:List n8)(u5:Option Nat)(k:Nat)(s:SS):q9->Option (List SS)
 | .alloc zero=>some [nh (rP s u5 (.cells none (zero.map Sz))) k (.ptr (jl s u5) 0)]
 | .box x=>match (bO s.T s.L x).cells? with
  |some l=>some [nh (rP s u5 (.cells (bO s.T s.L x).tag l)) k (.ptr (jl s u5) 0)]
  |none=>none
 | .p8 sz len zero parts true=>match yp (zero.map Sz) (parts.map fun (o,t,x)=>(o,t,bO s.T s.L x)) with
  |some cs=>if Nat.blt 0 sz&&r9 cs.length (len * sz) then some [nh (rP s u5 (.cells none cs)) k (.D4 (jl s u5) sz 0 len)] else none
  |none=>none
 | .store n a x=>one (Dy lim k n s x (bO s.T s.L a))
 | .append sz bytes ob x y=>match bO s.T s.L x with
  | .D4 id z lo len=>if r9 z sz then one (vU lim entry k sz bytes s id lo len (bO s.T s.L y)) else none
  | .d _=>one (oo lim j4 u5 k sz bytes ob s x (bO s.T s.L y))
  | .I8=>one (oo lim j4 u5 k sz bytes ob s x (bO s.T s.L y))
  |_=>none
 | .call f xs=>QC A sem lim k f (xs.map (bO s.T s.L)) s
 |_=>none
end
section
variable {C:Ctx} {vs:List Nat} {s:SS} {st:E5} {A:Prog} {sem:Sem} (eA:ee C A sem)
theorem q6.XB {σ:q7->SV}{ρ:q7->b6}(h:∀ x,(σ x).g C vs (ρ x)):∀ xs:List q7,q6.g C vs (xs.map σ) (xs.map ρ)
 |[]=>by simp [q6.g]
 |x::xs=>by exact ⟨_,_,rfl,h x,q6.XB h xs⟩
theorem Tm:∀ {x:List SV} {v:List b6},q6.g C vs x v->(x.headD .any).g C vs (v.headD .any)
 |[],_,h=>by simp_all [q6.g,SV.g]
 |x::xs,_,h=>by grind [q6.g]
include eA
theorem Ug (hs:s.g C vs st){l:G9}{b k:Nat}{f:FuncId}{args:List SV}{as:List b6}(ha:q6.g C vs args as){outs:List SS}(h:QC A sem l k f args s=some outs) :
  ∃ st' N,(∃ o,o ∈ outs/\o.g C vs st')/\∀ n,N<=n->C7 (M4 A n l b) k f as st=some st' :=by
 have hs' :=hs;obtain ⟨hT,hH,hL,ht,hB⟩:=hs;have hlen:=H6.len hH;unfold QC at h;split at h
 ·split at h
  ·rename_i os hos
   split at h
   ·rename_i hall
    cases h;obtain ⟨v,H1,⟨o,o1,o2,o3⟩,N,hN⟩:=eA _ _ _ _ _ _ hos vs hB _ _ ha hH;have hl:=o7 (List.all_eq_true.1 hall o o1);have nY:=H6.len o3;refine ⟨_,N,⟨_,List.mem_map.2 ⟨o,o1,rfl⟩,bN (s:={ s with H:=o.2,n6:= .below o.2.length::s.n6 }) (st:={ st with H:=H1,n6:= .below H1.length::st.n6 }) ⟨hT,o3,hL,by simp_all,hB⟩ k o2⟩,fun n hn=> ?_⟩;simp_all [M4,C7,if_true,if_pos]
   ·cases h
  ·cases h
 ·have fR:A.prom f=false:=by simp_all
  split at h
  ·rename_i bs b0 NS hb0
   have e1:=Cm NS hH;have e2:=q6.bD hb0 ha;have e3:I4 st.H l.strict 8 (A4 as)=T9 bs l.strict 8 b0:=by rw [tf,e1,e2]
   have e4:∀ n,C8 st.H l.strict n=ot bs l.strict n:=fun n=>by rw [Jc,e1]
   generalize WK:T9 bs l.strict 8 b0=n0 at h;rw [WK] at e3;split at h
   ·rename_i hc
    simp only [b5,Nat.ble_eq] at hc;have DL:Y6 ((st.H.take n0).drop l.strict)<=n0:=by simp_all [nQ]
    have hle:n0<=st.H.length:=by omega
    have hHt:=H6.take hH n0;have hHd:=H6.drop hH n0;split at h
    ·rename_i hm
     split at h
     ·rename_i os hos
      split at h
      ·rename_i hall
       cases h;obtain ⟨v,H1,⟨o,o1,o2,o3⟩,N,hN⟩:=eA _ _ _ _ _ _ hos vs hB _ _ ha hHt;have hl:=b9 (List.all_eq_true.1 hall o o1);have nY:=H6.len o3;refine ⟨_,N,⟨_,List.mem_map.2 ⟨o,o1,rfl⟩,bN (s:={ s with H:=o.2++s.H.drop n0,n6:= .below n0::s.n6 }) (st:={ st with H:=H1++st.H.drop n0,n6:= .below n0::st.n6 }) ⟨hT,H6.app o3 hHd,hL,by simp_all,hB⟩ k o2⟩,fun n hn=> ?_⟩;exact wM (E:=M4 A n l b) fR hm e3 hle DL rfl (by simp_all [M4]) (by omega)
      ·cases h
     ·cases h
    ·rename_i hm
     split at h
     ·rename_i os hos
      split at h
      ·rename_i hall
       cases h;obtain ⟨v,H1,⟨o,o1,o2,o3⟩,N,hN⟩:=eA _ _ _ _ _ _ hos vs hB _ _ ha hHt;have hl:=b9 (List.all_eq_true.1 hall o o1);have nY:=H6.len o3;refine ⟨_,N,⟨_,List.mem_map.2 ⟨o,o1,rfl⟩,bN hs' k o2⟩,fun n hn=> ?_⟩;exact qA (E:=M4 A n l b) fR hm e3 hle DL rfl (by rw [show (M4 A n l b).lim=l from rfl,e4];exact hN n hn) (by omega)
      ·cases h
     ·cases h
    ·split at h
     ·rename_i m Zq
      split at h
      ·rename_i os hos
       split at h
       ·rename_i hall
        simp only [b5,Nat.ble_eq] at hall;cases h;obtain ⟨v,H1,⟨o,o1,o2,o3⟩,N,hN⟩:=eA _ _ _ _ _ _ hos vs hB _ _ ha hHt;have hl:=b9 (List.all_eq_true.1 hall.1 o o1);have nY:=H6.len o3;have hm2:=SV.bD Zq (Tm ha);refine ⟨_,N,⟨_,List.mem_map.2 ⟨o,o1,rfl⟩,bN (s:={ s with H:=o.2.take m++s.H.drop m,n6:= .below m::s.n6 }) (st:={ st with H:=H1.take m++st.H.drop m,n6:= .below m::st.n6 }) ⟨hT,H6.app (H6.take o3 m) (H6.drop hH m),hL,by simp_all,hB⟩ k o2⟩,fun n hn=> ?_⟩;simp_all [M4,C7,b7,if_false,if_pos]
       ·cases h
      ·cases h
     ·cases h
   ·cases h
  ·cases h
theorem YM (hs:s.g C vs st){l:G9}{b:Nat}{j4:List n8}{u5:Option Nat}{k:Nat}{op:q9}{outs:List SS}(h:YL A sem l b j4 u5 k s op=some outs) :
  ∃ st' N,(∃ o,o ∈ outs/\o.g C vs st')/\∀ n,N<=n->E6 (M4 A n l b) j4 u5 k st op=some st' :=by
 have hr:=SS.F5 hs;cases op<;>simp only [YL,reduceCtorEq] at h
 case alloc zero =>
  cases h;obtain ⟨n1,n2⟩:=Dq hs (u5:=u5) (o:= .cells none (zero.map Sz)) (o' := .cells zero) ⟨zero,rfl,xP zero,fun k h=>by cases h⟩;exact ⟨_,0,⟨_,B0.2 rfl,bN n1 k (v:= .ptr (jl s u5) 0) (a:= .ptr (newId st u5) 0) (by grind [SV.g])⟩,fun n _=>rfl⟩
 case box x =>
  split at h
  ·rename_i cl hl
   cases h;obtain ⟨cs,h1,h2,h3⟩:=SV.vI (hr x) hl;obtain ⟨n1,n2⟩:=Dq hs (u5:=u5) (o:= .cells (bO s.T s.L x).tag cl) (o' := .cells cs) ⟨cs,rfl,h2,h3⟩;exact ⟨_,0,⟨_,B0.2 rfl,bN n1 k (v:= .ptr (jl s u5) 0) (a:= .ptr (newId st u5) 0) (by grind [SV.g])⟩,fun n _=>by grind [E6]⟩
  ·cases h
 case p8 sz len zero parts ob =>
  cases ob<;>simp [reduceCtorEq] at h;split at h
  ·rename_i cs hcs
   split at h
   ·cases h
    obtain ⟨ds,h1,h2⟩:=vX (rC hr parts) (xP zero) hcs;have hl:=q6.len h2;obtain ⟨n1,n2⟩:=Dq hs (u5:=u5) (o:= .cells none cs) (o' := .cells ds) ⟨ds,rfl,h2,fun k h=>by cases h⟩;refine ⟨_,0,⟨_,B0.2 rfl,bN n1 k (v:= .D4 (jl s u5) sz 0 len) (a:= .D4 (newId st u5) sz 0 len) (by grind [SV.g])⟩,fun n _=> ?_⟩;simp_all [E6,if_pos]
   ·cases h
  ·cases h
 case store n a x =>
  cases e:Dy l k n s x (bO s.T s.L a) with
  |none=>rw [e] at h;cases h
  |some s' =>
   rw [e] at h;cases h;obtain ⟨st',h1,h2⟩:=QY (E:=M4 A 0 l b) hs (hr a) e;exact ⟨st',0,⟨_,B0.2 rfl,h2⟩,fun n _=>h1⟩
 case append sz bytes ob x y =>
  have hx:=hr x;split at h
  ·rename_i id z lo len e
   rw [e] at hx;split at h
   ·rename_i hz
    have hz:=b9 hz;cases e2:vU l b k sz bytes s id lo len (bO s.T s.L y) with
    |none=>rw [e2] at h;cases h
    |some s' =>
     rw [e2] at h;cases h;obtain ⟨st',h1,h2⟩:=Nr (E:=M4 A 0 l b) hs (hr y) e2;refine ⟨st',0,⟨_,B0.2 rfl,h2⟩,fun n _=> ?_⟩;simp only [E6,kS hx];rw [if_pos hz];exact h1
   ·cases h
  ·rename_i x' e
   rw [e] at hx;obtain ⟨d,e3,_⟩:=aF hx;cases e2:oo l j4 u5 k sz bytes ob s x (bO s.T s.L y) with
   |none=>rw [e2] at h;cases h
   |some s' =>
    rw [e2] at h;cases h;obtain ⟨st',h1,h2⟩:=Bd (E:=M4 A 0 l b) hs (hr y) e2;refine ⟨st',0,⟨_,B0.2 rfl,h2⟩,fun n _=> ?_⟩;simp [E6,e3];exact h1
  ·rename_i e
   rw [e] at hx;simp [SV.g] at hx;cases e2:oo l j4 u5 k sz bytes ob s x (bO s.T s.L y) with
   |none=>rw [e2] at h;cases h
   |some s' =>
    rw [e2] at h;cases h;obtain ⟨st',h1,h2⟩:=Bd (E:=M4 A 0 l b) hs (hr y) e2;refine ⟨st',0,⟨_,B0.2 rfl,h2⟩,fun n _=> ?_⟩;simp [E6,hx];exact h1
  ·cases h
 case call f xs =>
  obtain ⟨st',N,h1,h2⟩:=Ug eA (b:=b) hs (q6.XB hr xs) h;exact ⟨st',N,h1,fun n hn=>by simp_all [E6]⟩
end
def rG (B:fZ)(c:SB)(t:Bool):Option fZ:=match c with
 | .qo=>some B
 | .cmp i n VN=>match B[i]? with
  |some (lo,hi)=>if t==VN then (if L3 (max lo (n+1)) hi then some (B.set i (max lo (n+1),hi)) else none)
    else (if L3 lo (min hi n) then some (B.set i (lo,min hi n)) else none)
  |none=>some B
theorem AY {vs:List Nat}{B:fZ}(hB:Bg vs B){c:SB}{t:Bool}(h:c.g vs t):∃ B',rG B c t=some B' /\Bg vs B' :=by
 cases c with
 |qo=>exact ⟨B,rfl,hB⟩
 |cmp i n VN =>
  obtain ⟨m,h1,h2⟩:=h;simp only [rG];split
  ·rename_i lo hi hi0
   obtain ⟨m',e1,e2,e3⟩:=hB.2 _ _ _ hi0;rw [h1] at e1;have key:∀ lo' hi',lo' <=m->m<=hi' ->Bg vs (B.set i (lo',hi')):=by
    intro lo' hi' g1 g2;refine ⟨by simp [hB.1],fun j a b hj=> ?_⟩;rw [List.getElem?_set] at hj;split at hj
    ·simp_all
    ·exact hB.2 _ _ _ hj
   by_cases hp:(t==VN)=true
   ·simp_all<;>grind
   simp_all<;>grind
  simp_all
def CD (s:SS)(j:Nat)(c:SB)(t:Bool):List SS:=match rG s.B c t with
 |some B' =>[{ s with L:=s.L.set j (.d (.lit (.bool t))),B:=B' }]
 |none=>[]
def Ev (s:SS)(j:Nat):List SS:=match s.L[j]? with
 |some (.d x)=>match x.bool? with
  |some (.u c)=>CD s j c true++CD s j c false
  |_=>[s]
 |_=>[s]
def mH (k:IntKind)(lo:Int):Nat->List SV
 |0=>[]
 |n+1=> .d (.lit (.int k lo))::mH k (lo+1) n
def OJ (s:SS)(j:Nat):List SS:=match s.L[j]? with
 |some (.d x)=>match x.int? s.B with
  |some (k,lo,hi,_)=>(mH k lo (hi - lo+1).toNat).map fun v=>{ s with L:=s.L.set j v }
  |none=>[s]
 |_=>[s]
def CE (s:SS)(i lo:Nat):Nat->List SS
 |0=>[]
 |n+1=>{ s with B:=s.B.set i (lo,lo) }::CE s i (lo+1) n
def OK (s:SS)(i:Nat):List SS:=match s.B[i]? with
 |some (lo,hi)=>CE s i lo (hi+1 - lo)
 |none=>[s]
section
variable {C:Ctx} {vs:List Nat} {s:SS} {st:E5}
theorem JI (hs:s.g C vs st)(j:Nat):∃ s',s' ∈ Ev s j/\s'.g C vs st:=by
 have hs' :=hs;obtain ⟨hT,hH,hL,ht,hB⟩:=hs;unfold Ev;split
 ·rename_i x e
  split
  ·rename_i c hc
   obtain ⟨a,h1,h2⟩:=q6.get hL e;obtain ⟨d,rfl,h3⟩:=aF h2;obtain ⟨t,rfl,h4⟩:=SD.dc hc h3;obtain ⟨B',h5,h6⟩:=AY hB h4;have key:(CD s j c t)=[{ s with L:=s.L.set j (.d (.lit (.bool t))),B:=B' }]:=by grind [CD]
   have hL2:q6.g C vs (s.L.set j (.d (.lit (.bool t)))) st.L:=by
    have:=q6.set hL j (a:= .d (.lit (.bool t))) (b:= .d (.bool t)) (bT (by rfl));simp_all [X7]
   refine ⟨{ s with L:=s.L.set j (.d (.lit (.bool t))),B:=B' },?_,hT,hH,hL2,ht,h6⟩;cases t with
   |true=>simp_all
   |false=>simp_all
  simp_all
 simp_all
theorem kL {k:IntKind}:∀ (n:Nat) (lo m:Int),lo<=m->m<lo+n->SV.d (.lit (.int k m)) ∈ mH k lo n
 |0,lo,m,h1,h2=>by omega
 |n+1,lo,m,h1,h2=>by
  simp [mH,C6]
  by_cases h:m=lo
  ·simp_all
  ·exact .inr (kL n (lo+1) m (by omega) (by omega))
theorem SU (hs:s.g C vs st)(j:Nat):∃ s',s' ∈ OJ s j/\s'.g C vs st:=by
 have hs' :=hs;obtain ⟨hT,hH,hL,ht,hB⟩:=hs;unfold OJ;split
 ·rename_i x e
  split
  ·rename_i k lo hi r hc
   obtain ⟨a,h1,h2⟩:=q6.get hL e;obtain ⟨d,rfl,h3⟩:=aF h2;obtain ⟨m,rfl,h4,h5,_⟩:=SD.gL hB hc h3;refine ⟨_,List.mem_map.2 ⟨_,kL _ lo m h4 (by omega),rfl⟩,hT,hH,?_,ht,hB⟩;have:=q6.set hL j (a:= .d (.lit (.int k m))) (b:= .d (.int k m)) (bT (by rfl));simp_all [X7]
  simp_all
 simp_all
theorem xm {i:Nat}:∀ (n lo m:Nat),lo<=m->m<lo+n->{ s with B:=s.B.set i (m,m) } ∈ CE s i lo n
 |0,lo,m,h1,h2=>by omega
 |n+1,lo,m,h1,h2=>by
  simp [CE,C6]
  by_cases h:m=lo
  ·simp_all
  ·exact .inr (xm n (lo+1) m (by omega) (by omega))
theorem SW (hs:s.g C vs st)(i:Nat):∃ s',s' ∈ OK s i/\s'.g C vs st:=by
 have hs' :=hs;obtain ⟨hT,hH,hL,ht,hB⟩:=hs;unfold OK;split
 ·rename_i lo hi e
  obtain ⟨m,h1,h2,h3⟩:=hB.2 _ _ _ e;refine ⟨_,xm _ lo m h2 (by omega),hT,hH,hL,ht,by simp [hB.1],fun j a b hj=> ?_⟩;rw [List.getElem?_set] at hj;split at hj
  ·grind
  ·exact hB.2 _ _ _ hj
 simp_all
end
def jK (n:Nat):SD->Option (SD×(Nat×Nat))
 | .slice none lo hi row=>if Nat.blt lo hi then some (.slice (some n) lo hi row,(lo,hi)) else none
 | .pr k x=>match jK n x with
  |some (y,p)=>some (.pr k y,p)
  |none=>none
 |_=>none
theorem vQ {C:Ctx}{vs:List Nat}:∀ {x y:SD} {p:Nat×Nat} {d:Data},jK vs.length x=some (y,p)->x.g C vs d->∃ m,p.1<=m/\m<=p.2/\y.g C (vs++[m]) d
 | .slice v lo hi row,y,p,d,h,hg=>by
  cases v<;>simp only [jK,reduceCtorEq] at h;split at h
  ·obtain ⟨rfl,rfl⟩:=h
   obtain ⟨rows,rfl,h1,h2,h3,h4⟩:=hg;refine ⟨rows.length,h1,h2,?_⟩
   grind [SD.g,F2.O0,Le.app]
  ·cases h
 | .pr k x,y,p,d,h,hg=>by
  simp [jK] at h;split at h
  ·rename_i y' p' e
   obtain ⟨m,h1,h2,h3⟩:=vQ e hg.2
   grind [SD.g]
  ·cases h
 | .top,_,_,_,h,_=>by simp [jK] at h
 | .lit _,_,_,_,h,_=>by simp [jK] at h
 | .bool _,_,_,_,h,_=>by simp [jK] at h
 | .int ..,_,_,_,h,_=>by simp [jK] at h
 | .anyI _,_,_,_,h,_=>by simp [jK] at h
 | .str _,_,_,_,h,_=>by simp [jK] at h
def EW (n:Nat):SV->Option (SV×(Nat×Nat))
 | .d x=>match jK n x with
  |some (y,p)=>some (.d y,p)
  |none=>none
 | .own z x=>match jK n x with
  |some (y,p)=>some (.own z y,p)
  |none=>none
 | .q x=>match jK n x with
  |some (y,p)=>some (.q y,p)
  |none=>none
 |_=>none
theorem CP {C:Ctx}{vs:List Nat}{x y:SV}{p:Nat×Nat}{v:b6}(h:EW vs.length x=some (y,p))(hg:x.g C vs v):∃ m,p.1<=m/\m<=p.2/\y.g C (vs++[m]) v:=by
 cases x<;>simp [EW,reduceCtorEq] at h
 ·grind [Option.some.injEq,Prod.mk.injEq,aF,vQ,bT]
 ·grind [Option.some.injEq,Prod.mk.injEq,pZ,vQ,SV.g]
 grind [Option.some.injEq,Prod.mk.injEq,SV.g,vQ]
def Pz (s:SS)(k:Nat):SS:=match s.L[k]? with
 |some v=>match EW s.B.length v with
  |some (w,p)=>{ s with L:=s.L.set k w,B:=s.B++[p] }
  |none=>s
 |none=>s
def Py (s:SS)(id off:Nat):SS:=match s.H[id]? with
 |some (.cells p l)=>match l[off]? with
  |some v=>match EW s.B.length v with
   |some (w,q)=>{ s with H:=s.H.set id (.cells p (l.set off w)),B:=s.B++[q] }
   |none=>s
  |none=>s
 |_=>s
section
variable {C:Ctx} {vs:List Nat} {s:SS} {st:E5}
theorem Bg.add {B:fZ}(hB:Bg vs B){p:Nat×Nat}{m:Nat}(h1:p.1<=m)(h2:m<=p.2):Bg (vs++[m]) (B++[p]):=by
 refine ⟨by simp [hB.1],fun i a b h=> ?_⟩
 rcases u9 i B.length with hi|hi
 ·rw [x9 hi] at h
  obtain ⟨q,e1,e2⟩:=hB.2 _ _ _ h
  grind
 ·rw [s7 hi] at h
  cases e:i - B.length with
  |zero =>
   rw [e] at h;simp at h;have hb:=hB.1;simp_all [s7]
  |succ q=>simp_all
theorem SS.mono {ws:List Nat}(hl:Le vs ws)(hs:s.g C vs st):q6.g C ws s.T st.T/\H6.g C ws s.H st.H/\q6.g C ws s.L st.L :=
 ⟨q6.O0 hl _ hs.1,H6.O0 hl _ hs.2.1,q6.O0 hl _ hs.2.2.1⟩
theorem Ty (hs:s.g C vs st)(k:Nat):∃ ws,Le vs ws/\(Pz s k).g C ws st:=by
 unfold Pz;split
 ·rename_i v e
  split
  ·rename_i w p hn
   rw [<- hs.2.2.2.2.1] at hn;obtain ⟨a,h1,h2⟩:=q6.get hs.2.2.1 e;obtain ⟨m,h3,h4,h5⟩:=CP hn h2;obtain ⟨g1,g2,g3⟩:=SS.mono (Le.app vs [m]) hs;refine ⟨vs++[m],Le.app _ _,g1,g2,?_,hs.2.2.2.1,hs.2.2.2.2.add h3 h4⟩;have:=q6.set g3 k h5;simp_all [X7]
  grind [Le.refl]
 grind [Le.refl]
theorem Tx (hs:s.g C vs st)(id off:Nat):∃ ws,Le vs ws/\(Py s id off).g C ws st:=by
 unfold Py;split
 ·rename_i p l e
  split
  ·rename_i v e2
   split
   ·rename_i w q hn
    rw [<- hs.2.2.2.2.1] at hn;obtain ⟨o,h1,h2⟩:=H6.get hs.2.1 e;obtain ⟨cs,rfl,h3,h4⟩:=h2;obtain ⟨a,h5,h6⟩:=q6.get h3 e2;obtain ⟨m,h7,h8,h9⟩:=CP hn h6;obtain ⟨g1,g2,g3⟩:=SS.mono (Le.app vs [m]) hs;refine ⟨vs++[m],Le.app _ _,g1,?_,g3,hs.2.2.2.1,hs.2.2.2.2.add h7 h8⟩;have e3:SO.g C (vs++[m]) (.cells p (l.set off w)) (.cells cs):=by
     refine ⟨cs,rfl,?_,h4⟩;have:=q6.set (q6.O0 (Le.app vs [m]) _ h3) off h9;simp_all [X7]
    have:=H6.set g2 id e3;simp_all [X7]
   grind [Le.refl]
  grind [Le.refl]
 grind [Le.refl]
end
end Go.y3.Sh


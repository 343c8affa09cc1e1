/- Texts S5 S6 S7 S8 (made short by a program) -/
import Derived.Test.YtkmclibmmlgogaaGreatS0
import Derived.Test.YtkmclibmmlgogaaGreatB6
set_option linter.unusedVariables false
set_option linter.unusedSimpArgs false
open Bool renaming and_eq_true → b5, false_eq_true → b7
open List renaming cons_append → G4, drop_of_length_le → m7, getElem?_append_left → p4, getElem?_append_right → p9, length_append → C1, length_cons → y8, map_cons → G7, mem_cons → B8, mem_singleton → p8, replicate → c9, take_of_length_le → s6
open Nat renaming beq → y4, ble → J7, eq_of_beq_eq_true → b8, le_of_ble_eq_true → m6, le_refl → l5, lt_or_ge → p7
namespace Go.u7.Sh
open Go.u7
section
variable {C:Ctx} {vs:List Nat} {B:ig}
theorem Z4 {x:SD}{v:b6}(h:(SV.d x).g C vs v):∃ d,v= .d d/\x.g C vs d:=by simpa only [SV.g] using h
theorem oz {z:Nat}{x:SD}{v:b6}(h:(SV.own z x).g C vs v):∃ len cells,v= .own z len cells/\x.g C vs (.slice len cells):=by simpa only [SV.g] using h
theorem bf {x:SD}{d:Data}(h:x.g C vs d):(SV.d x).g C vs (.d d):=by simp only [SV.g];exact ⟨_,rfl,h⟩
theorem aX {id off:Nat}{v:b6}(h:(SV.ptr id off).g C vs v):v= .ptr id off:=by simpa only [SV.g] using h
theorem jW {id off a b:Nat}{v:b6}(h:(SV.D0 id off a b).g C vs v):v= .D0 id off a b:=by simpa only [SV.g] using h
theorem uh {row:List SD}{v:b6}(h:(SV.P9 row).g C vs v):∃ cells rest,v= .P9 (cells++rest)/\D7.g C vs row cells:=by simpa only [SV.g] using h
theorem Qr {v:Option Nat}{lo hi n:Nat}(h1:lo<=n)(h2:n<=hi)(h3:∀ i,v=some i->vs[i]? =some n):(MH v lo hi).g C vs (.int .i64 n):=by
 unfold MH;split
 ·rename_i h
  have:=b8 h;have:n=lo:=by omega
  subst this;simp [SD.g]
 ·simp only [SD.g]
  refine ⟨_,rfl,by omega,by omega,?_⟩;split
  ·exact ⟨n,h3 _ rfl,rfl⟩
  ·trivial
theorem PS (hB:Bg vs B){x:SD}{d:Data}{n:Int}(h:exact? B x=some n)(hx:x.g C vs d):∃ k,d= .int k n:=by
 unfold exact? at h;split at h
 ·rename_i k a b r hi
  split at h
  ·rename_i hc
   simp only [decide_eq_true_eq] at hc;cases h;obtain ⟨m,rfl,h1,h2,_⟩:=SD.iw hB hi hx;exact ⟨k,by congr 1;omega⟩
  ·cases h
 ·cases h
theorem wC (hB:Bg vs B){σ:r8->SV}{ρ:r8->b6}(hρ:∀ x,(σ x).g C vs (ρ x)){dl dh a b:Int}{n:Nat}{o:Option r8}(hn:o=none->dl<=n/\(n:Int)<=dh)(h:wB σ B dl dh o=some (a,b)):∃ m,Q7 ρ n o=some m/\a<=m/\m<=b:=by
 cases o with
 |none=>simp only [wB,Option.some.injEq,Prod.mk.injEq] at h;obtain ⟨rfl,rfl⟩:=h;exact ⟨n,rfl,hn rfl⟩
 |some x =>
  have h1:=hρ x;simp only [wB] at h;split at h
  ·rename_i y hy
   rw [hy] at h1;split at h
   ·rename_i k p q r hi
    simp only [Option.some.injEq,Prod.mk.injEq] at h;obtain ⟨rfl,rfl⟩:=h;obtain ⟨d,e,h1⟩:=Z4 h1;obtain ⟨m,rfl,h2,h3,_⟩:=SD.iw hB hi h1;exact ⟨m,by simp [Q7,e],h2,h3⟩
   ·cases h
  ·cases h
theorem r9.KI:∀ {x:List SD} {d:List Data},D7.g C vs x d->r9.g C vs (x.map .d) (d.map .d)
 |[],_,h=>by simp only [D7.g] at h;subst h;simp [r9.g]
 |x::xs,_,h=>by
  simp only [D7.g] at h;obtain ⟨d,ds,rfl,h1,h2⟩:=h;simp only [G7,r9.g];exact ⟨_,_,rfl,bf h1,r9.KI h2⟩
theorem Iw {sz:Nat}:∀ {rows:List (List Data)} {i:Nat},(∀ r,r ∈ rows->r.length=sz)->i<rows.length->∃ r,r ∈ rows/\rows.flatten.drop (i * sz)=r++rows.flatten.drop ((i+1) * sz)
 |[],i,_,h=>by simp at h
 |r::rows,0,hr,h=>by
  have:=hr r (by simp);refine ⟨r,by simp,?_⟩;simp [<- this]
 |r::rows,i+1,hr,h=>by
  have h0:=hr r (by simp);obtain ⟨q,h1,h2⟩:=Iw (rows:=rows) (i:=i) (fun r h=>hr r (by simp [h])) (by simpa using h);refine ⟨q,by simp [h1],?_⟩;have e:∀ k,(r::rows).flatten.drop ((k+1) * sz)=rows.flatten.drop (k * sz):=fun k=>by
   simp only [List.flatten_cons];rw [List.drop_append,m7 (by rw [h0,Nat.succ_mul];omega),h0,Nat.succ_mul,Nat.add_sub_cancel];rfl
  rw [e,e,h2]
theorem iX {sz:Nat}:∀ {rows:List (List Data)},(∀ r,r ∈ rows->r.length=sz)->rows.flatten.length=rows.length * sz
 |[],_=>by simp
 |r::rows,h=>by
  have:=iX (rows:=rows) (fun r hr=>h r (by simp [hr]));simp [this,h r (by simp),Nat.succ_mul,Nat.add_comm]
theorem xd {sz:Nat}:∀ {rows:List (List Data)},(∀ r,r ∈ rows->r.length=sz)->∀ i,rows.flatten.take (i * sz)=(rows.take i).flatten
 |[],_,i=>by simp
 |r::rows,h,0=>by simp
 |r::rows,h,i+1=>by
  have h0:=h r (by simp);have:=xd (rows:=rows) (fun r hr=>h r (by simp [hr])) i;simp only [List.flatten_cons,List.take_succ_cons];rw [List.take_append,s6 (by rw [h0,Nat.succ_mul];omega),h0,Nat.succ_mul,Nat.add_sub_cancel,this]
theorem ve {sz:Nat}:∀ {rows:List (List Data)},(∀ r,r ∈ rows->r.length=sz)->∀ i,rows.flatten.drop (i * sz)=(rows.drop i).flatten
 |[],_,i=>by simp
 |r::rows,h,0=>by simp
 |r::rows,h,i+1=>by
  have h0:=h r (by simp);have:=ve (rows:=rows) (fun r hr=>h r (by simp [hr])) i;simp only [List.flatten_cons,List.drop_succ_cons];rw [List.drop_append,m7 (by rw [h0,Nat.succ_mul];omega),h0,Nat.succ_mul,Nat.add_sub_cancel,this];rfl
theorem Na {sz:Nat}{row:List SD}{rows:List (List Data)}{a b l1 l2:Nat}(hw:row.length=sz)(hr:∀ r,r ∈ rows->D7.g C vs row r)(hab:a<=b)(hb:b<=rows.length)(h1:l1<=b - a)(h2:b - a<=l2) :
  (SD.slice none l1 l2 row).g C vs (.slice ((b:Int) - a).toNat ((rows.flatten.take (b * sz)).drop (a * sz))):=by
 have hrl:∀ r,r ∈ rows->r.length=sz:=fun r h=>by rw [D7.len (hr r h)];exact hw
 have ao0:∀ r,r ∈ rows.take b->r.length=sz:=fun r h=>hrl r (List.mem_of_mem_take h)
 rw [xd hrl,ve ao0];simp only [SD.g];have hlen:((rows.take b).drop a).length=b - a:=by simp;omega
 refine ⟨(rows.take b).drop a,?_,by omega,by omega,(fun i h=>by cases h),fun r h=>hr r (List.mem_of_mem_take (List.mem_of_mem_drop h))⟩;rw [hlen]
 congr 1
 omega
theorem HE {c:SD}(hk:c.kind? =some .u8):∀ {rows:List (List Data)},(∀ r,r ∈ rows->D7.g C vs [c] r)->∃ bs,eA rows.flatten=some bs/\bs.length=rows.length
 |[],_=>⟨[],rfl,rfl⟩
 |r::rows,h=>by
  obtain ⟨bs,h1,h2⟩:=HE hk (rows:=rows) (fun r hr=>h r (by simp [hr]));have h3:=h r (by simp);simp only [D7.g] at h3;obtain ⟨d,_,rfl,h4,rfl⟩:=h3;obtain ⟨n,rfl⟩:=SD.uj hk h4;exact ⟨UInt8.ofNat n.toNat::bs,by simp [eA,h1],by simp [h2]⟩
theorem Rq (hB:Bg vs B){σ:r8->SV}{ρ:r8->b6}(hρ:∀ x,(σ x).g C vs (ρ x)){H:List SO}{H' :o6}(hH:E7.g C vs H H'){op:s9}{v:SV}{rs:List Nat}(h:wM σ H B op=some (v,rs)) :
  ∃ r,k9 ρ H' op=some (r,rs)/\v.g C vs r:=by
 cases op<;>simp only [wM,reduceCtorEq] at h
 case pick c a b =>
  have hc:=hρ c;split at h
  ·rename_i x hx
   rw [hx] at hc;obtain ⟨d,e1,hd⟩:=Z4 hc;split at h
   ·rename_i t ht
    obtain ⟨t',rfl,e2⟩:=SD.cE ht hd;simp only at e2;subst e2;cases h;refine ⟨_,(by simp only [k9,e1];rfl),?_⟩;cases t' <;>exact hρ _
   ·cases h
  ·cases h
 case build zero parts =>
  split at h
  ·rename_i cs hcs
   cases h;obtain ⟨ds,h1,h2⟩:=uw (qc hρ parts) (vQ zero) hcs;exact ⟨_,(by simp only [k9,h1];rfl),by simp only [SV.g];exact ⟨_,rfl,h2,fun k h=>by cases h⟩⟩
  ·cases h
 case y6 sz len zero parts ob =>
  cases ob<;>simp only [wM,reduceCtorEq] at h;split at h
  ·rename_i cs hcs
   split at h
   ·rename_i xs hxs
    split at h
    ·rename_i hc
     simp only [b5] at hc;have c1:=m6 hc.1;have c2:=b8 hc.2;cases h;obtain ⟨ds,h1,h2⟩:=uw (qc hρ parts) (vQ zero) hcs;obtain ⟨es,h3,h4⟩:=lQ h2 hxs;have hl:=D7.len h4;refine ⟨.own sz len es,?_,by simp only [SV.g];exact ⟨_,_,rfl,mW c2 h4⟩⟩;simp only [k9,h1,h3];rw [if_pos ⟨by omega,by omega⟩]
    ·cases h
   ·cases h
  ·cases h
 case load n x =>
  have hx:=hρ x;cases n with
  |none =>
   simp only [wM] at h;split at h
   ·rename_i id off e
    rw [e] at hx;have e1:=aX hx;split at h
    ·rename_i w hw
     cases h;obtain ⟨cs,h1,h2⟩:=zz hH hw;simp only [r9.g] at h2;obtain ⟨a,_,rfl,h3,rfl⟩:=h2;exact ⟨_,(by simp only [k9,e1,h1]),SV.ny h3⟩
    ·cases h
   ·rename_i c row e
    rw [e] at hx;obtain ⟨cells,rest,e1,h1⟩:=uh hx;cases h;simp only [D7.g] at h1;obtain ⟨d,ds,rfl,h2,h3⟩:=h1;exact ⟨.d d,by simp only [k9,e1,G4],bf h2⟩
   ·cases h
  |some n =>
   simp only [wM] at h;split at h
   ·rename_i id off e
    rw [e] at hx;have e1:=aX hx;split at h
    ·rename_i p l hl
     split at h
     ·rename_i hc
      have hc:=m6 hc;cases h;obtain ⟨o,h1,h2⟩:=E7.get hH hl;obtain ⟨cs,rfl,h3,h4⟩:=h2;have hlen:=r9.len h3;refine ⟨.agg (((cs.drop off).take n).map b6.F2),?_,?_⟩
      ·simp only [k9,e1,rd,h1]
       rw [if_pos (by omega)]
      ·simp only [SV.g]
       refine ⟨_,rfl,r9.map (fun _ _=>SV.ny) (r9.take (r9.drop h3 off) n),fun k hk=> ?_⟩;split at hk
       ·rename_i kj
        simp only [b5] at kj;have c1:=b8 kj.1;have c2:=b8 kj.2;subst c1;have:(cs.drop 0).take n=cs:=by rw [List.drop_zero,s6 (by omega)]
        rw [this];have e3:(cs.map b6.F2).map b6.F2=cs.map b6.F2:=by
         rw [List.map_map]
         congr 1
         funext v
         cases v<;>rfl
        rw [e3];exact h4 k hk
       ·cases hk
     ·cases h
    ·cases h
   ·rename_i row e
    rw [e] at hx;obtain ⟨cells,rest,e1,h1⟩:=uh hx;split at h
    ·rename_i hc
     have hc:=m6 hc;cases h;have hlen:=D7.len h1;refine ⟨.agg ((cells.take n).map .d),?_,?_⟩
     ·simp only [k9,e1]
      rw [if_pos (by simp;omega),List.take_append_of_le_length (by omega)]
     ·simp only [SV.g]
      exact ⟨_,rfl,r9.KI (D7.take h1 n),fun k h=>by cases h⟩
    ·cases h
   ·cases h
 case Y5 x =>
  have hx:=hρ x;split at h
  ·rename_i id off e
   cases h;rw [e] at hx;exact ⟨_,(by simp only [k9,aX hx];rfl),by simp only [SV.g]⟩
  ·rename_i row e
   cases h;rw [e] at hx;obtain ⟨cells,rest,e1,h1⟩:=uh hx;exact ⟨_,(by simp only [k9,e1];rfl),by simp only [SV.g];exact ⟨_,_,rfl,h1⟩⟩
  ·cases h
 case bin op x y =>
  have hx:=hρ x;have hy:=hρ y;split at h
  ·rename_i a b ea eb
   rw [ea] at hx;rw [eb] at hy;obtain ⟨d,e1,h1⟩:=Z4 hx;obtain ⟨f,e2,h2⟩:=Z4 hy;split at h
   ·rename_i z hz
    cases h;obtain ⟨r,h3,h4⟩:=Va hB h1 h2 hz;exact ⟨.d r,by simp only [k9,e1,e2,h3],bf h4⟩
   ·cases h
  ·cases h
 case un op x =>
  cases op<;>simp only [wM,reduceCtorEq] at h;have hx:=hρ x;split at h
  ·rename_i a ea
   rw [ea] at hx;obtain ⟨d,e1,h1⟩:=Z4 hx;split at h
   ·rename_i b hb
    cases h;obtain ⟨b',rfl,e2⟩:=SD.cE hb h1;simp only at e2;subst e2;exact ⟨_,(by simp only [k9,e1,xp];rfl),bf (by simp [SD.g])⟩
   ·rename_i c hc
    cases h;obtain ⟨b',rfl,e2⟩:=SD.cE hc h1;have:=Il (C:=C) (vs:=vs) (x:= .bool c) (b:=b') (by simp only [SD.g];exact ⟨_,rfl,e2⟩);exact ⟨_,(by simp only [k9,e1,xp]),bf this⟩
   ·cases h
  ·cases h
 case o8 neg x y =>
  have hx:=hρ x;have hy:=hρ y;split at h
  ·rename_i a b ea eb
   rw [ea] at hx;rw [eb] at hy;obtain ⟨d,e1,h1⟩:=Z4 hx;obtain ⟨f,e2,h2⟩:=Z4 hy;split at h
   ·rename_i p q hp hq
    cases h;obtain ⟨t,rfl,_⟩:=SD.cE hp h1;obtain ⟨u,rfl,_⟩:=SD.cE hq h2;exact ⟨_,(by simp only [k9,e1,e2];rfl),bf (by simp only [SD.g];exact ⟨_,rfl,trivial⟩)⟩
   ·cases h
  ·cases h
 case ki k x =>
  have hx:=hρ x;split at h
  ·rename_i a ea
   rw [ea] at hx;obtain ⟨d,e1,h1⟩:=Z4 hx;split at h
   ·rename_i k' hk
    cases h;obtain ⟨n,rfl⟩:=SD.uj hk h1;exact ⟨_,(by simp only [k9,e1];rfl),bf (by simp only [SD.g];exact ⟨_,rfl⟩)⟩
   ·cases h
  ·cases h
 case iq x =>
  have hx:=hρ x;split at h
  ·rename_i a ea
   rw [ea] at hx;obtain ⟨d,e1,h1⟩:=Z4 hx;split at h
   ·rename_i v lo hi c hs
    split at h
    ·rename_i hk
     cases h;obtain ⟨_,rows,rfl,h2,h3,h4,h5⟩:=SD.cT hB hs h1;obtain ⟨bs,h6,h7⟩:=HE hk h5;have hl:rows.flatten.length=rows.length:=by
      have:=iX (sz:=1) (rows:=rows) (fun r hr=>D7.len (h5 r hr));omega
     exact ⟨.d (.str bs),by simp only [k9,e1,hl,if_true,h6],bf (by simp only [SD.g];exact ⟨_,rfl,by omega⟩)⟩
    ·cases h
   ·cases h
  ·cases h
 case aE sz x lo hi =>
  have hx:=hρ x;split at h
  ·rename_i a ea
   rw [ea] at hx;obtain ⟨d,e1,h1⟩:=Z4 hx;split at h
   ·rename_i v l1 l2 row hs
    obtain ⟨hw,rows,rfl,h2,h3,h4,h5⟩:=SD.cT hB hs h1;have hfl:rows.flatten.length=rows.length * sz:=iX (fun r hr=>by rw [D7.len (h5 r hr)];exact hw);split at h
    ·rename_i a1 a2 hlo
     split at h
     ·rename_i hc
      simp only [b5,decide_eq_true_eq] at hc;cases h;obtain ⟨m,b1,b2,b3⟩:=wC (n:=0) hB hρ (fun _=>⟨Int.le_refl _,Int.le_refl _⟩) hlo;obtain ⟨m',rfl⟩:=Int.eq_ofNat_of_zero_le (show 0<=m by omega);refine ⟨_,?_,bf (Na (a:=m') (b:=rows.length) (l1:=l1 - a2.toNat) (l2:=l2 - a1.toNat) hw h5 (by omega) (l5 _) (by omega) (by omega))⟩;have b4:Q7 ρ rows.length none=some (rows.length:Int):=rfl;simp only [k9,e1,b1,b4];rw [if_pos (by refine ⟨?_,?_,?_,hfl⟩<;>omega)];simp
     ·cases h
    ·rename_i a1 a2 hop hlo
     split at h
     ·rename_i b1 b2 hhi
      split at h
      ·rename_i hc
       simp only [b5,decide_eq_true_eq] at hc;cases h;obtain ⟨m,c1,c2,c3⟩:=wC (n:=0) hB hρ (fun _=>⟨Int.le_refl _,Int.le_refl _⟩) hlo;obtain ⟨q,d1,d2,d3⟩:=wC (n:=rows.length) (dl:=0) (dh:=0) hB hρ (o:=some hop) (fun h=>by cases h) hhi;obtain ⟨m',rfl⟩:=Int.eq_ofNat_of_zero_le (show 0<=m by omega);obtain ⟨q',rfl⟩:=Int.eq_ofNat_of_zero_le (show 0<=q by omega);refine ⟨_,?_,bf (Na (a:=m') (b:=q') (l1:=(b1 - a2).toNat) (l2:=(b2 - a1).toNat) hw h5 (by omega) (by omega) (by omega) (by omega))⟩;simp only [k9,e1,c1,d1];rw [if_pos (by refine ⟨?_,?_,?_,hfl⟩<;>omega)];simp
      ·cases h
     ·cases h
    ·cases h
   ·cases h
  ·rename_i id z a len ea
   rw [ea] at hx;have e1:=jW hx;split at h
   ·rename_i a1 a2 b1 b2 hlo hhi
    split at h
    ·rename_i hc
     simp only [b5,decide_eq_true_eq] at hc;obtain ⟨⟨⟨⟨⟨c1,c2⟩,c3⟩,c4⟩,c5⟩,c6⟩:=hc;have c6:=b8 c6;subst c6;obtain ⟨m,f1,f2,f3⟩:=wC (n:=0) hB hρ (fun _=>⟨Int.le_refl _,Int.le_refl _⟩) hlo;obtain ⟨q,g1,g2,g3⟩:=wC (n:=len) hB hρ (fun _=>⟨Int.le_refl _,Int.le_refl _⟩) hhi;have em:m=a1:=by omega
     have eq:q=b1:=by omega
     subst em eq;simp only [k9,e1,f1,g1];rw [if_pos ⟨by omega,by omega,by omega,trivial⟩];split at h
     ·rename_i he
      simp only [decide_eq_true_eq] at he;cases h;rw [if_pos he];exact ⟨_,rfl,bf (by simp [SD.g])⟩
     ·rename_i he
      simp only [decide_eq_true_eq] at he;cases h;rw [if_neg he];exact ⟨_,rfl,by simp only [SV.g]⟩
    ·cases h
   ·cases h
  ·cases h
 case off k x =>
  have hx:=hρ x;split at h
  ·rename_i id off e
   cases h;rw [e] at hx;exact ⟨_,(by simp only [k9,aX hx];rfl),by simp only [SV.g]⟩
  ·rename_i row e
   rw [e] at hx;split at h
   ·rename_i hc
    have hc:=m6 hc;cases h;obtain ⟨cells,rest,e1,h1⟩:=uh hx;have:=D7.len h1;refine ⟨_,(by simp only [k9,e1];rfl),?_⟩;simp only [SV.g];exact ⟨cells.drop k,rest,by rw [List.drop_append_of_le_length (by omega)],D7.drop h1 k⟩
   ·cases h
  ·cases h
 case B7 sz x i =>
  have hx:=hρ x;have hi:=hρ i;split at h
  ·rename_i a j ea ej
   rw [ea] at hx;rw [ej] at hi;obtain ⟨d,e1,h1⟩:=Z4 hx;obtain ⟨f,e2,h2⟩:=Z4 hi;split at h
   ·rename_i v lo hi' row k j1 j2 r hs hj
    split at h
    ·rename_i hc
     simp only [b5,Bool.or_eq_true,decide_eq_true_eq] at hc;cases h;obtain ⟨hw,rows,rfl,h3,h4,h5,h6⟩:=SD.cT hB hs h1;obtain ⟨n,rfl,k1,k2,k3⟩:=SD.iw hB hj h2;have hlt:0<=n/\n<rows.length:=by
      refine ⟨by omega,?_⟩
      rcases hc.2 with hc|hc
      ·omega
      ·unfold inR at hc
       split at hc
       ·rename_i p q
        have hpq:=b8 hc;subst hpq;obtain ⟨m,m1,m2,m3⟩:=k3;rw [h5 _ rfl] at m1;cases m1;exact m3
       ·cases hc
     obtain ⟨n',rfl⟩:=Int.eq_ofNat_of_zero_le hlt.1;obtain ⟨q,q1,q2⟩:=Iw (sz:=sz) (rows:=rows) (i:=n') (fun r hr=>by rw [D7.len (h6 r hr)];exact hw) (by omega);refine ⟨.P9 (rows.flatten.drop (n' * sz)),?_,?_⟩
     ·simp only [k9,e1,e2]
      rw [if_pos hlt];simp
     ·simp only [SV.g]
      exact ⟨q,_,by rw [q2],h6 q q1⟩
    ·cases h
   ·cases h
  ·rename_i id z lo len j ea ej
   rw [ea] at hx;rw [ej] at hi;have e1:=jW hx;obtain ⟨f,e2,h2⟩:=Z4 hi;split at h
   ·rename_i n hn
    split at h
    ·rename_i hc
     simp only [b5,decide_eq_true_eq] at hc;have c2:=b8 hc.2;cases h;obtain ⟨k,rfl⟩:=PS hB hn h2;refine ⟨.ptr id (lo+n.toNat * sz),?_,by simp only [SV.g]⟩;simp only [k9,e1,e2];rw [if_pos ⟨hc.1.1,hc.1.2,c2⟩]
    ·cases h
   ·cases h
  ·cases h
 case extract x i =>
  have hx:=hρ x;split at h
  ·rename_i l e
   rw [e] at hx;simp only [SV.g] at hx;obtain ⟨cs,e1,h1⟩:=hx;split at h
   ·rename_i v' hv
    cases h;obtain ⟨b,h2,h3⟩:=r9.get h1 hv;exact ⟨b,by simp only [k9,e1,h2],h3⟩
   ·cases h
  ·cases h
 case len x =>
  have hx:=hρ x;split at h
  ·rename_i a ea
   rw [ea] at hx;obtain ⟨d,e1,h1⟩:=Z4 hx;split at h
   ·rename_i v' lo hi hl
    cases h;obtain ⟨n,cells,rfl,h2,h3,h4⟩:=SD.Gw hB hl h1;exact ⟨.d (.int .i64 n),by simp only [k9,e1,i64],bf (Qr h2 h3 h4)⟩
   ·cases h
  ·rename_i e
   cases h;rw [e] at hx;exact ⟨_,(by simp only [k9,jW hx,i64];rfl),bf (by simp [SD.g])⟩
  ·cases h
 case U0 x =>
  have hx:=hρ x;split at h
  ·rename_i a ea
   rw [ea] at hx;obtain ⟨d,e1,h1⟩:=Z4 hx;split at h
   ·rename_i m hm
    cases h;obtain ⟨s,rfl,h2,_⟩:=SD.sv hm h1;exact ⟨.d (.int .i64 s.length),by simp only [k9,e1,i64],bf (by simp only [SD.g];exact ⟨_,rfl,by omega,by omega,trivial⟩)⟩
   ·rename_i m s hm
    cases h;obtain ⟨s',rfl,h2,h3⟩:=SD.sv hm h1;have:=h3 s rfl;subst this;exact ⟨.d (.int .i64 s'.length),by simp only [k9,e1,i64],bf (by simp [SD.g])⟩
   ·cases h
  ·cases h
end
structure SS where
 T:List SV
 H:List SO
 L:List SV
 n5:List Touch
 B:ig
def SS.g (C:Ctx)(vs:List Nat)(s:SS)(st:E1):Prop:=r9.g C vs s.T st.T/\E7.g C vs s.H st.H/\r9.g C vs s.L st.L/\st.n5=s.n5/\Bg vs s.B
def nr (s:SS)(k:Nat)(v:SV):SS:={ s with L:=s.L.set k v }
mutual
def SV.W7 :SV->Option Nat
 | .top=>none
 | .ptr id _=>some (id+1)
 | .D0 id _ _ _=>some (id+1)
 | .agg _ l=>r9.W7 l
 | .tuple l=>r9.W7 l
 | .bn k=>some k
 |_=>some 0
def r9.W7 :List SV->Option Nat
 |[]=>some 0
 |x::xs=>match x.W7,r9.W7 xs with
  |some a,some b=>some (max a b)
  |_,_=>none
end
def SO.W7 :SO->Option Nat
 | .dead=>some 0
 | .cells _ l=>r9.W7 l
 | .pr _=>some 0
 | .bn k=>some k
 | .top=>none
def uN :List SO->Option (List Nat)
 |[]=>some []
 |o::os=>match o.W7,uN os with
  |some a,some b=>some (a::b)
  |_,_=>none
mutual
def SV.kill (id:Nat):SV->SV
 | .ptr i o=>if y4 i id then .any else .ptr i o
 | .D0 i z l n=>if y4 i id then .any else .D0 i z l n
 | .agg p l=>match r9.W7 l with
  |some 0=> .agg p l
  |_=> .agg none (r9.kill id l)
 | .tuple l=> .tuple (r9.kill id l)
 | .bn k=>if y4 k 0 then .bn 0 else .top
 |v=>v
def r9.kill (id:Nat):List SV->List SV
 |[]=>[]
 |v::vs=>v.kill id::r9.kill id vs
end
def SO.kill (id:Nat):SO->SO
 | .cells p l=>match r9.W7 l with
  |some 0=> .cells p l
  |_=> .cells none (r9.kill id l)
 | .bn k=>if y4 k 0 then .bn 0 else .top
 |o=>o
mutual
theorem Ib (id:Nat):∀ (v:b6),v.M3=0->v.kill id=v
 | .any,_=>by simp [b6.kill]
 | .d _,_=>by simp [b6.kill]
 | .ptr i o,h=>by simp [b6.M3] at h
 | .P9 _,_=>by simp [b6.kill]
 | .D0 i z l n,h=>by simp [b6.M3] at h
 | .own _ _ _,_=>by simp [b6.kill]
 | .I5,_=>by simp [b6.kill]
 | .agg l,h=>by simp only [b6.M3] at h;simp only [b6.kill];rw [lz id l h]
 | .tuple l,h=>by simp only [b6.M3] at h;simp only [b6.kill];rw [lz id l h]
 | .func f a b,h=>by simp only [b6.M3] at h;simp only [b6.kill];rw [lz id a (by omega),lz id b (by omega)]
 | .map i,h=>by simp [b6.M3] at h
theorem lz (id:Nat):∀ (l:List b6),y9 l=0->H7 id l=l
 |[],_=>rfl
 |v::l,h=>by simp only [y9] at h;simp only [H7];rw [Ib id v (by omega),lz id l (by omega)]
end
theorem MW (id:Nat){o:u5}(h:o.M3=0):o.kill id=o:=by
 cases o with
 |dead=>rfl
 |cells l=>simp only [u5.M3] at h;simp only [u5.kill,lz id l h]
 |map es =>
  simp only [u5.M3] at h;simp only [u5.kill]
  congr 1
  have:∀ es:List (Data×b6),y9 (es.map (·.2))=0->es.map (fun p=>(p.1,p.2.kill id))=es:=by
   intro es
   induction es with
   |nil=>intro _;rfl
   |cons e es ih =>
    intro h;simp only [G7,y9] at h;simp only [G7];rw [Ib id e.2 (by omega),ih (by omega)]
  exact this es h
section
variable {C:Ctx} {vs:List Nat}
mutual
theorem SV.cg:∀ {x:SV} {v:b6} {n:Nat},x.W7 =some n->x.g C vs v->v.M3=n
 | .top,_,_,h,_=>by simp [SV.W7] at h
 | .any,_,_,h,hg=>by simp only [SV.g] at hg;subst hg;simp only [SV.W7,Option.some.injEq] at h;subst h;rfl
 | .d _,_,_,h,hg=>by simp only [SV.g] at hg;obtain ⟨y,rfl,_⟩:=hg;simp only [SV.W7,Option.some.injEq] at h;subst h;rfl
 | .own _ _,_,_,h,hg=>by simp only [SV.g] at hg;obtain ⟨y,_,rfl,_⟩:=hg;simp only [SV.W7,Option.some.injEq] at h;subst h;rfl
 | .I5,_,_,h,hg=>by simp only [SV.g] at hg;subst hg;simp only [SV.W7,Option.some.injEq] at h;subst h;rfl
 | .ptr ..,_,_,h,hg=>by simp only [SV.g] at hg;subst hg;simp only [SV.W7,Option.some.injEq] at h;subst h;simp [b6.M3]
 | .P9 _,_,_,h,hg=>by simp only [SV.g] at hg;obtain ⟨_,_,rfl,_⟩:=hg;simp only [SV.W7,Option.some.injEq] at h;subst h;rfl
 | .D0 ..,_,_,h,hg=>by simp only [SV.g] at hg;subst hg;simp only [SV.W7,Option.some.injEq] at h;subst h;simp [b6.M3]
 | .agg p l,_,_,h,hg=>by simp only [SV.g] at hg;obtain ⟨cs,rfl,h1,_⟩:=hg;simp only [SV.W7] at h;simp only [b6.M3];exact r9.cg h h1
 | .tuple l,_,_,h,hg=>by simp only [SV.g] at hg;obtain ⟨cs,rfl,h1⟩:=hg;simp only [SV.W7] at h;simp only [b6.M3];exact r9.cg h h1
 | .bn k,_,_,h,hg=>by simp only [SV.g] at hg;simp only [SV.W7,Option.some.injEq] at h;subst h;exact hg.1
 | .q x,v,_,h,hg=>by
  simp only [SV.g] at hg;obtain ⟨y,h1,_⟩:=hg;simp only [SV.W7,Option.some.injEq] at h;subst h;cases v<;>simp only [b6.F2,reduceCtorEq] at h1<;>rfl
theorem r9.cg:∀ {x:List SV} {v:List b6} {n:Nat},r9.W7 x=some n->r9.g C vs x v->y9 v=n
 |[],_,_,h,hg=>by simp only [r9.g] at hg;subst hg;simp only [r9.W7,Option.some.injEq] at h;subst h;rfl
 |x::xs,_,_,h,hg=>by
  simp only [r9.g] at hg;obtain ⟨d,ds,rfl,h1,h2⟩:=hg;simp only [r9.W7] at h;split at h
  ·rename_i a b ha hb
   simp only [Option.some.injEq] at h;subst h;simp only [y9];rw [SV.cg ha h1,r9.cg hb h2]
  ·cases h
end
theorem SO.cg {x:SO}{o:u5}{n:Nat}(h:x.W7 =some n)(hg:x.g C vs o):o.M3=n:=by
 cases x with
 |dead=>simp only [SO.g] at hg;subst hg;simp only [SO.W7,Option.some.injEq] at h;subst h;rfl
 |cells p l=>obtain ⟨cs,rfl,h1,_⟩:=hg;simp only [SO.W7] at h;simp only [u5.M3];exact r9.cg h h1
 |pr k=>simp only [SO.g] at hg;simp only [SO.W7,Option.some.injEq] at h;subst h;exact C.M3 k o hg
 |bn k=>simp only [SO.g] at hg;simp only [SO.W7,Option.some.injEq] at h;subst h;exact hg
 |top=>simp [SO.W7] at h
theorem AG:∀ {x:List SO} {H:o6} {l:List Nat},uN x=some l->E7.g C vs x H->H.map u5.M3=l
 |[],_,_,h,hg=>by simp only [E7.g] at hg;subst hg;simp only [uN,Option.some.injEq] at h;subst h;rfl
 |x::xs,_,_,h,hg=>by
  simp only [E7.g] at hg;obtain ⟨d,ds,rfl,h1,h2⟩:=hg;simp only [uN] at h;split at h
  ·rename_i a b ha hb
   simp only [Option.some.injEq] at h;subst h;simp only [G7];rw [SO.cg ha h1,AG hb h2]
  ·cases h
mutual
theorem SV.cO (id:Nat):∀ {x:SV} {v:b6},x.g C vs v->(x.kill id).g C vs (v.kill id)
 | .top,_,_=>by simp [SV.kill,SV.g]
 | .any,_,hg=>by simp only [SV.g] at hg;subst hg;simp [SV.kill,b6.kill,SV.g]
 | .d _,_,hg=>by have hg' :=hg;simp only [SV.g] at hg;obtain ⟨y,rfl,_⟩:=hg;simpa only [SV.kill,b6.kill] using hg'
 | .own _ _,_,hg=>by have hg' :=hg;simp only [SV.g] at hg;obtain ⟨y,_,rfl,_⟩:=hg;simpa only [SV.kill,b6.kill] using hg'
 | .I5,_,hg=>by simp only [SV.g] at hg;subst hg;simp [SV.kill,b6.kill,SV.g]
 | .ptr i o,_,hg=>by
  simp only [SV.g] at hg;subst hg;simp only [SV.kill,b6.kill];split
  ·rename_i h;rw [if_pos (b8 h)];simp [SV.g]
  ·rename_i h;rw [if_neg (fun e=>h (by rw [e];exact Nat.beq_refl _))];simp [SV.g]
 | .P9 _,_,hg=>by have hg' :=hg;simp only [SV.g] at hg;obtain ⟨_,_,rfl,_⟩:=hg;simpa only [SV.kill,b6.kill] using hg'
 | .D0 i z l n,_,hg=>by
  simp only [SV.g] at hg;subst hg;simp only [SV.kill,b6.kill];split
  ·rename_i h;rw [if_pos (b8 h)];simp [SV.g]
  ·rename_i h;rw [if_neg (fun e=>h (by rw [e];exact Nat.beq_refl _))];simp [SV.g]
 | .agg p l,_,hg=>by
  have hg' :=hg;simp only [SV.g] at hg;obtain ⟨cs,rfl,h1,h2⟩:=hg;simp only [SV.kill,b6.kill];split
  ·rename_i h
   rw [lz id cs (r9.cg h h1)];exact hg'
  ·simp only [SV.g]
   exact ⟨_,rfl,r9.cO id h1,fun k h=>by cases h⟩
 | .tuple l,_,hg=>by
  simp only [SV.g] at hg;obtain ⟨cs,rfl,h1⟩:=hg;simp only [SV.kill,b6.kill,SV.g];exact ⟨_,rfl,r9.cO id h1⟩
 | .bn k,v,hg=>by
  simp only [SV.kill];split
  ·rename_i h
   have h:=b8 h;subst h;simp only [SV.g] at hg ⊢;rw [Ib id v hg.1];exact hg
  ·simp [SV.g]
 | .q x,v,hg=>by
  have hg' :=hg;simp only [SV.g] at hg;obtain ⟨y,h1,_⟩:=hg;simp only [SV.kill];rw [Ib id v (by cases v<;>simp only [b6.F2,reduceCtorEq] at h1<;>rfl)];exact hg'
theorem r9.cO (id:Nat):∀ {x:List SV} {v:List b6},r9.g C vs x v->r9.g C vs (r9.kill id x) (H7 id v)
 |[],_,h=>by simp only [r9.g] at h;subst h;simp [r9.kill,H7,r9.g]
 |x::xs,_,h=>by
  simp only [r9.g] at h;obtain ⟨d,ds,rfl,h2,h3⟩:=h;simp only [r9.kill,H7,r9.g];exact ⟨_,_,rfl,SV.cO id h2,r9.cO id h3⟩
end
theorem SO.cO (id:Nat){x:SO}{o:u5}(h:x.g C vs o):(x.kill id).g C vs (o.kill id):=by
 cases x with
 |dead=>simp only [SO.g] at h;subst h;rfl
 |cells p l =>
  have h' :=h;obtain ⟨cs,rfl,h1,h2⟩:=h;simp only [SO.kill,u5.kill];split
  ·rename_i hb
   rw [lz id cs (r9.cg hb h1)];exact h'
  ·exact ⟨_,rfl,r9.cO id h1,fun k h=>by cases h⟩
 |pr k =>
  simp only [SO.g] at h;simp only [SO.kill];rw [MW id (C.M3 k o h)];exact h
 |bn k =>
  simp only [SO.kill];split
  ·rename_i hk
   have hk:=b8 hk;subst hk;rw [MW id h];exact h
  ·trivial
 |top=>trivial
theorem E7.map {f:SO->SO}{f' :u5->u5}(hf:∀ x a,SO.g C vs x a->SO.g C vs (f x) (f' a)):∀ {x:List SO} {d:o6},E7.g C vs x d->E7.g C vs (x.map f) (d.map f')
 |[],_,h=>by simp only [E7.g] at h;subst h;simp [E7.g]
 |x::xs,_,h=>by
  simp only [E7.g] at h;obtain ⟨d,ds,rfl,h2,h3⟩:=h;simp only [G7,E7.g];exact ⟨_,_,rfl,hf _ _ h2,E7.map hf h3⟩
end
def uK (l:List Nat):Nat:=l.foldr max 0
def S5 (bs:List Nat)(strict:Nat):Nat->Nat->Nat
 |0,n=>n
 |k+1,n=>if J7 n strict then n else
  if y4 (max n (uK ((bs.take n).drop strict))) n then n else S5 bs strict k (max n (uK ((bs.take n).drop strict)))
def HM:List Nat->Nat->Bool
 |[],_=>true
 |b::bs,k=>J7 b (k+1)&&HM bs (k+1)
def jX (bs:List Nat)(strict n:Nat):Nat:=if J7 n strict then n else if HM ((bs.take n).drop strict) strict then n else strict
theorem LP:∀ H:o6,W8 H=uK (H.map u5.M3)
 |[]=>rfl
 |o::H=>by simp only [W8,G7,uK,List.foldr_cons];rw [LP H];rfl
theorem mN (H:o6)(a b:Nat):W8 ((H.take a).drop b)=uK (((H.map u5.M3).take a).drop b):=by
 rw [LP,List.map_drop,List.map_take]
theorem rA (H:o6)(strict:Nat):∀ (k n:Nat),G5 H strict k n=S5 (H.map u5.M3) strict k n
 |0,n=>rfl
 |k+1,n=>by
  simp only [G5,S5,mN,Nat.ble_eq,Nat.beq_eq];split
  ·rfl
  ·split
   ·rfl
   ·exact rA H strict k _
theorem LZ:∀ (H:o6) (k:Nat),O1 H k=HM (H.map u5.M3) k
 |[],_=>rfl
 |o::H,k=>by
  simp only [O1,G7,HM];rw [LZ H (k+1)]
  congr 1
  rw [Bool.eq_iff_iff,Nat.ble_eq];simp
theorem Hp (H:o6)(s n:Nat):B5 H s n=jX (H.map u5.M3) s n:=by
 simp only [B5,jX,LZ,List.map_drop,List.map_take,Nat.ble_eq]
def fh (s:SS):r8->SV×SS
 | .loc j=>match s.L[j]? with
  |some (.own z x)=>(.own z x,{ s with L:=s.L.set j (.d x) })
  |some (.q x)=>(.q x,s)
  |_=>(bz s.T s.L (.loc j),s)
 | .const v=>(PB v,s)
 | .slot t=>(bz s.T s.L (.slot t),s)
section
variable {C:Ctx} {vs:List Nat} {s:SS} {st:E1}
theorem bU (hs:s.g C vs st)(k:Nat){v:SV}{a:b6}(h:v.g C vs a):(nr s k v).g C vs (put st k a) :=
 ⟨hs.1,hs.2.1,r9.set hs.2.2.1 k h,hs.2.2.2⟩
theorem BW (hs:s.g C vs st)(x:r8):(fh s x).1.g C vs (C6 st x).1/\(fh s x).2.g C vs (C6 st x).2:=by
 obtain ⟨hT,hH,hL,ht,hB⟩:=hs;have hr:∀ x,(bz s.T s.L x).g C vs (F0 st.T st.L x):=fun x=>BP hT hL x
 cases x with
 |const v=>exact ⟨MU v,hT,hH,hL,ht,hB⟩
 |slot t=>exact ⟨hr (.slot t),hT,hH,hL,ht,hB⟩
 |loc j =>
  simp only [fh];split
  ·rename_i z x e
   obtain ⟨a,h1,h2⟩:=r9.get hL e;simp only [SV.g] at h2;obtain ⟨len,cells,rfl,h3⟩:=h2;simp only [C6,h1];refine ⟨?_,hT,hH,r9.set hL j ?_,ht,hB⟩
   ·simp only [SV.g];exact ⟨_,_,rfl,h3⟩
   ·simp only [SV.g];exact ⟨_,rfl,h3⟩
  ·rename_i x e
   obtain ⟨a,h1,h2⟩:=r9.get hL e;have hq:∀ v:b6,v.F2=a.F2->(SV.q x).g C vs v:=fun v hv=>by
    simp only [SV.g] at h2 ⊢;rw [hv];exact h2
   simp only [C6];split
   ·rename_i z len cells e2
    rw [h1] at e2;cases e2;refine ⟨hq _ rfl,hT,hH,?_,ht,hB⟩;have:=r9.set hL j (a:= .q x) (b:= .d (.slice len cells)) (hq _ rfl)
    rwa [W2 e] at this
   ·refine ⟨hq _ ?_,hT,hH,hL,ht,hB⟩
    simp only [F0,List.getD_eq_getElem?_getD,h1,Option.getD_some];cases a<;>rfl
  ·rename_i hno hnq
   simp only [C6];split
   ·rename_i z len cells e
    cases hx:s.L[j]? with
    |none=>rw [r9.none hL hx] at e;cases e
    |some y =>
     obtain ⟨a,h1,h2⟩:=r9.get hL hx;rw [e] at h1;cases h1;have hy:(y= .top\/y= .bn 0):=by
      cases y<;>simp only [SV.g,reduceCtorEq] at h2
      ·exact .inl rfl
      ·obtain ⟨_,h2,_⟩:=h2;cases h2
      ·rename_i z' x';exact absurd hx (hno z' x')
      ·obtain ⟨_,_,h2,_⟩:=h2;cases h2
      ·obtain ⟨_,h2,_⟩:=h2;cases h2
      ·obtain ⟨_,h2,_⟩:=h2;cases h2
      ·rw [<- h2.1];exact .inr rfl
      ·rename_i x';exact absurd hx (hnq x')
     have hg:∀ v:b6,v.M3=0->v.one=true->y.g C vs v:=fun v e1 e2=>by
      rcases hy with rfl|rfl
      ·simp [SV.g]
      ·simp only [SV.g];exact ⟨e1,e2⟩
     refine ⟨?_,hT,hH,?_,ht,hB⟩
     ·have:bz s.T s.L (.loc j)=y:=by rcases hy with rfl|rfl<;>simp [bz,List.getD_eq_getElem?_getD,hx,SV.F2]
      rw [this];exact hg _ rfl rfl
     ·have:=r9.set hL j (a:=y) (b:= .d (.slice len cells)) (hg _ rfl rfl)
      rwa [W2 hx] at this
   ·exact ⟨hr (.loc j),hT,hH,hL,ht,hB⟩
end
def qn (s:SS)(s5:Option Nat)(o:SO):SS:=match s5 with
 |none=>{ s with H:=s.H++[o] }
 |some i=>{ s with H:=s.H.set i o }
def iC (s:SS)(s5:Option Nat):Nat:=s5.getD s.H.length
def okB (lim:F9)(id:Nat):Option Nat->Bool
 |some b=>J7 b (id+1)||(J7 lim.base id&&J7 lim.strict id)
 |none=>J7 lim.base id&&J7 lim.strict id
def BR (lim:F9)(k n:Nat)(s:SS)(x:r8):SV->Option SS
 | .ptr id off=>match (fh s x).1.cells? with
  |some l=>if y4 l.length n&&lim.may id&&okB lim id (r9.W7 l) then
    match swr (fh s x).2.H id off (fh s x).1.tag l with
    |some H' =>some (nr { (fh s x).2 with H:=H',n5:= .obj id::(fh s x).2.n5 } k .any)
    |none=>none
   else none
  |none=>none
 |_=>none
def GR (B:ig)(H:List SO)(sz:Nat):SV->Option SD
 | .d z=>match z.slice? B sz with
  |some _=>some z
  |none=>none
 | .D0 id z lo len=>if y4 z sz then match Rr H id lo (len * sz) with
   |some l=>match gQ (l.map SV.F2) with
    |some xs=>some (mkSlice sz len xs)
    |none=>none
   |none=>none
  else none
 |_=>none
def Vb (B:ig)(sz:Nat)(x z:SD):Option (SD×Nat):=match x.slice? B sz,z.slice? B sz with
 |some (_,lo1,hi1,QU),some (_,lo2,hi2,QV) =>
  if y4 hi1 0 then some (z,hi2) else if y4 hi2 0 then some (x,hi1) else some (.slice none (lo1+lo2) (hi1+hi2) (D7.join QU QV),hi1+hi2)
 |_,_=>none
def CU (n5:List Touch)(s:Nat):Bool:=n5.any (Touch.Q1 s)
def wL (s:SS):r8->Option (Nat×Nat)
 | .loc m=>match s.L[m]? with
  |some (.ptr id off)=>some (id,off)
  |_=>none
 | .slot t=>if CU s.n5 t then none else match s.T[t]? with
  |some (.ptr id off)=>some (id,off)
  |_=>none
 | .const _=>none
def wQ (l:F9)(s:SS)(sz:Nat):s9->Option (SD×SS)
 | .M9 (.slot t)=>if CU s.n5 t then none else match s.T[t]? with
  |some (.own z x)=>if y4 z sz then some (x,{ s with T:=s.T.set t (.d x),n5:= .slot t::s.n5 }) else none
  |_=>none
 | .load none x=>match wL s x with
  |some (id,off)=>if s.n5.any (Touch.aj id off)|| !l.may id then none else
   match s.H[id]? with
   |some (.cells p cs)=>match cs[off]? with
    |some (.own z x)=>if y4 z sz then some (x,{ s with H:=s.H.set id (.cells p (cs.set off (.d x))),n5:= .cell id off::s.n5 }) else none
    |_=>none
   |_=>none
  |none=>none
 |_=>none
def wP (l:F9)(j4:List n8)(s:SS)(sz:Nat):r8->Option (SD×SS)
 | .const (.own z len cells)=>if y4 z sz then some (.lit (.slice len cells),s) else none
 | .loc j=>match s.L[j]? with
  |some (.own z x)=>if y4 z sz then some (x,{ s with L:=s.L.set j (.d x) }) else none
  |some (.d x)=>match x.ov s.B,j4[j]? with
   |some _,some a=>wQ l s sz a.op
   |_,_=>none
  |_=>none
 |_=>none
def BH (l:F9)(s:SS):s9->Bool
 | .M9 (.slot t)=> !CU s.n5 t&&(match s.T[t]? with|some .I5=>true|_=>false)
 | .load none x=>match wL s x with
  |some (id,off)=> !s.n5.any (Touch.aj id off)&&l.may id&&(match s.H[id]? with
   |some (.cells _ cs)=>(match cs[off]? with|some .I5=>true|_=>false)
   |_=>false)
  |none=>false
 |_=>false
def GW (l:F9)(j4:List n8)(s:SS):r8->Bool
 | .const .I5=>true
 | .loc j=>match s.L[j]? with
  |some .I5=>true
  |some (.d x)=>match x.ov s.B,j4[j]? with
   |some _,some a=>BH l s a.op
   |_,_=>false
  |_=>false
 |_=>false
def By (B:ig)(H:List SO)(sz:Nat):SV->Option (Nat×List SV)
 | .d z=>match z.slice? B sz with
  |some (_,lo,hi,row)=>if y4 lo hi then some (lo,(c9 lo (row.map .d)).flatten) else none
  |none=>none
 | .D0 id z lo len=>if y4 z sz then match Rr H id lo (len * sz) with
   |some l=>some (len,l.map SV.F2)
   |none=>none
  else none
 |_=>none
def Ea (n bytes:Nat):Bool:=J7 ((2 * n+512) * bytes) 281474976710656
def mZ (lim:F9)(j4:List n8)(s5:Option Nat)(k sz bytes:Nat)(ob:Bool)(s:SS)(x:r8)(y:SV):Option SS :=
 if ob then match By s.B s.H sz y with
  |some (m,cs)=>if GW lim j4 s x&&Ea m bytes&&Nat.blt 0 sz then
    (if y4 m 0 then some (nr s k .I5) else some (nr (qn s s5 (.cells none cs)) k (.D0 (iC s s5) sz 0 m)))
   else none
  |none=>none
 else match GR s.B s.H sz y with
  |some z=>match wP lim j4 s sz x with
   |some (x0,s')=>match Vb s.B sz x0 z with
    |some (r,hi)=>if Ea hi bytes&&Nat.blt 0 sz then some (nr s' k (.own sz r)) else none
    |none=>none
   |none=>none
  |none=>none
def uq (lim:F9)(entry k sz bytes:Nat)(s:SS)(id lo len:Nat)(y:SV):Option SS :=
 if J7 lim.base id&&J7 entry id&&lim.may id then
  match s.H[id]?,By s.B s.H sz y with
  |some (.cells _ l),some (m,cs)=>match r9.W7 cs with
   |some b=>if y4 lo 0&&y4 (len * sz) l.length&&Ea (len+m) bytes&&J7 b id&&cs.all SV.one&&Nat.blt 0 sz then
     some (nr { s with T:=r9.kill id s.T,H:=(s.H.take lim.base++(s.H.drop lim.base).map (SO.kill id)).set id (.cells none (r9.kill id l++cs)),L:=r9.kill id s.L,n5:= .obj id::s.n5 } k (.D0 id sz lo (len+m)))
    else none
   |none=>none
  |_,_=>none
 else none
section
variable {C:Ctx} {vs:List Nat} {s:SS} {st:E1}
theorem SS.F0 (hs:s.g C vs st)(x:r8):(bz s.T s.L x).g C vs (F0 st.T st.L x):=BP hs.1 hs.2.2.1 x
theorem Oa (hs:s.g C vs st){E:Env}{k n:Nat}{x:r8}{a:SV}{a' :b6}(ha:a.g C vs a'){s' :SS}(h:BR E.lim k n s x a=some s'):∃ st',O8 E k n st a' x=some st' /\s'.g C vs st' :=by
 cases a<;>simp only [BR,reduceCtorEq] at h;rename_i id off;rw [aX ha];obtain ⟨hv,hT,hH,hL,ht,hB⟩:=BW hs x;split at h
 ·rename_i l hl
  obtain ⟨cs,h1,h2,h3⟩:=SV.AH hv hl;split at h
  ·rename_i hc
   simp only [b5] at hc;split at h
   ·rename_i H' hw
    cases h;obtain ⟨H3,w1,w2⟩:=Zs hH h2 h3 hw;have hlen:=r9.len h2;have hn:=b8 hc.1.1;have ZX:y9 cs<=id+1\/(E.lim.base<=id/\E.lim.strict<=id):=by
     have h4:=hc.2;unfold okB at h4;split at h4
     ·rename_i b hb
      simp only [Bool.or_eq_true,b5,Nat.ble_eq] at h4;rw [r9.cg hb h2];exact h4
     ·simp only [b5,Nat.ble_eq] at h4
      exact .inr h4
    refine ⟨_,?_,bU (s:={ (fh s x).2 with H:=H',n5:= .obj id::(fh s x).2.n5 }) (st:={ (C6 st x).2 with H:=H3,n5:= .obj id::(C6 st x).2.n5 }) ⟨hT,w2,hL,congrArg (Touch.obj id::·) ht,hB⟩ k (v:= .any) (a:= .any) (by simp only [SV.g])⟩;simp only [O8,h1];rw [if_pos ⟨by omega,hc.1.2,ZX⟩,w1]
   ·cases h
  ·cases h
 ·cases h
theorem NH (hs:s.g C vs st){sz:Nat}{y:SV}{y' :b6}(hy:y.g C vs y'){z:SD}(h:GR s.B s.H sz y=some z):∃ m cs new,I8 st.H sz y' =some (m,cs)/\L7 cs=some new/\z.g C vs (.slice m new):=by
 obtain ⟨hT,hH,hL,ht,hB⟩:=hs;cases y<;>simp only [GR,reduceCtorEq] at h
 ·rename_i z'
  split at h
  ·rename_i q hq
   cases h;obtain ⟨d,rfl,h1⟩:=Z4 hy;obtain ⟨v,lo,hi,row⟩:=q;obtain ⟨hw,rows,rfl,h2,h3,h4,h5⟩:=SD.cT hB hq h1;have hfl:rows.flatten.length=rows.length * sz:=iX (fun r hr=>by rw [D7.len (h5 r hr)];exact hw);exact ⟨_,_,_,by simp only [I8,hfl,if_true],fH _,h1⟩
  ·cases h
 ·rename_i id z' lo len
  rw [jW hy];split at h
  ·rename_i hz
   have hz:=b8 hz;split at h
   ·rename_i l hl
    split at h
    ·rename_i xs hxs
     cases h;obtain ⟨cs,h1,h2⟩:=zz hH hl;have h3:=r9.map (C:=C) (vs:=vs) (fun _ _=>SV.ny) h2;obtain ⟨ds,h4,h5⟩:=lQ h3 hxs;have hlen:xs.length=len * sz:=by
      have e1:=D7.len h5;have e2:∀ {v:List b6} {d:List Data},L7 v=some d->d.length=v.length:=by
       intro v
       induction v with
       |nil=>intro d h;simp only [L7,Option.some.injEq] at h;subst h;rfl
       |cons a v ih =>
        intro d h;simp only [L7] at h;split at h
        ·split at h
         ·rename_i q hq
          simp only [Option.some.injEq] at h;subst h;simp [ih hq]
         ·cases h
        ·cases h
      have e3:=e2 h4;have e4:=r9.len h2;have e5:l.length=len * sz:=by
       unfold Rr at hl;split at hl
       ·split at hl
        ·rename_i hb
         have hb:=m6 hb;cases hl;simp;omega
        ·cases hl
       ·cases hl
      simp at e3;omega
     refine ⟨len,_,ds,?_,h4,mW hlen h5⟩;simp only [I8];rw [if_pos hz,h1]
    ·cases h
   ·cases h
  ·cases h
theorem Vc {B:ig}(hB:Bg vs B){sz:Nat}{x z r:SD}{hi len m:Nat}{cells new:List Data}(h:Vb B sz x z=some (r,hi))(hx:x.g C vs (.slice len cells))(hz:z.g C vs (.slice m new)):r.g C vs (.slice (len+m) (cells++new))/\len+m<=hi:=by
 unfold Vb at h;split at h
 ·rename_i v1 lo1 hi1 QU v2 lo2 hi2 QV e1 e2
  obtain ⟨w1,SI,r1,a1,a2,a3,a4⟩:=SD.cT hB e1 hx;obtain ⟨w2,SJ,r2,b1,b2,b3,b4⟩:=SD.cT hB e2 hz;injection r1 with r1a r1b
  injection r2 with r2a r2b
  split at h
  ·rename_i h0
   have h0:=b8 h0;simp only [Option.some.injEq,Prod.mk.injEq] at h;obtain ⟨rfl,rfl⟩:=h;have:SI=[]:=List.eq_nil_of_length_eq_zero (by omega);subst this;subst r1b;simp at r1a;subst r1a;exact ⟨by simpa using hz,by omega⟩
  ·split at h
   ·rename_i h0
    have h0:=b8 h0;simp only [Option.some.injEq,Prod.mk.injEq] at h;obtain ⟨rfl,rfl⟩:=h;have:SJ=[]:=List.eq_nil_of_length_eq_zero (by omega);subst this;subst r2b;simp at r2a;subst r2a;exact ⟨by simpa using hx,by omega⟩
   ·simp only [Option.some.injEq,Prod.mk.injEq] at h
    obtain ⟨rfl,rfl⟩:=h;refine ⟨?_,by omega⟩;simp only [SD.g];refine ⟨SI++SJ,?_,by simp;omega,by simp;omega,(fun i h=>by cases h),fun q hq=> ?_⟩
    ·rw [List.flatten_append,<- r1b,<- r2b,C1,<- r1a,<- r2a]
    ·rcases List.mem_append.1 hq with hq|hq
     ·exact D7.R4 QU QV (by omega) (a4 q hq)
     ·exact D7.R5 QU QV (by omega) (b4 q hq)
 ·cases h
theorem NV (hs:s.g C vs st){x:r8}{id off:Nat}(h:wL s x=some (id,off)):Y6 st x=some (id,off):=by
 obtain ⟨hT,hH,hL,ht,hB⟩:=hs;cases x with
 |loc m =>
  simp only [wL] at h;split at h
  ·rename_i e
   cases h;obtain ⟨a,h1,h2⟩:=r9.get hL e;rw [aX h2] at h1;simp only [Y6,h1]
  ·cases h
 |slot t =>
  simp only [wL] at h;split at h
  ·cases h
  ·rename_i hh
   unfold CU at hh;split at h
   ·rename_i e
    cases h;obtain ⟨a,h1,h2⟩:=r9.get hT e;rw [aX h2] at h1;simp only [Y6,ht];rw [if_neg hh,h1]
   ·cases h
 |const v=>cases h
theorem Hh (hs:s.g C vs st){l:F9}{sz:Nat}{op:s9}{x:SD}{s' :SS}(h:wQ l s sz op=some (x,s')):∃ len cells st',U2 l st sz op=some (len,cells,st')/\x.g C vs (.slice len cells)/\s'.g C vs st' :=by
 have hs' :=hs;obtain ⟨hT,hH,hL,ht,hB⟩:=hs;unfold wQ at h;split at h
 ·rename_i t
  split at h
  ·cases h
  ·rename_i hh
   unfold CU at hh;split at h
   ·rename_i z x' e
    split at h
    ·rename_i hz
     have hz:=b8 hz;simp only [Option.some.injEq,Prod.mk.injEq] at h;obtain ⟨rfl,rfl⟩:=h;obtain ⟨a,h1,h2⟩:=r9.get hT e;obtain ⟨len,cells,rfl,h3⟩:=oz h2;refine ⟨len,cells,{ st with T:=st.T.set t (.d (.slice len cells)),n5:= .slot t::st.n5 },?_,h3,r9.set hT t (bf h3),hH,hL,by simp only [ht],hB⟩;simp only [U2,ht];rw [if_neg hh,h1];simp only;rw [if_pos hz]
    ·cases h
   ·cases h
 ·rename_i y
  split at h
  ·rename_i id off hp
   split at h
   ·cases h
   ·rename_i hh
    split at h
    ·rename_i p cs e
     split at h
     ·rename_i z x' e2
      split at h
      ·rename_i hz
       have hz:=b8 hz;simp only [Option.some.injEq,Prod.mk.injEq] at h;obtain ⟨rfl,rfl⟩:=h;obtain ⟨o,h1,h2⟩:=E7.get hH e;obtain ⟨ds,rfl,h3,h4⟩:=h2;obtain ⟨a,h5,h6⟩:=r9.get h3 e2;obtain ⟨len,cells,rfl,h7⟩:=oz h6;refine ⟨len,cells,{ st with H:=st.H.set id (.cells (ds.set off (.d (.slice len cells)))),n5:= .cell id off::st.n5 },?_,h7,hT,E7.set hH id ⟨_,rfl,r9.set h3 off (bf h7),fun k hk=> ?_⟩,hL,by simp only [ht],hB⟩
       ·simp only [U2,NV hs' hp,ht]
        rw [if_neg hh,h1];simp only [h5];rw [if_pos hz]
       ·have e3:(ds.set off (.d (.slice len cells))).map b6.F2=ds.map b6.F2:=by
         rw [List.map_set];apply W2;simp [h5,b6.F2]
        rw [e3];exact h4 k hk
      ·cases h
     ·cases h
    ·cases h
  ·cases h
 ·cases h
theorem qm (hB:Bg vs s.B){x:SD}{d:Data}{q:Option Nat×Nat×Nat}(h:x.ov s.B=some q)(hx:x.g C vs d):∃ n cells,d= .slice n cells:=by
 obtain ⟨v,lo,hi⟩:=q;obtain ⟨n,cells,rfl,_⟩:=SD.Gw hB h hx;exact ⟨n,cells,rfl⟩
theorem Hg (hs:s.g C vs st){l:F9}{j4:List n8}{sz:Nat}{y:r8}{x:SD}{s' :SS}(h:wP l j4 s sz y=some (x,s')):∃ len cells st',O4 l j4 st sz y=some (len,cells,st')/\x.g C vs (.slice len cells)/\s'.g C vs st' :=by
 have hs' :=hs;obtain ⟨hT,hH,hL,ht,hB⟩:=hs;unfold wP at h;split at h
 ·rename_i z len cells
  split at h
  ·rename_i hz
   have hz:=b8 hz;simp only [Option.some.injEq,Prod.mk.injEq] at h;obtain ⟨rfl,rfl⟩:=h;exact ⟨len,cells,st,by simp only [O4];rw [if_pos hz],by simp only [SD.g],hs'⟩
  ·cases h
 ·rename_i j
  split at h
  ·rename_i z x' e
   split at h
   ·rename_i hz
    have hz:=b8 hz;simp only [Option.some.injEq,Prod.mk.injEq] at h;obtain ⟨rfl,rfl⟩:=h;obtain ⟨a,h1,h2⟩:=r9.get hL e;obtain ⟨len,cells,rfl,h3⟩:=oz h2;refine ⟨len,cells,{ st with L:=st.L.set j (.d (.slice len cells)) },?_,h3,hT,hH,r9.set hL j (bf h3),ht,hB⟩;simp only [O4,h1];rw [if_pos hz]
   ·cases h
  ·rename_i x' e
   split at h
   ·rename_i q a hq ha
    obtain ⟨b,h1,h2⟩:=r9.get hL e;obtain ⟨d,rfl,h3⟩:=Z4 h2;obtain ⟨n,cells,rfl⟩:=qm hB hq h3;obtain ⟨len,cells',st',h4,h5,h6⟩:=Hh hs' h;exact ⟨len,cells',st',by simp only [O4,h1,ha,h4],h5,h6⟩
   ·cases h
  ·cases h
 ·cases h
theorem Ld (hs:s.g C vs st){l:F9}{op:s9}(h:BH l s op=true):lH l st op=true:=by
 have hs' :=hs;obtain ⟨hT,hH,hL,ht,hB⟩:=hs;unfold BH at h;split at h
 ·rename_i t
  simp only [b5,CU] at h;obtain ⟨h1,h2⟩:=h;split at h2
  ·rename_i e
   obtain ⟨a,h3,h4⟩:=r9.get hT e;simp only [SV.g] at h4;subst h4;simp only [lH,ht,h1,h3,Bool.and_self]
  ·cases h2
 ·rename_i x
  split at h
  ·rename_i id off hp
   simp only [b5] at h;obtain ⟨h1,h2⟩:=h;split at h2
   ·rename_i p cs e
    split at h2
    ·rename_i e2
     obtain ⟨o,h3,h4⟩:=E7.get hH e;obtain ⟨ds,rfl,h5,_⟩:=h4;obtain ⟨a,h6,h7⟩:=r9.get h5 e2;simp only [SV.g] at h7;subst h7;simp only [lH,NV hs' hp,ht,h1.1,h1.2,h3,h6,Bool.and_self]
    ·cases h2
   ·cases h2
  ·cases h
 ·cases h
theorem NQ (hs:s.g C vs st){l:F9}{j4:List n8}{y:r8}(h:GW l j4 s y=true):isNil l j4 st y=true:=by
 have hs' :=hs;obtain ⟨hT,hH,hL,ht,hB⟩:=hs;unfold GW at h;split at h
 ·rfl
 ·rename_i j
  split at h
  ·rename_i e
   obtain ⟨a,h1,h2⟩:=r9.get hL e;simp only [SV.g] at h2;subst h2;simp only [isNil,h1]
  ·rename_i x e
   split at h
   ·rename_i q a hq ha
    obtain ⟨b,h1,h2⟩:=r9.get hL e;obtain ⟨d,rfl,h3⟩:=Z4 h2;obtain ⟨n,cells,rfl⟩:=qm hB hq h3;simp only [isNil,h1,ha];exact Ld hs' h
   ·cases h
  ·cases h
 ·cases h
theorem HP {row:List SD}:∀ {rows:List (List Data)},(∀ r,r ∈ rows->D7.g C vs row r)->r9.g C vs (c9 rows.length (row.map .d)).flatten (rows.flatten.map .d)
 |[],_=>by simp [r9.g]
 |r::rows,h=>by
  simp only [y8,List.replicate_succ,List.flatten_cons,List.map_append];exact r9.app (r9.KI (h r (by simp))) (HP (fun r hr=>h r (by simp [hr])))
theorem DT (hs:s.g C vs st){sz m:Nat}{y:SV}{y' :b6}(hy:y.g C vs y'){l:List SV}(h:By s.B s.H sz y=some (m,l)):∃ cs,I8 st.H sz y' =some (m,cs)/\r9.g C vs l cs:=by
 obtain ⟨hT,hH,hL,ht,hB⟩:=hs;cases y<;>simp only [By,reduceCtorEq] at h
 ·rename_i z'
  split at h
  ·rename_i v lo hi row hq
   split at h
   ·rename_i he
    have he:=b8 he;simp only [Option.some.injEq,Prod.mk.injEq] at h;obtain ⟨rfl,rfl⟩:=h;obtain ⟨d,rfl,h1⟩:=Z4 hy;obtain ⟨hw,rows,rfl,h2,h3,h4,h5⟩:=SD.cT hB hq h1;have hfl:rows.flatten.length=rows.length * sz:=iX (fun r hr=>by rw [D7.len (h5 r hr)];exact hw);have hn:lo=rows.length:=by omega
    subst hn;exact ⟨_,by simp only [I8,hfl,if_true],HP h5⟩
   ·cases h
  ·cases h
 ·rename_i id z' lo len
  rw [jW hy];split at h
  ·rename_i hz
   have hz:=b8 hz;split at h
   ·rename_i l' hl
    simp only [Option.some.injEq,Prod.mk.injEq] at h;obtain ⟨rfl,rfl⟩:=h;obtain ⟨cs,h1,h2⟩:=zz hH hl;refine ⟨_,?_,r9.map (fun _ _=>SV.ny) h2⟩;simp only [I8];rw [if_pos hz,h1]
   ·cases h
  ·cases h
theorem BQ {n m bytes:Nat}(h:Ea n bytes=true)(hm:m<=n):roomFor m bytes=true:=by
 unfold Ea at h;have h:=m6 h;simp only [roomFor,decide_eq_true_eq];exact Nat.le_trans (Nat.mul_le_mul_right _ (by omega)) h
theorem BG (hs:s.g C vs st){s5:Option Nat}{o:SO}{o' :u5}(h:o.g C vs o'):(qn s s5 o).g C vs (I4 st s5 o')/\newId st s5=iC s s5:=by
 obtain ⟨hT,hH,hL,ht,hB⟩:=hs;have hlen:=E7.len hH;cases s5 with
 |none =>
  refine ⟨⟨hT,E7.app hH (by simp only [E7.g];exact ⟨_,_,rfl,h,rfl⟩),hL,ht,hB⟩,?_⟩;simp [newId,iC,hlen]
 |some i=>exact ⟨⟨hT,E7.set hH i h,hL,ht,hB⟩,rfl⟩
theorem zw (hs:s.g C vs st){E:Env}{j4:List n8}{s5:Option Nat}{k sz bytes:Nat}{ob:Bool}{x:r8}{y:SV}{y' :b6}(hy:y.g C vs y'){s' :SS}(h:mZ E.lim j4 s5 k sz bytes ob s x y=some s'):∃ st',J5 E j4 s5 k sz bytes ob st x y' =some st' /\s'.g C vs st' :=by
 unfold mZ at h;split at h
 ·rename_i LB
  split at h
  ·rename_i m cs he
   obtain ⟨ds,h1,h2⟩:=DT hs hy he;split at h
   ·rename_i hc
    simp only [b5] at hc;have c1:=NQ hs hc.1.1;have c2:=BQ hc.1.2 (l5 _);have c3:0<sz:=m6 hc.2;split at h
    ·rename_i h0
     have h0:=b8 h0;cases h;refine ⟨_,?_,bU hs k (v:= .I5) (a:= .I5) (by simp only [SV.g])⟩;simp only [J5,h1,LB,if_true];rw [if_pos ⟨c1,c2,c3⟩,if_pos h0]
    ·rename_i h0
     have h0:m≠0:=fun e=>h0 (by rw [e];rfl)
     cases h;obtain ⟨n1,n2⟩:=BG hs (s5:=s5) (o:= .cells none cs) (o' := .cells ds) ⟨ds,rfl,h2,fun k h=>by cases h⟩;refine ⟨_,?_,bU n1 k (v:= .D0 (iC s s5) sz 0 m) (a:= .D0 (newId st s5) sz 0 m) (by simp only [SV.g,n2])⟩;simp only [J5,h1,LB,if_true];rw [if_pos ⟨c1,c2,c3⟩,if_neg h0]
   ·cases h
  ·cases h
 ·rename_i LB
  split at h
  ·rename_i z hz
   obtain ⟨m,cs,new,h1,h2,h3⟩:=NH hs hy hz;split at h
   ·rename_i x0 s1 ht
    obtain ⟨len,cells,P3,h4,h5,h6⟩:=Hg hs ht;split at h
    ·rename_i r hi TD
     obtain ⟨h7,h8⟩:=Vc hs.2.2.2.2 TD h5 h3;split at h
     ·rename_i hc
      simp only [b5] at hc;have c2:=BQ hc.1 h8;have c3:0<sz:=m6 hc.2;cases h;refine ⟨_,?_,bU h6 k (v:= .own sz r) (a:= .own sz (len+m) (cells++new)) (by simp only [SV.g];exact ⟨_,_,rfl,h7⟩)⟩;simp only [J5,h1,h2,h4];rw [if_neg LB,if_pos ⟨c2,c3⟩]
     ·cases h
    ·cases h
   ·cases h
  ·cases h
theorem KY (hs:s.g C vs st){E:Env}{k sz bytes id lo len:Nat}{y:SV}{y' :b6}(hy:y.g C vs y'){s' :SS}(h:uq E.lim E.entry k sz bytes s id lo len y=some s'):∃ st',V8 E k sz bytes st id lo len y' =some st' /\s'.g C vs st' :=by
 unfold uq at h;split at h
 ·rename_i hc0
  simp only [b5,Nat.ble_eq] at hc0;split at h
  ·rename_i p l m cs Mq he
   split at h
   ·rename_i b hb
    split at h
    ·rename_i hc
     simp only [b5,Nat.ble_eq] at hc;obtain ⟨⟨⟨⟨⟨c1,c2⟩,c3⟩,c4⟩,c5⟩,c6⟩:=hc;cases h;obtain ⟨ds,h1,h2⟩:=DT hs hy he;have hs' :=hs;obtain ⟨hT,hH,hL,ht,hB⟩:=hs;obtain ⟨o,h3,h4⟩:=E7.get hH Mq;obtain ⟨es,rfl,h5,_⟩:=h4;have e1:=r9.len h5;have c1:=b8 c1;have c2:=b8 c2;have hrf:=BQ c3 (l5 _);refine ⟨_,?_,bU (s:={ s with T:=r9.kill id s.T,H:=(s.H.take E.lim.base++(s.H.drop E.lim.base).map (SO.kill id)).set id (.cells none (r9.kill id l++cs)),L:=r9.kill id s.L,n5:= .obj id::s.n5 }) (st:={ T:=H7 id st.T,H:=(st.H.take E.lim.base++(st.H.drop E.lim.base).map (u5.kill id)).set id (.cells (H7 id es++ds)),L:=H7 id st.L,n5:= .obj id::st.n5 }) ⟨r9.cO id hT,E7.set (E7.app (E7.take hH _) (E7.map (fun _ _=>SO.cO id) (E7.drop hH _))) id (a:= .cells none (r9.kill id l++cs)) (b:= .cells (H7 id es++ds)) ⟨_,rfl,r9.app (r9.cO id h5) h2,fun k h=>by cases h⟩,r9.cO id hL,by simp only [ht],hB⟩ k (v:= .D0 id sz lo (len+m)) (a:= .D0 id sz lo (len+m)) (by simp only [SV.g])⟩;simp only [V8,h3,h1];rw [if_pos ⟨hc0.1.1,hc0.1.2,hc0.2⟩,if_pos ⟨c1,by omega,hrf,by rw [r9.cg hb h2];exact c4,r9.vU h2 c5,m6 c6⟩]
    ·cases h
   ·cases h
  ·cases h
 ·cases h
end
abbrev Sem:=ig->FuncId->List SV->List SO->F9->Option (List (SV×List SO))
def fe (C:Ctx)(A:Prog)(sem:Sem):Prop:=∀ B f args H l outs,sem B f args H l=some outs->∀ vs,Bg vs B->∀ as Hc,r9.g C vs args as->E7.g C vs H Hc ->
 Pq A f as Hc l fun v H1=>∃ o,o ∈ outs/\o.1.g C vs v/\E7.g C vs o.2 H1
def fP {α β:Type}(f:α->Option (List β)):List α->Option (List β)
 |[]=>some []
 |a::r=>match f a,fP f r with
  |some x,some y=>some (x++y)
  |_,_=>none
theorem U7 {α β:Type}{f:α->Option (List β)}:∀ {l:List α} {r:List β},fP f l=some r->∀ a,a ∈ l->∃ x,f a=some x/\∀ b,b ∈ x->b ∈ r
 |[],_,_,a,h=>by cases h
 |c::l,r,h,a,ha=>by
  simp only [fP] at h;split at h
  ·rename_i x y hx hy
   cases h
   rcases B8.1 ha with rfl|ha
   ·exact ⟨x,hx,fun b hb=>List.mem_append_left _ hb⟩
   ·obtain ⟨z,h1,h2⟩:=U7 hy a ha
    exact ⟨z,h1,fun b hb=>List.mem_append_right _ (h2 b hb)⟩
  ·cases h
section
variable (A:Prog) (sem:Sem)
def NI (lim:F9)(k:Nat)(f:FuncId)(args:List SV)(s:SS):Option (List SS) :=
 if A.prom f then match sem s.B f args s.H lim with
  |some outs=>if outs.all (fun o=>J7 s.H.length o.2.length) then some (outs.map fun o=>nr { s with H:=o.2,n5:= .below o.2.length::s.n5 } k o.1) else none
  |none=>none
 else match uN s.H,r9.W7 args with
  |some bs,some b0 =>
   if J7 (S5 bs lim.strict 8 b0) s.H.length&&J7 (uK ((bs.take (S5 bs lim.strict 8 b0)).drop lim.strict)) (S5 bs lim.strict 8 b0) then
    match A.mode f with
    |0=>match sem s.B f args (s.H.take (S5 bs lim.strict 8 b0)) { lim with base:=S5 bs lim.strict 8 b0,strict:=jX bs lim.strict (S5 bs lim.strict 8 b0) } with
     |some outs=>if outs.all (fun o=>y4 o.2.length (S5 bs lim.strict 8 b0)) then some (outs.map fun o=>nr { s with H:=o.2++s.H.drop (S5 bs lim.strict 8 b0),n5:= .below (S5 bs lim.strict 8 b0)::s.n5 } k o.1) else none
     |none=>none
    |1=>match sem s.B f args (s.H.take (S5 bs lim.strict 8 b0)) ⟨0,S5 bs lim.strict 8 b0,S5 bs lim.strict 8 b0,jX bs lim.strict (S5 bs lim.strict 8 b0)⟩ with
     |some outs=>if outs.all (fun o=>y4 o.2.length (S5 bs lim.strict 8 b0)) then some (outs.map fun o=>nr s k o.1) else none
     |none=>none
    |_=>match (args.headD .any).W7 with
     |some m=>match sem s.B f args (s.H.take (S5 bs lim.strict 8 b0)) (lim.jK m (S5 bs lim.strict 8 b0) (S5 bs lim.strict 8 b0) (jX bs lim.strict (S5 bs lim.strict 8 b0))) with
      |some outs=>if outs.all (fun o=>y4 o.2.length (S5 bs lim.strict 8 b0))&&J7 m (S5 bs lim.strict 8 b0) then some (outs.map fun o=>nr { s with H:=o.2.take m++s.H.drop m,n5:= .below m::s.n5 } k o.1) else none
      |none=>none
     |none=>none
   else none
  |_,_=>none
def one {α:Type}:Option α->Option (List α)
 |some a=>some [a]
 |none=>none
def Rf (lim:F9)(entry:Nat)(j4:List n8)(s5:Option Nat)(k:Nat)(s:SS):s9->Option (List SS)
 | .alloc zero=>some [nr (qn s s5 (.cells none (zero.map PB))) k (.ptr (iC s s5) 0)]
 | .box x=>match (bz s.T s.L x).cells? with
  |some l=>some [nr (qn s s5 (.cells (bz s.T s.L x).tag l)) k (.ptr (iC s s5) 0)]
  |none=>none
 | .y6 sz len zero parts true=>match wG (zero.map PB) (parts.map fun (o,t,x)=>(o,t,bz s.T s.L x)) with
  |some cs=>if Nat.blt 0 sz&&y4 cs.length (len * sz) then some [nr (qn s s5 (.cells none cs)) k (.D0 (iC s s5) sz 0 len)] else none
  |none=>none
 | .store n a x=>one (BR lim k n s x (bz s.T s.L a))
 | .append sz bytes ob x y=>match bz s.T s.L x with
  | .D0 id z lo len=>if y4 z sz then one (uq lim entry k sz bytes s id lo len (bz s.T s.L y)) else none
  | .d _=>one (mZ lim j4 s5 k sz bytes ob s x (bz s.T s.L y))
  | .I5=>one (mZ lim j4 s5 k sz bytes ob s x (bz s.T s.L y))
  |_=>none
 | .call f xs=>NI A sem lim k f (xs.map (bz s.T s.L)) s
 |_=>none
end
section
variable {C:Ctx} {vs:List Nat} {s:SS} {st:E1} {A:Prog} {sem:Sem} (eD:fe C A sem)
theorem r9.TZ {σ:r8->SV}{ρ:r8->b6}(h:∀ x,(σ x).g C vs (ρ x)):∀ xs:List r8,r9.g C vs (xs.map σ) (xs.map ρ)
 |[]=>by simp [r9.g]
 |x::xs=>by simp only [G7,r9.g];exact ⟨_,_,rfl,h x,r9.TZ h xs⟩
theorem Qj:∀ {x:List SV} {v:List b6},r9.g C vs x v->(x.headD .any).g C vs (v.headD .any)
 |[],_,h=>by simp only [r9.g] at h;subst h;simp [SV.g]
 |x::xs,_,h=>by simp only [r9.g] at h;obtain ⟨d,ds,rfl,h1,_⟩:=h;exact h1
include eD
theorem Re (hs:s.g C vs st){l:F9}{b k:Nat}{f:FuncId}{args:List SV}{as:List b6}(ha:r9.g C vs args as){outs:List SS}(h:NI A sem l k f args s=some outs) :
  ∃ st' N,(∃ o,o ∈ outs/\o.g C vs st')/\∀ n,N<=n->A6 (J4 A n l b) k f as st=some st' :=by
 have hs' :=hs;obtain ⟨hT,hH,hL,ht,hB⟩:=hs;have hlen:=E7.len hH;unfold NI at h;split at h
 ·rename_i dc
  split at h
  ·rename_i os hos
   split at h
   ·rename_i hall
    cases h;obtain ⟨v,H1,⟨o,o1,o2,o3⟩,N,hN⟩:=eD _ _ _ _ _ _ hos vs hB _ _ ha hH;have hl:=m6 (List.all_eq_true.1 hall o o1);have kU:=E7.len o3;refine ⟨_,N,⟨_,List.mem_map.2 ⟨o,o1,rfl⟩,bU (s:={ s with H:=o.2,n5:= .below o.2.length::s.n5 }) (st:={ st with H:=H1,n5:= .below H1.length::st.n5 }) ⟨hT,o3,hL,by simp only [ht,kU],hB⟩ k o2⟩,fun n hn=> ?_⟩;have Ck:(J4 A n l b).cf f as st.H l=some (v,H1):=hN n hn;have Gs :(J4 A n l b).prom f=true:=dc;have hlim:(J4 A n l b).lim=l:=rfl;simp only [A6,Gs,if_true,hlim,Ck];rw [if_pos (by omega)]
   ·cases h
  ·cases h
 ·rename_i dc
  have dc:A.prom f=false:=by simpa using dc
  split at h
  ·rename_i bs b0 Ky hb0
   have e1:=AG Ky hH;have e2:=r9.cg hb0 ha;have e3:G5 st.H l.strict 8 (y9 as)=S5 bs l.strict 8 b0:=by rw [rA,e1,e2]
   have e4:∀ n,B5 st.H l.strict n=jX bs l.strict n:=fun n=>by rw [Hp,e1]
   generalize TE:S5 bs l.strict 8 b0=n0 at h;rw [TE] at e3;split at h
   ·rename_i hc
    simp only [b5,Nat.ble_eq] at hc;have AY:W8 ((st.H.take n0).drop l.strict)<=n0:=by rw [mN,e1];exact hc.2
    have hle:n0<=st.H.length:=by omega
    have hHt:=E7.take hH n0;have hHd:=E7.drop hH n0;split at h
    ·rename_i hm
     split at h
     ·rename_i os hos
      split at h
      ·rename_i hall
       cases h;obtain ⟨v,H1,⟨o,o1,o2,o3⟩,N,hN⟩:=eD _ _ _ _ _ _ hos vs hB _ _ ha hHt;have hl:=b8 (List.all_eq_true.1 hall o o1);have kU:=E7.len o3;refine ⟨_,N,⟨_,List.mem_map.2 ⟨o,o1,rfl⟩,bU (s:={ s with H:=o.2++s.H.drop n0,n5:= .below n0::s.n5 }) (st:={ st with H:=H1++st.H.drop n0,n5:= .below n0::st.n5 }) ⟨hT,E7.app o3 hHd,hL,by simp only [ht],hB⟩ k o2⟩,fun n hn=> ?_⟩;exact uP (E:=J4 A n l b) dc hm e3 hle AY rfl (by rw [show (J4 A n l b).lim=l from rfl,e4];exact hN n hn) (by omega)
      ·cases h
     ·cases h
    ·rename_i hm
     split at h
     ·rename_i os hos
      split at h
      ·rename_i hall
       cases h;obtain ⟨v,H1,⟨o,o1,o2,o3⟩,N,hN⟩:=eD _ _ _ _ _ _ hos vs hB _ _ ha hHt;have hl:=b8 (List.all_eq_true.1 hall o o1);have kU:=E7.len o3;refine ⟨_,N,⟨_,List.mem_map.2 ⟨o,o1,rfl⟩,bU hs' k o2⟩,fun n hn=> ?_⟩;exact oT (E:=J4 A n l b) dc hm e3 hle AY rfl (by rw [show (J4 A n l b).lim=l from rfl,e4];exact hN n hn) (by omega)
      ·cases h
     ·cases h
    ·rename_i hm0 Gq
     split at h
     ·rename_i m VK
      split at h
      ·rename_i os hos
       split at h
       ·rename_i hall
        simp only [b5,Nat.ble_eq] at hall;cases h;obtain ⟨v,H1,⟨o,o1,o2,o3⟩,N,hN⟩:=eD _ _ _ _ _ _ hos vs hB _ _ ha hHt;have hl:=b8 (List.all_eq_true.1 hall.1 o o1);have kU:=E7.len o3;have hm2:=SV.cg VK (Qj ha);refine ⟨_,N,⟨_,List.mem_map.2 ⟨o,o1,rfl⟩,bU (s:={ s with H:=o.2.take m++s.H.drop m,n5:= .below m::s.n5 }) (st:={ st with H:=H1.take m++st.H.drop m,n5:= .below m::st.n5 }) ⟨hT,E7.app (E7.take o3 m) (E7.drop hH m),hL,by simp only [ht],hB⟩ k o2⟩,fun n hn=> ?_⟩;have Ck:(J4 A n l b).cf f as (st.H.take n0) (l.jK m n0 n0 (jX bs l.strict n0))=some (v,H1):=hN n hn;have Gs :(J4 A n l b).prom f=false:=dc;have hlim:(J4 A n l b).lim=l:=rfl;have hmd:(J4 A n l b).mode f=A.mode f:=rfl;simp only [A6,Gs,b7,if_false,hlim,e3,hmd];rw [if_pos ⟨hle,AY⟩];simp only [hm2,e4,Ck];rw [if_pos ⟨by omega,hall.2⟩]
       ·cases h
      ·cases h
     ·cases h
   ·cases h
  ·cases h
theorem Ve (hs:s.g C vs st){l:F9}{b:Nat}{j4:List n8}{s5:Option Nat}{k:Nat}{op:s9}{outs:List SS}(h:Rf A sem l b j4 s5 k s op=some outs) :
  ∃ st' N,(∃ o,o ∈ outs/\o.g C vs st')/\∀ n,N<=n->E2 (J4 A n l b) j4 s5 k st op=some st' :=by
 have hr:=SS.F0 hs;cases op<;>simp only [Rf,reduceCtorEq] at h
 case alloc zero =>
  cases h;obtain ⟨n1,n2⟩:=BG hs (s5:=s5) (o:= .cells none (zero.map PB)) (o' := .cells zero) ⟨zero,rfl,vQ zero,fun k h=>by cases h⟩;exact ⟨_,0,⟨_,p8.2 rfl,bU n1 k (v:= .ptr (iC s s5) 0) (a:= .ptr (newId st s5) 0) (by simp only [SV.g,n2])⟩,fun n _=>rfl⟩
 case box x =>
  split at h
  ·rename_i cl hl
   cases h;obtain ⟨cs,h1,h2,h3⟩:=SV.AH (hr x) hl;obtain ⟨n1,n2⟩:=BG hs (s5:=s5) (o:= .cells (bz s.T s.L x).tag cl) (o' := .cells cs) ⟨cs,rfl,h2,h3⟩;exact ⟨_,0,⟨_,p8.2 rfl,bU n1 k (v:= .ptr (iC s s5) 0) (a:= .ptr (newId st s5) 0) (by simp only [SV.g,n2])⟩,fun n _=>by simp only [E2,h1]⟩
  ·cases h
 case y6 sz len zero parts ob =>
  cases ob<;>simp only [Rf,reduceCtorEq] at h;split at h
  ·rename_i cs hcs
   split at h
   ·rename_i hc
    simp only [b5] at hc;have c1:0<sz:=m6 hc.1;have c2:=b8 hc.2;cases h;obtain ⟨ds,h1,h2⟩:=uw (qc hr parts) (vQ zero) hcs;have hl:=r9.len h2;obtain ⟨n1,n2⟩:=BG hs (s5:=s5) (o:= .cells none cs) (o' := .cells ds) ⟨ds,rfl,h2,fun k h=>by cases h⟩;refine ⟨_,0,⟨_,p8.2 rfl,bU n1 k (v:= .D0 (iC s s5) sz 0 len) (a:= .D0 (newId st s5) sz 0 len) (by simp only [SV.g,n2])⟩,fun n _=> ?_⟩;simp only [E2,h1];rw [if_pos ⟨c1,by omega⟩]
   ·cases h
  ·cases h
 case store n a x =>
  cases e:BR l k n s x (bz s.T s.L a) with
  |none=>rw [e] at h;cases h
  |some s' =>
   rw [e] at h;cases h;obtain ⟨st',h1,h2⟩:=Oa (E:=J4 A 0 l b) hs (hr a) e;exact ⟨st',0,⟨_,p8.2 rfl,h2⟩,fun n _=>h1⟩
 case append sz bytes ob x y =>
  have hx:=hr x;split at h
  ·rename_i id z lo len e
   rw [e] at hx;split at h
   ·rename_i hz
    have hz:=b8 hz;cases e2:uq l b k sz bytes s id lo len (bz s.T s.L y) with
    |none=>rw [e2] at h;cases h
    |some s' =>
     rw [e2] at h;cases h;obtain ⟨st',h1,h2⟩:=KY (E:=J4 A 0 l b) hs (hr y) e2;refine ⟨st',0,⟨_,p8.2 rfl,h2⟩,fun n _=> ?_⟩;simp only [E2,jW hx];rw [if_pos hz];exact h1
   ·cases h
  ·rename_i x' e
   rw [e] at hx;obtain ⟨d,e3,_⟩:=Z4 hx;cases e2:mZ l j4 s5 k sz bytes ob s x (bz s.T s.L y) with
   |none=>rw [e2] at h;cases h
   |some s' =>
    rw [e2] at h;cases h;obtain ⟨st',h1,h2⟩:=zw (E:=J4 A 0 l b) hs (hr y) e2;refine ⟨st',0,⟨_,p8.2 rfl,h2⟩,fun n _=> ?_⟩;simp only [E2,e3];exact h1
  ·rename_i e
   rw [e] at hx;simp only [SV.g] at hx;cases e2:mZ l j4 s5 k sz bytes ob s x (bz s.T s.L y) with
   |none=>rw [e2] at h;cases h
   |some s' =>
    rw [e2] at h;cases h;obtain ⟨st',h1,h2⟩:=zw (E:=J4 A 0 l b) hs (hr y) e2;refine ⟨st',0,⟨_,p8.2 rfl,h2⟩,fun n _=> ?_⟩;simp only [E2,hx];exact h1
  ·cases h
 case call f xs =>
  obtain ⟨st',N,h1,h2⟩:=Re eD (b:=b) hs (r9.TZ hr xs) h;exact ⟨st',N,h1,fun n hn=>by simp only [E2];exact h2 n hn⟩
end
def qe (B:ig)(c:SB)(t:Bool):Option ig:=match c with
 | .qU=>some B
 | .cmp i n PC=>match B[i]? with
  |some (lo,hi)=>if t==PC then (if J7 (max lo (n+1)) hi then some (B.set i (max lo (n+1),hi)) else none)
    else (if J7 lo (min hi n) then some (B.set i (lo,min hi n)) else none)
  |none=>some B
theorem zo {vs:List Nat}{B:ig}(hB:Bg vs B){c:SB}{t:Bool}(h:c.g vs t):∃ B',qe B c t=some B' /\Bg vs B' :=by
 cases c with
 |qU=>exact ⟨B,rfl,hB⟩
 |cmp i n PC =>
  obtain ⟨m,h1,h2⟩:=h;simp only [qe];split
  ·rename_i lo hi hi0
   obtain ⟨m',e1,e2,e3⟩:=hB.2 _ _ _ hi0;rw [h1] at e1;cases e1;have key:∀ lo' hi',lo' <=m->m<=hi' ->Bg vs (B.set i (lo',hi')):=by
    intro lo' hi' g1 g2;refine ⟨by simp [hB.1],fun j a b hj=> ?_⟩;rw [List.getElem?_set] at hj;split at hj
    ·split at hj
     ·rename_i hij hlt
      cases hj;subst hij;exact ⟨m,h1,g1,g2⟩
     ·cases hj
    ·exact hB.2 _ _ _ hj
   by_cases hp:(t==PC)=true
   ·rw [if_pos hp]
    have hnm:n<m:=by
     have:t=PC:=by simpa using hp
     subst this;cases t with
     |true=>simpa using h2
     |false=>simpa using h2
    rw [if_pos (by rw [Nat.ble_eq];omega)];exact ⟨_,rfl,key _ _ (by omega) e3⟩
   ·rw [if_neg hp]
    have hnm:m<=n:=by
     cases t<;>cases PC<;>simp at hp h2<;>omega
    rw [if_pos (by rw [Nat.ble_eq];omega)];exact ⟨_,rfl,key _ _ e2 (by omega)⟩
  ·exact ⟨B,rfl,hB⟩
def AV (s:SS)(j:Nat)(c:SB)(t:Bool):List SS:=match qe s.B c t with
 |some B' =>[{ s with L:=s.L.set j (.d (.lit (.bool t))),B:=B' }]
 |none=>[]
def CN (s:SS)(j:Nat):List SS:=match s.L[j]? with
 |some (.d x)=>match x.bool? with
  |some (.u c)=>AV s j c true++AV s j c false
  |_=>[s]
 |_=>[s]
def kY (k:IntKind)(lo:Int):Nat->List SV
 |0=>[]
 |n+1=> .d (.lit (.int k lo))::kY k (lo+1) n
def Mk (s:SS)(j:Nat):List SS:=match s.L[j]? with
 |some (.d x)=>match x.int? s.B with
  |some (k,lo,hi,_)=>(kY k lo (hi - lo+1).toNat).map fun v=>{ s with L:=s.L.set j v }
  |none=>[s]
 |_=>[s]
def AW (s:SS)(i lo:Nat):Nat->List SS
 |0=>[]
 |n+1=>{ s with B:=s.B.set i (lo,lo) }::AW s i (lo+1) n
def Ml (s:SS)(i:Nat):List SS:=match s.B[i]? with
 |some (lo,hi)=>AW s i lo (hi+1 - lo)
 |none=>[s]
section
variable {C:Ctx} {vs:List Nat} {s:SS} {st:E1}
theorem HQ (hs:s.g C vs st)(j:Nat):∃ s',s' ∈ CN s j/\s'.g C vs st:=by
 have hs' :=hs;obtain ⟨hT,hH,hL,ht,hB⟩:=hs;unfold CN;split
 ·rename_i x e
  split
  ·rename_i c hc
   obtain ⟨a,h1,h2⟩:=r9.get hL e;obtain ⟨d,rfl,h3⟩:=Z4 h2;obtain ⟨t,rfl,h4⟩:=SD.cE hc h3;simp only at h4;obtain ⟨B',h5,h6⟩:=zo hB h4;have key:(AV s j c t)=[{ s with L:=s.L.set j (.d (.lit (.bool t))),B:=B' }]:=by unfold AV;rw [h5]
   have hL2:r9.g C vs (s.L.set j (.d (.lit (.bool t)))) st.L:=by
    have:=r9.set hL j (a:= .d (.lit (.bool t))) (b:= .d (.bool t)) (bf (by simp only [SD.g]))
    rwa [W2 h1] at this
   refine ⟨{ s with L:=s.L.set j (.d (.lit (.bool t))),B:=B' },?_,hT,hH,hL2,ht,h6⟩;cases t with
   |true=>exact List.mem_append_left _ (by rw [key];exact p8.2 rfl)
   |false=>exact List.mem_append_right _ (by rw [key];exact p8.2 rfl)
  ·exact ⟨s,p8.2 rfl,hs'⟩
 ·exact ⟨s,p8.2 rfl,hs'⟩
theorem jO {k:IntKind}:∀ (n:Nat) (lo m:Int),lo<=m->m<lo+n->SV.d (.lit (.int k m)) ∈ kY k lo n
 |0,lo,m,h1,h2=>by omega
 |n+1,lo,m,h1,h2=>by
  simp only [kY,B8]
  by_cases h:m=lo
  ·subst h;exact .inl rfl
  ·exact .inr (jO n (lo+1) m (by omega) (by omega))
theorem PU (hs:s.g C vs st)(j:Nat):∃ s',s' ∈ Mk s j/\s'.g C vs st:=by
 have hs' :=hs;obtain ⟨hT,hH,hL,ht,hB⟩:=hs;unfold Mk;split
 ·rename_i x e
  split
  ·rename_i k lo hi r hc
   obtain ⟨a,h1,h2⟩:=r9.get hL e;obtain ⟨d,rfl,h3⟩:=Z4 h2;obtain ⟨m,rfl,h4,h5,_⟩:=SD.iw hB hc h3;refine ⟨_,List.mem_map.2 ⟨_,jO _ lo m h4 (by omega),rfl⟩,hT,hH,?_,ht,hB⟩;have:=r9.set hL j (a:= .d (.lit (.int k m))) (b:= .d (.int k m)) (bf (by simp only [SD.g]))
   rwa [W2 h1] at this
  ·exact ⟨s,p8.2 rfl,hs'⟩
 ·exact ⟨s,p8.2 rfl,hs'⟩
theorem vq {i:Nat}:∀ (n lo m:Nat),lo<=m->m<lo+n->{ s with B:=s.B.set i (m,m) } ∈ AW s i lo n
 |0,lo,m,h1,h2=>by omega
 |n+1,lo,m,h1,h2=>by
  simp only [AW,B8]
  by_cases h:m=lo
  ·subst h;exact .inl rfl
  ·exact .inr (vq n (lo+1) m (by omega) (by omega))
theorem PW (hs:s.g C vs st)(i:Nat):∃ s',s' ∈ Ml s i/\s'.g C vs st:=by
 have hs' :=hs;obtain ⟨hT,hH,hL,ht,hB⟩:=hs;unfold Ml;split
 ·rename_i lo hi e
  obtain ⟨m,h1,h2,h3⟩:=hB.2 _ _ _ e;refine ⟨_,vq _ lo m h2 (by omega),hT,hH,hL,ht,by simp [hB.1],fun j a b hj=> ?_⟩;rw [List.getElem?_set] at hj;split at hj
  ·split at hj
   ·rename_i hij hlt
    cases hj;subst hij;exact ⟨m,h1,l5 _,l5 _⟩
   ·cases hj
  ·exact hB.2 _ _ _ hj
 ·exact ⟨s,p8.2 rfl,hs'⟩
end
def jd (n:Nat):SD->Option (SD×(Nat×Nat))
 | .slice none lo hi row=>if Nat.blt lo hi then some (.slice (some n) lo hi row,(lo,hi)) else none
 | .pr k x=>match jd n x with
  |some (y,p)=>some (.pr k y,p)
  |none=>none
 |_=>none
theorem um {C:Ctx}{vs:List Nat}:∀ {x y:SD} {p:Nat×Nat} {d:Data},jd vs.length x=some (y,p)->x.g C vs d->∃ m,p.1<=m/\m<=p.2/\y.g C (vs++[m]) d
 | .slice v lo hi row,y,p,d,h,hg=>by
  cases v<;>simp only [jd,reduceCtorEq] at h;split at h
  ·simp only [Option.some.injEq,Prod.mk.injEq] at h
   obtain ⟨rfl,rfl⟩:=h;simp only [SD.g] at hg;obtain ⟨rows,rfl,h1,h2,h3,h4⟩:=hg;refine ⟨rows.length,h1,h2,?_⟩;simp only [SD.g];refine ⟨rows,rfl,h1,h2,fun i hi=> ?_,fun r hr=>D7.L8 (Le.app _ _) _ (h4 r hr)⟩;cases hi;simp
  ·cases h
 | .pr k x,y,p,d,h,hg=>by
  simp only [jd] at h;split at h
  ·rename_i y' p' e
   simp only [Option.some.injEq,Prod.mk.injEq] at h;obtain ⟨rfl,rfl⟩:=h;simp only [SD.g] at hg;obtain ⟨m,h1,h2,h3⟩:=um e hg.2;exact ⟨m,h1,h2,by simp only [SD.g];exact ⟨hg.1,h3⟩⟩
  ·cases h
 | .top,_,_,_,h,_=>by simp [jd] at h
 | .lit _,_,_,_,h,_=>by simp [jd] at h
 | .bool _,_,_,_,h,_=>by simp [jd] at h
 | .int ..,_,_,_,h,_=>by simp [jd] at h
 | .anyI _,_,_,_,h,_=>by simp [jd] at h
 | .str _,_,_,_,h,_=>by simp [jd] at h
def Dr (n:Nat):SV->Option (SV×(Nat×Nat))
 | .d x=>match jd n x with
  |some (y,p)=>some (.d y,p)
  |none=>none
 | .own z x=>match jd n x with
  |some (y,p)=>some (.own z y,p)
  |none=>none
 | .q x=>match jd n x with
  |some (y,p)=>some (.q y,p)
  |none=>none
 |_=>none
theorem Bj {C:Ctx}{vs:List Nat}{x y:SV}{p:Nat×Nat}{v:b6}(h:Dr vs.length x=some (y,p))(hg:x.g C vs v):∃ m,p.1<=m/\m<=p.2/\y.g C (vs++[m]) v:=by
 cases x<;>simp only [Dr,reduceCtorEq] at h
 ·split at h
  ·rename_i y' p' e
   simp only [Option.some.injEq,Prod.mk.injEq] at h;obtain ⟨rfl,rfl⟩:=h;obtain ⟨d,rfl,h1⟩:=Z4 hg;obtain ⟨m,h2,h3,h4⟩:=um e h1;exact ⟨m,h2,h3,bf h4⟩
  ·cases h
 ·split at h
  ·rename_i y' p' e
   simp only [Option.some.injEq,Prod.mk.injEq] at h;obtain ⟨rfl,rfl⟩:=h;obtain ⟨len,cells,rfl,h1⟩:=oz hg;obtain ⟨m,h2,h3,h4⟩:=um e h1;exact ⟨m,h2,h3,by simp only [SV.g];exact ⟨_,_,rfl,h4⟩⟩
  ·cases h
 ·split at h
  ·rename_i y' p' e
   simp only [Option.some.injEq,Prod.mk.injEq] at h;obtain ⟨rfl,rfl⟩:=h;simp only [SV.g] at hg;obtain ⟨d,h0,h1⟩:=hg;obtain ⟨m,h2,h3,h4⟩:=um e h1;exact ⟨m,h2,h3,by simp only [SV.g];exact ⟨_,h0,h4⟩⟩
  ·cases h
def MN (s:SS)(k:Nat):SS:=match s.L[k]? with
 |some v=>match Dr s.B.length v with
  |some (w,p)=>{ s with L:=s.L.set k w,B:=s.B++[p] }
  |none=>s
 |none=>s
def MM (s:SS)(id off:Nat):SS:=match s.H[id]? with
 |some (.cells p l)=>match l[off]? with
  |some v=>match Dr s.B.length v with
   |some (w,q)=>{ s with H:=s.H.set id (.cells p (l.set off w)),B:=s.B++[q] }
   |none=>s
  |none=>s
 |_=>s
section
variable {C:Ctx} {vs:List Nat} {s:SS} {st:E1}
theorem Bg.add {B:ig}(hB:Bg vs B){p:Nat×Nat}{m:Nat}(h1:p.1<=m)(h2:m<=p.2):Bg (vs++[m]) (B++[p]):=by
 refine ⟨by simp [hB.1],fun i a b h=> ?_⟩
 rcases p7 i B.length with hi|hi
 ·rw [p4 hi] at h
  obtain ⟨q,e1,e2⟩:=hB.2 _ _ _ h;exact ⟨q,Le.app _ _ _ _ e1,e2⟩
 ·rw [p9 hi] at h
  cases e:i - B.length with
  |zero =>
   rw [e] at h;simp at h;subst h;have hb:=hB.1;exact ⟨m,by rw [p9 (by omega)];simp [show i - vs.length=0 by omega],h1,h2⟩
  |succ q=>rw [e] at h;simp at h
theorem SS.mono {ws:List Nat}(hl:Le vs ws)(hs:s.g C vs st):r9.g C ws s.T st.T/\E7.g C ws s.H st.H/\r9.g C ws s.L st.L :=
 ⟨r9.L8 hl _ hs.1,E7.L8 hl _ hs.2.1,r9.L8 hl _ hs.2.2.1⟩
theorem Qu (hs:s.g C vs st)(k:Nat):∃ ws,Le vs ws/\(MN s k).g C ws st:=by
 unfold MN;split
 ·rename_i v e
  split
  ·rename_i w p hn
   rw [<- hs.2.2.2.2.1] at hn;obtain ⟨a,h1,h2⟩:=r9.get hs.2.2.1 e;obtain ⟨m,h3,h4,h5⟩:=Bj hn h2;obtain ⟨g1,g2,g3⟩:=SS.mono (Le.app vs [m]) hs;refine ⟨vs++[m],Le.app _ _,g1,g2,?_,hs.2.2.2.1,hs.2.2.2.2.add h3 h4⟩;have:=r9.set g3 k h5
   rwa [W2 h1] at this
  ·exact ⟨vs,Le.refl _,hs⟩
 ·exact ⟨vs,Le.refl _,hs⟩
theorem Qt (hs:s.g C vs st)(id off:Nat):∃ ws,Le vs ws/\(MM s id off).g C ws st:=by
 unfold MM;split
 ·rename_i p l e
  split
  ·rename_i v e2
   split
   ·rename_i w q hn
    rw [<- hs.2.2.2.2.1] at hn;obtain ⟨o,h1,h2⟩:=E7.get hs.2.1 e;obtain ⟨cs,rfl,h3,h4⟩:=h2;obtain ⟨a,h5,h6⟩:=r9.get h3 e2;obtain ⟨m,h7,h8,h9⟩:=Bj hn h6;obtain ⟨g1,g2,g3⟩:=SS.mono (Le.app vs [m]) hs;refine ⟨vs++[m],Le.app _ _,g1,?_,g3,hs.2.2.2.1,hs.2.2.2.2.add h7 h8⟩;have e3:SO.g C (vs++[m]) (.cells p (l.set off w)) (.cells cs):=by
     refine ⟨cs,rfl,?_,h4⟩;have:=r9.set (r9.L8 (Le.app vs [m]) _ h3) off h9
     rwa [W2 h5] at this
    have:=E7.set g2 id e3
    rwa [W2 h1] at this
   ·exact ⟨vs,Le.refl _,hs⟩
  ·exact ⟨vs,Le.refl _,hs⟩
 ·exact ⟨vs,Le.refl _,hs⟩
end
end Go.u7.Sh


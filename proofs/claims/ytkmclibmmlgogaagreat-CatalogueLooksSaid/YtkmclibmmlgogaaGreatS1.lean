/- Texts S5 S6 S7 S8 (made short by a program) -/
import Derived.Test.YtkmclibmmlgogaaGreatS0
import Derived.Test.YtkmclibmmlgogaaGreatB6
set_option linter.unusedVariables false
set_option linter.unusedSimpArgs false
open Bool renaming and_eq_true → b5, false_eq_true → b7
open List renaming cons_append → D9, drop_of_length_le → m6, getElem?_append_left → p7, getElem?_append_right → q8, length_append → C1, length_cons → A2, map_cons → H8, mem_cons → x9, mem_singleton → p4, replicate → c9, take_of_length_le → q7
open Nat renaming beq → y7, ble → J9, eq_of_beq_eq_true → b8, le_of_ble_eq_true → m8, le_refl → k9, lt_or_ge → p9
namespace Go.z7.Sh
open Go.z7
section
variable {C:Ctx} {vs:List Nat} {B:gO}
theorem Y7 {x:SD}{v:b6}(h:(SV.d x).g C vs v):∃ d,v= .d d/\x.g C vs d:=by simpa only [SV.g] using h
theorem pe {z:Nat}{x:SD}{v:b6}(h:(SV.own z x).g C vs v):∃ len cells,v= .own z len cells/\x.g C vs (.slice len cells):=by simpa only [SV.g] using h
theorem aM {x:SD}{d:Data}(h:x.g C vs d):(SV.d x).g C vs (.d d):=by simp only [SV.g];exact ⟨_,rfl,h⟩
theorem bC {id off:Nat}{v:b6}(h:(SV.ptr id off).g C vs v):v= .ptr id off:=by simpa only [SV.g] using h
theorem kI {id off a b:Nat}{v:b6}(h:(SV.E3 id off a b).g C vs v):v= .E3 id off a b:=by simpa only [SV.g] using h
theorem uR {row:List SD}{v:b6}(h:(SV.Q9 row).g C vs v):∃ cells rest,v= .Q9 (cells++rest)/\E6.g C vs row cells:=by simpa only [SV.g] using h
theorem Rh {v:Option Nat}{lo hi n:Nat}(h1:lo<=n)(h2:n<=hi)(h3:∀ i,v=some i->vs[i]? =some n):(Nn v lo hi).g C vs (.int .i64 n):=by
 unfold Nn;split
 ·rename_i h
  have:=b8 h;have:n=lo:=by omega
  subst this;simp [SD.g]
 ·simp only [SD.g]
  refine ⟨_,rfl,by omega,by omega,?_⟩;split
  ·exact ⟨n,h3 _ rfl,rfl⟩
  ·trivial
theorem QB (hB:Bg vs B){x:SD}{d:Data}{n:Int}(h:exact? B x=some n)(hx:x.g C vs d):∃ k,d= .int k n:=by
 unfold exact? at h;split at h
 ·rename_i k a b r hi
  split at h
  ·rename_i hc
   simp only [decide_eq_true_eq] at hc;cases h;obtain ⟨m,rfl,h1,h2,_⟩:=SD.iP hB hi hx;exact ⟨k,by congr 1;omega⟩
  ·cases h
 ·cases h
theorem xp (hB:Bg vs B){σ:u5->SV}{ρ:u5->b6}(hρ:∀ x,(σ x).g C vs (ρ x)){dl dh a b:Int}{n:Nat}{o:Option u5}(hn:o=none->dl<=n/\(n:Int)<=dh)(h:xm σ B dl dh o=some (a,b)):∃ m,S1 ρ n o=some m/\a<=m/\m<=b:=by
 cases o with
 |none=>simp only [xm,Option.some.injEq,Prod.mk.injEq] at h;obtain ⟨rfl,rfl⟩:=h;exact ⟨n,rfl,hn rfl⟩
 |some x =>
  have h1:=hρ x;simp only [xm] at h;split at h
  ·rename_i y hy
   rw [hy] at h1;split at h
   ·rename_i k p q r hi
    simp only [Option.some.injEq,Prod.mk.injEq] at h;obtain ⟨rfl,rfl⟩:=h;obtain ⟨d,e,h1⟩:=Y7 h1;obtain ⟨m,rfl,h2,h3,_⟩:=SD.iP hB hi h1;exact ⟨m,by simp [S1,e],h2,h3⟩
   ·cases h
  ·cases h
theorem s9.Ls:∀ {x:List SD} {d:List Data},E6.g C vs x d->s9.g C vs (x.map .d) (d.map .d)
 |[],_,h=>by simp only [E6.g] at h;subst h;simp [s9.g]
 |x::xs,_,h=>by
  simp only [E6.g] at h;obtain ⟨d,ds,rfl,h1,h2⟩:=h;simp only [H8,s9.g];exact ⟨_,_,rfl,aM h1,s9.Ls h2⟩
theorem Ja {sz:Nat}:∀ {rows:List (List Data)} {i:Nat},(∀ r,r ∈ rows->r.length=sz)->i<rows.length->∃ r,r ∈ rows/\rows.flatten.drop (i * sz)=r++rows.flatten.drop ((i+1) * sz)
 |[],i,_,h=>by simp at h
 |r::rows,0,hr,h=>by
  have:=hr r (by simp);refine ⟨r,by simp,?_⟩;simp [<- this]
 |r::rows,i+1,hr,h=>by
  have h0:=hr r (by simp);obtain ⟨q,h1,h2⟩:=Ja (rows:=rows) (i:=i) (fun r h=>hr r (by simp [h])) (by simpa using h);refine ⟨q,by simp [h1],?_⟩;have e:∀ k,(r::rows).flatten.drop ((k+1) * sz)=rows.flatten.drop (k * sz):=fun k=>by
   simp only [List.flatten_cons];rw [List.drop_append,m6 (by rw [h0,Nat.succ_mul];omega),h0,Nat.succ_mul,Nat.add_sub_cancel];rfl
  rw [e,e,h2]
theorem jm {sz:Nat}:∀ {rows:List (List Data)},(∀ r,r ∈ rows->r.length=sz)->rows.flatten.length=rows.length * sz
 |[],_=>by simp
 |r::rows,h=>by
  have:=jm (rows:=rows) (fun r hr=>h r (by simp [hr]));simp [this,h r (by simp),Nat.succ_mul,Nat.add_comm]
theorem xR {sz:Nat}:∀ {rows:List (List Data)},(∀ r,r ∈ rows->r.length=sz)->∀ i,rows.flatten.take (i * sz)=(rows.take i).flatten
 |[],_,i=>by simp
 |r::rows,h,0=>by simp
 |r::rows,h,i+1=>by
  have h0:=h r (by simp);have:=xR (rows:=rows) (fun r hr=>h r (by simp [hr])) i;simp only [List.flatten_cons,List.take_succ_cons];rw [List.take_append,q7 (by rw [h0,Nat.succ_mul];omega),h0,Nat.succ_mul,Nat.add_sub_cancel,this]
theorem vU {sz:Nat}:∀ {rows:List (List Data)},(∀ r,r ∈ rows->r.length=sz)->∀ i,rows.flatten.drop (i * sz)=(rows.drop i).flatten
 |[],_,i=>by simp
 |r::rows,h,0=>by simp
 |r::rows,h,i+1=>by
  have h0:=h r (by simp);have:=vU (rows:=rows) (fun r hr=>h r (by simp [hr])) i;simp only [List.flatten_cons,List.drop_succ_cons];rw [List.drop_append,m6 (by rw [h0,Nat.succ_mul];omega),h0,Nat.succ_mul,Nat.add_sub_cancel,this];rfl
theorem NJ {sz:Nat}{row:List SD}{rows:List (List Data)}{a b l1 l2:Nat}(hw:row.length=sz)(hr:∀ r,r ∈ rows->E6.g C vs row r)(hab:a<=b)(hb:b<=rows.length)(h1:l1<=b - a)(h2:b - a<=l2) :
  (SD.slice none l1 l2 row).g C vs (.slice ((b:Int) - a).toNat ((rows.flatten.take (b * sz)).drop (a * sz))):=by
 have hrl:∀ r,r ∈ rows->r.length=sz:=fun r h=>by rw [E6.len (hr r h)];exact hw
 have aw0:∀ r,r ∈ rows.take b->r.length=sz:=fun r h=>hrl r (List.mem_of_mem_take h)
 rw [xR hrl,vU aw0];simp only [SD.g];have hlen:((rows.take b).drop a).length=b - a:=by simp;omega
 refine ⟨(rows.take b).drop a,?_,by omega,by omega,(fun i h=>by cases h),fun r h=>hr r (List.mem_of_mem_take (List.mem_of_mem_drop h))⟩;rw [hlen]
 congr 1
 omega
theorem Ik {c:SD}(hk:c.kind? =some .u8):∀ {rows:List (List Data)},(∀ r,r ∈ rows->E6.g C vs [c] r)->∃ bs,eO rows.flatten=some bs/\bs.length=rows.length
 |[],_=>⟨[],rfl,rfl⟩
 |r::rows,h=>by
  obtain ⟨bs,h1,h2⟩:=Ik hk (rows:=rows) (fun r hr=>h r (by simp [hr]));have h3:=h r (by simp);simp only [E6.g] at h3;obtain ⟨d,_,rfl,h4,rfl⟩:=h3;obtain ⟨n,rfl⟩:=SD.uS hk h4;exact ⟨UInt8.ofNat n.toNat::bs,by simp [eO,h1],by simp [h2]⟩
theorem Sp (hB:Bg vs B){σ:u5->SV}{ρ:u5->b6}(hρ:∀ x,(σ x).g C vs (ρ x)){H:List SO}{H' :o6}(hH:F2.g C vs H H'){op:y6}{v:SV}{rs:List Nat}(h:xD σ H B op=some (v,rs)) :
  ∃ r,m7 ρ H' op=some (r,rs)/\v.g C vs r:=by
 cases op<;>simp only [xD,reduceCtorEq] at h
 case pick c a b =>
  have hc:=hρ c;split at h
  ·rename_i x hx
   rw [hx] at hc;obtain ⟨d,e1,hd⟩:=Y7 hc;split at h
   ·rename_i t ht
    obtain ⟨t',rfl,e2⟩:=SD.cW ht hd;simp only at e2;subst e2;cases h;refine ⟨_,(by simp only [m7,e1];rfl),?_⟩;cases t' <;>exact hρ _
   ·cases h
  ·cases h
 case build zero parts =>
  split at h
  ·rename_i cs hcs
   cases h;obtain ⟨ds,h1,h2⟩:=uY (qL hρ parts) (wP zero) hcs;exact ⟨_,(by simp only [m7,h1];rfl),by simp only [SV.g];exact ⟨_,rfl,h2,fun k h=>by cases h⟩⟩
  ·cases h
 case A1 sz len zero parts ob =>
  cases ob<;>simp only [xD,reduceCtorEq] at h;split at h
  ·rename_i cs hcs
   split at h
   ·rename_i xs hxs
    split at h
    ·rename_i hc
     simp only [b5] at hc;have c1:=m8 hc.1;have c2:=b8 hc.2;cases h;obtain ⟨ds,h1,h2⟩:=uY (qL hρ parts) (wP zero) hcs;obtain ⟨es,h3,h4⟩:=mH h2 hxs;have hl:=E6.len h4;refine ⟨.own sz len es,?_,by simp only [SV.g];exact ⟨_,_,rfl,nF c2 h4⟩⟩;simp only [m7,h1,h3];rw [if_pos ⟨by omega,by omega⟩]
    ·cases h
   ·cases h
  ·cases h
 case load n x =>
  have hx:=hρ x;cases n with
  |none =>
   simp only [xD] at h;split at h
   ·rename_i id off e
    rw [e] at hx;have e1:=bC hx;split at h
    ·rename_i w hw
     cases h;obtain ⟨cs,h1,h2⟩:=Aj hH hw;simp only [s9.g] at h2;obtain ⟨a,_,rfl,h3,rfl⟩:=h2;exact ⟨_,(by simp only [m7,e1,h1]),SV.nU h3⟩
    ·cases h
   ·rename_i c row e
    rw [e] at hx;obtain ⟨cells,rest,e1,h1⟩:=uR hx;cases h;simp only [E6.g] at h1;obtain ⟨d,ds,rfl,h2,h3⟩:=h1;exact ⟨.d d,by simp only [m7,e1,D9],aM h2⟩
   ·cases h
  |some n =>
   simp only [xD] at h;split at h
   ·rename_i id off e
    rw [e] at hx;have e1:=bC hx;split at h
    ·rename_i p l hl
     split at h
     ·rename_i hc
      have hc:=m8 hc;cases h;obtain ⟨o,h1,h2⟩:=F2.get hH hl;obtain ⟨cs,rfl,h3,h4⟩:=h2;have hlen:=s9.len h3;refine ⟨.agg (((cs.drop off).take n).map b6.G9),?_,?_⟩
      ·simp only [m7,e1,rd,h1]
       rw [if_pos (by omega)]
      ·simp only [SV.g]
       refine ⟨_,rfl,s9.map (fun _ _=>SV.nU) (s9.take (s9.drop h3 off) n),fun k hk=> ?_⟩;split at hk
       ·rename_i kR
        simp only [b5] at kR;have c1:=b8 kR.1;have c2:=b8 kR.2;subst c1;have:(cs.drop 0).take n=cs:=by rw [List.drop_zero,q7 (by omega)]
        rw [this];have e3:(cs.map b6.G9).map b6.G9=cs.map b6.G9:=by
         rw [List.map_map]
         congr 1
         funext v
         cases v<;>rfl
        rw [e3];exact h4 k hk
       ·cases hk
     ·cases h
    ·cases h
   ·rename_i row e
    rw [e] at hx;obtain ⟨cells,rest,e1,h1⟩:=uR hx;split at h
    ·rename_i hc
     have hc:=m8 hc;cases h;have hlen:=E6.len h1;refine ⟨.agg ((cells.take n).map .d),?_,?_⟩
     ·simp only [m7,e1]
      rw [if_pos (by simp;omega),List.take_append_of_le_length (by omega)]
     ·simp only [SV.g]
      exact ⟨_,rfl,s9.Ls (E6.take h1 n),fun k h=>by cases h⟩
    ·cases h
   ·cases h
 case Z5 x =>
  have hx:=hρ x;split at h
  ·rename_i id off e
   cases h;rw [e] at hx;exact ⟨_,(by simp only [m7,bC hx];rfl),by simp only [SV.g]⟩
  ·rename_i row e
   cases h;rw [e] at hx;obtain ⟨cells,rest,e1,h1⟩:=uR hx;exact ⟨_,(by simp only [m7,e1];rfl),by simp only [SV.g];exact ⟨_,_,rfl,h1⟩⟩
  ·cases h
 case bin op x y =>
  have hx:=hρ x;have hy:=hρ y;split at h
  ·rename_i a b ea eb
   rw [ea] at hx;rw [eb] at hy;obtain ⟨d,e1,h1⟩:=Y7 hx;obtain ⟨f,e2,h2⟩:=Y7 hy;split at h
   ·rename_i z hz
    cases h;obtain ⟨r,h3,h4⟩:=Wn hB h1 h2 hz;exact ⟨.d r,by simp only [m7,e1,e2,h3],aM h4⟩
   ·cases h
  ·cases h
 case un op x =>
  cases op<;>simp only [xD,reduceCtorEq] at h;have hx:=hρ x;split at h
  ·rename_i a ea
   rw [ea] at hx;obtain ⟨d,e1,h1⟩:=Y7 hx;split at h
   ·rename_i b hb
    cases h;obtain ⟨b',rfl,e2⟩:=SD.cW hb h1;simp only at e2;subst e2;exact ⟨_,(by simp only [m7,e1,xZ];rfl),aM (by simp [SD.g])⟩
   ·rename_i c hc
    cases h;obtain ⟨b',rfl,e2⟩:=SD.cW hc h1;have:=IP (C:=C) (vs:=vs) (x:= .bool c) (b:=b') (by simp only [SD.g];exact ⟨_,rfl,e2⟩);exact ⟨_,(by simp only [m7,e1,xZ]),aM this⟩
   ·cases h
  ·cases h
 case o9 neg x y =>
  have hx:=hρ x;have hy:=hρ y;split at h
  ·rename_i a b ea eb
   rw [ea] at hx;rw [eb] at hy;obtain ⟨d,e1,h1⟩:=Y7 hx;obtain ⟨f,e2,h2⟩:=Y7 hy;split at h
   ·rename_i p q hp hq
    cases h;obtain ⟨t,rfl,_⟩:=SD.cW hp h1;obtain ⟨u,rfl,_⟩:=SD.cW hq h2;exact ⟨_,(by simp only [m7,e1,e2];rfl),aM (by simp only [SD.g];exact ⟨_,rfl,trivial⟩)⟩
   ·cases h
  ·cases h
 case kQ k x =>
  have hx:=hρ x;split at h
  ·rename_i a ea
   rw [ea] at hx;obtain ⟨d,e1,h1⟩:=Y7 hx;split at h
   ·rename_i k' hk
    cases h;obtain ⟨n,rfl⟩:=SD.uS hk h1;exact ⟨_,(by simp only [m7,e1];rfl),aM (by simp only [SD.g];exact ⟨_,rfl⟩)⟩
   ·cases h
  ·cases h
 case iM x =>
  have hx:=hρ x;split at h
  ·rename_i a ea
   rw [ea] at hx;obtain ⟨d,e1,h1⟩:=Y7 hx;split at h
   ·rename_i v lo hi c hs
    split at h
    ·rename_i hk
     cases h;obtain ⟨_,rows,rfl,h2,h3,h4,h5⟩:=SD.dy hB hs h1;obtain ⟨bs,h6,h7⟩:=Ik hk h5;have hl:rows.flatten.length=rows.length:=by
      have:=jm (sz:=1) (rows:=rows) (fun r hr=>E6.len (h5 r hr));omega
     exact ⟨.d (.str bs),by simp only [m7,e1,hl,if_true,h6],aM (by simp only [SD.g];exact ⟨_,rfl,by omega⟩)⟩
    ·cases h
   ·cases h
  ·cases h
 case aT sz x lo hi =>
  have hx:=hρ x;split at h
  ·rename_i a ea
   rw [ea] at hx;obtain ⟨d,e1,h1⟩:=Y7 hx;split at h
   ·rename_i v l1 l2 row hs
    obtain ⟨hw,rows,rfl,h2,h3,h4,h5⟩:=SD.dy hB hs h1;have hfl:rows.flatten.length=rows.length * sz:=jm (fun r hr=>by rw [E6.len (h5 r hr)];exact hw);split at h
    ·rename_i a1 a2 hlo
     split at h
     ·rename_i hc
      simp only [b5,decide_eq_true_eq] at hc;cases h;obtain ⟨m,b1,b2,b3⟩:=xp (n:=0) hB hρ (fun _=>⟨Int.le_refl _,Int.le_refl _⟩) hlo;obtain ⟨m',rfl⟩:=Int.eq_ofNat_of_zero_le (show 0<=m by omega);refine ⟨_,?_,aM (NJ (a:=m') (b:=rows.length) (l1:=l1 - a2.toNat) (l2:=l2 - a1.toNat) hw h5 (by omega) (k9 _) (by omega) (by omega))⟩;have b4:S1 ρ rows.length none=some (rows.length:Int):=rfl;simp only [m7,e1,b1,b4];rw [if_pos (by refine ⟨?_,?_,?_,hfl⟩<;>omega)];simp
     ·cases h
    ·rename_i a1 a2 hop hlo
     split at h
     ·rename_i b1 b2 hhi
      split at h
      ·rename_i hc
       simp only [b5,decide_eq_true_eq] at hc;cases h;obtain ⟨m,c1,c2,c3⟩:=xp (n:=0) hB hρ (fun _=>⟨Int.le_refl _,Int.le_refl _⟩) hlo;obtain ⟨q,d1,d2,d3⟩:=xp (n:=rows.length) (dl:=0) (dh:=0) hB hρ (o:=some hop) (fun h=>by cases h) hhi;obtain ⟨m',rfl⟩:=Int.eq_ofNat_of_zero_le (show 0<=m by omega);obtain ⟨q',rfl⟩:=Int.eq_ofNat_of_zero_le (show 0<=q by omega);refine ⟨_,?_,aM (NJ (a:=m') (b:=q') (l1:=(b1 - a2).toNat) (l2:=(b2 - a1).toNat) hw h5 (by omega) (by omega) (by omega) (by omega))⟩;simp only [m7,e1,c1,d1];rw [if_pos (by refine ⟨?_,?_,?_,hfl⟩<;>omega)];simp
      ·cases h
     ·cases h
    ·cases h
   ·cases h
  ·rename_i id z a len ea
   rw [ea] at hx;have e1:=kI hx;split at h
   ·rename_i a1 a2 b1 b2 hlo hhi
    split at h
    ·rename_i hc
     simp only [b5,decide_eq_true_eq] at hc;obtain ⟨⟨⟨⟨⟨c1,c2⟩,c3⟩,c4⟩,c5⟩,c6⟩:=hc;have c6:=b8 c6;subst c6;obtain ⟨m,f1,f2,f3⟩:=xp (n:=0) hB hρ (fun _=>⟨Int.le_refl _,Int.le_refl _⟩) hlo;obtain ⟨q,g1,g2,g3⟩:=xp (n:=len) hB hρ (fun _=>⟨Int.le_refl _,Int.le_refl _⟩) hhi;have em:m=a1:=by omega
     have eq:q=b1:=by omega
     subst em eq;simp only [m7,e1,f1,g1];rw [if_pos ⟨by omega,by omega,by omega,trivial⟩];split at h
     ·rename_i he
      simp only [decide_eq_true_eq] at he;cases h;rw [if_pos he];exact ⟨_,rfl,aM (by simp [SD.g])⟩
     ·rename_i he
      simp only [decide_eq_true_eq] at he;cases h;rw [if_neg he];exact ⟨_,rfl,by simp only [SV.g]⟩
    ·cases h
   ·cases h
  ·cases h
 case off k x =>
  have hx:=hρ x;split at h
  ·rename_i id off e
   cases h;rw [e] at hx;exact ⟨_,(by simp only [m7,bC hx];rfl),by simp only [SV.g]⟩
  ·rename_i row e
   rw [e] at hx;split at h
   ·rename_i hc
    have hc:=m8 hc;cases h;obtain ⟨cells,rest,e1,h1⟩:=uR hx;have:=E6.len h1;refine ⟨_,(by simp only [m7,e1];rfl),?_⟩;simp only [SV.g];exact ⟨cells.drop k,rest,by rw [List.drop_append_of_le_length (by omega)],E6.drop h1 k⟩
   ·cases h
  ·cases h
 case C3 sz x i =>
  have hx:=hρ x;have hi:=hρ i;split at h
  ·rename_i a j ea ej
   rw [ea] at hx;rw [ej] at hi;obtain ⟨d,e1,h1⟩:=Y7 hx;obtain ⟨f,e2,h2⟩:=Y7 hi;split at h
   ·rename_i v lo hi' row k j1 j2 r hs hj
    split at h
    ·rename_i hc
     simp only [b5,Bool.or_eq_true,decide_eq_true_eq] at hc;cases h;obtain ⟨hw,rows,rfl,h3,h4,h5,h6⟩:=SD.dy hB hs h1;obtain ⟨n,rfl,k1,k2,k3⟩:=SD.iP hB hj h2;have hlt:0<=n/\n<rows.length:=by
      refine ⟨by omega,?_⟩
      rcases hc.2 with hc|hc
      ·omega
      ·unfold inR at hc
       split at hc
       ·rename_i p q
        have hpq:=b8 hc;subst hpq;obtain ⟨m,m1,m2,m3⟩:=k3;rw [h5 _ rfl] at m1;cases m1;exact m3
       ·cases hc
     obtain ⟨n',rfl⟩:=Int.eq_ofNat_of_zero_le hlt.1;obtain ⟨q,q1,q2⟩:=Ja (sz:=sz) (rows:=rows) (i:=n') (fun r hr=>by rw [E6.len (h6 r hr)];exact hw) (by omega);refine ⟨.Q9 (rows.flatten.drop (n' * sz)),?_,?_⟩
     ·simp only [m7,e1,e2]
      rw [if_pos hlt];simp
     ·simp only [SV.g]
      exact ⟨q,_,by rw [q2],h6 q q1⟩
    ·cases h
   ·cases h
  ·rename_i id z lo len j ea ej
   rw [ea] at hx;rw [ej] at hi;have e1:=kI hx;obtain ⟨f,e2,h2⟩:=Y7 hi;split at h
   ·rename_i n hn
    split at h
    ·rename_i hc
     simp only [b5,decide_eq_true_eq] at hc;have c2:=b8 hc.2;cases h;obtain ⟨k,rfl⟩:=QB hB hn h2;refine ⟨.ptr id (lo+n.toNat * sz),?_,by simp only [SV.g]⟩;simp only [m7,e1,e2];rw [if_pos ⟨hc.1.1,hc.1.2,c2⟩]
    ·cases h
   ·cases h
  ·cases h
 case extract x i =>
  have hx:=hρ x;split at h
  ·rename_i l e
   rw [e] at hx;simp only [SV.g] at hx;obtain ⟨cs,e1,h1⟩:=hx;split at h
   ·rename_i v' hv
    cases h;obtain ⟨b,h2,h3⟩:=s9.get h1 hv;exact ⟨b,by simp only [m7,e1,h2],h3⟩
   ·cases h
  ·cases h
 case len x =>
  have hx:=hρ x;split at h
  ·rename_i a ea
   rw [ea] at hx;obtain ⟨d,e1,h1⟩:=Y7 hx;split at h
   ·rename_i v' lo hi hl
    cases h;obtain ⟨n,cells,rfl,h2,h3,h4⟩:=SD.GV hB hl h1;exact ⟨.d (.int .i64 n),by simp only [m7,e1,i64],aM (Rh h2 h3 h4)⟩
   ·cases h
  ·rename_i e
   cases h;rw [e] at hx;exact ⟨_,(by simp only [m7,kI hx,i64];rfl),aM (by simp [SD.g])⟩
  ·cases h
 case U7 x =>
  have hx:=hρ x;split at h
  ·rename_i a ea
   rw [ea] at hx;obtain ⟨d,e1,h1⟩:=Y7 hx;split at h
   ·rename_i m hm
    cases h;obtain ⟨s,rfl,h2,_⟩:=SD.tq hm h1;exact ⟨.d (.int .i64 s.length),by simp only [m7,e1,i64],aM (by simp only [SD.g];exact ⟨_,rfl,by omega,by omega,trivial⟩)⟩
   ·rename_i m s hm
    cases h;obtain ⟨s',rfl,h2,h3⟩:=SD.tq hm h1;have:=h3 s rfl;subst this;exact ⟨.d (.int .i64 s'.length),by simp only [m7,e1,i64],aM (by simp [SD.g])⟩
   ·cases h
  ·cases h
end
structure SS where
 T:List SV
 H:List SO
 L:List SV
 n7:List Touch
 B:gO
def SS.g (C:Ctx)(vs:List Nat)(s:SS)(st:F0):Prop:=s9.g C vs s.T st.T/\F2.g C vs s.H st.H/\s9.g C vs s.L st.L/\st.n7=s.n7/\Bg vs s.B
def nO (s:SS)(k:Nat)(v:SV):SS:={ s with L:=s.L.set k v }
mutual
def SV.Y1 :SV->Option Nat
 | .top=>none
 | .ptr id _=>some (id+1)
 | .E3 id _ _ _=>some (id+1)
 | .agg _ l=>s9.Y1 l
 | .tuple l=>s9.Y1 l
 | .bn k=>some k
 |_=>some 0
def s9.Y1 :List SV->Option Nat
 |[]=>some 0
 |x::xs=>match x.Y1,s9.Y1 xs with
  |some a,some b=>some (max a b)
  |_,_=>none
end
def SO.Y1 :SO->Option Nat
 | .dead=>some 0
 | .cells _ l=>s9.Y1 l
 | .pr _=>some 0
 | .bn k=>some k
 | .top=>none
def vE :List SO->Option (List Nat)
 |[]=>some []
 |o::os=>match o.Y1,vE os with
  |some a,some b=>some (a::b)
  |_,_=>none
mutual
def SV.kill (id:Nat):SV->SV
 | .ptr i o=>if y7 i id then .any else .ptr i o
 | .E3 i z l n=>if y7 i id then .any else .E3 i z l n
 | .agg p l=>match s9.Y1 l with
  |some 0=> .agg p l
  |_=> .agg none (s9.kill id l)
 | .tuple l=> .tuple (s9.kill id l)
 | .bn k=>if y7 k 0 then .bn 0 else .top
 |v=>v
def s9.kill (id:Nat):List SV->List SV
 |[]=>[]
 |v::vs=>v.kill id::s9.kill id vs
end
def SO.kill (id:Nat):SO->SO
 | .cells p l=>match s9.Y1 l with
  |some 0=> .cells p l
  |_=> .cells none (s9.kill id l)
 | .bn k=>if y7 k 0 then .bn 0 else .top
 |o=>o
mutual
theorem IF (id:Nat):∀ (v:b6),v.N7=0->v.kill id=v
 | .any,_=>by simp [b6.kill]
 | .d _,_=>by simp [b6.kill]
 | .ptr i o,h=>by simp [b6.N7] at h
 | .Q9 _,_=>by simp [b6.kill]
 | .E3 i z l n,h=>by simp [b6.N7] at h
 | .own _ _ _,_=>by simp [b6.kill]
 | .J6,_=>by simp [b6.kill]
 | .agg l,h=>by simp only [b6.N7] at h;simp only [b6.kill];rw [me id l h]
 | .tuple l,h=>by simp only [b6.N7] at h;simp only [b6.kill];rw [me id l h]
 | .func f a b,h=>by simp only [b6.N7] at h;simp only [b6.kill];rw [me id a (by omega),me id b (by omega)]
 | .map i,h=>by simp [b6.N7] at h
theorem me (id:Nat):∀ (l:List b6),A9 l=0->J0 id l=l
 |[],_=>rfl
 |v::l,h=>by simp only [A9] at h;simp only [J0];rw [IF id v (by omega),me id l (by omega)]
end
theorem NC (id:Nat){o:z6}(h:o.N7=0):o.kill id=o:=by
 cases o with
 |dead=>rfl
 |cells l=>simp only [z6.N7] at h;simp only [z6.kill,me id l h]
 |map es =>
  simp only [z6.N7] at h;simp only [z6.kill]
  congr 1
  have:∀ es:List (Data×b6),A9 (es.map (·.2))=0->es.map (fun p=>(p.1,p.2.kill id))=es:=by
   intro es
   induction es with
   |nil=>intro _;rfl
   |cons e es ih =>
    intro h;simp only [H8,A9] at h;simp only [H8];rw [IF id e.2 (by omega),ih (by omega)]
  exact this es h
section
variable {C:Ctx} {vs:List Nat}
mutual
theorem SV.cC:∀ {x:SV} {v:b6} {n:Nat},x.Y1 =some n->x.g C vs v->v.N7=n
 | .top,_,_,h,_=>by simp [SV.Y1] at h
 | .any,_,_,h,hg=>by simp only [SV.g] at hg;subst hg;simp only [SV.Y1,Option.some.injEq] at h;subst h;rfl
 | .d _,_,_,h,hg=>by simp only [SV.g] at hg;obtain ⟨y,rfl,_⟩:=hg;simp only [SV.Y1,Option.some.injEq] at h;subst h;rfl
 | .own _ _,_,_,h,hg=>by simp only [SV.g] at hg;obtain ⟨y,_,rfl,_⟩:=hg;simp only [SV.Y1,Option.some.injEq] at h;subst h;rfl
 | .J6,_,_,h,hg=>by simp only [SV.g] at hg;subst hg;simp only [SV.Y1,Option.some.injEq] at h;subst h;rfl
 | .ptr ..,_,_,h,hg=>by simp only [SV.g] at hg;subst hg;simp only [SV.Y1,Option.some.injEq] at h;subst h;simp [b6.N7]
 | .Q9 _,_,_,h,hg=>by simp only [SV.g] at hg;obtain ⟨_,_,rfl,_⟩:=hg;simp only [SV.Y1,Option.some.injEq] at h;subst h;rfl
 | .E3 ..,_,_,h,hg=>by simp only [SV.g] at hg;subst hg;simp only [SV.Y1,Option.some.injEq] at h;subst h;simp [b6.N7]
 | .agg p l,_,_,h,hg=>by simp only [SV.g] at hg;obtain ⟨cs,rfl,h1,_⟩:=hg;simp only [SV.Y1] at h;simp only [b6.N7];exact s9.cC h h1
 | .tuple l,_,_,h,hg=>by simp only [SV.g] at hg;obtain ⟨cs,rfl,h1⟩:=hg;simp only [SV.Y1] at h;simp only [b6.N7];exact s9.cC h h1
 | .bn k,_,_,h,hg=>by simp only [SV.g] at hg;simp only [SV.Y1,Option.some.injEq] at h;subst h;exact hg.1
 | .q x,v,_,h,hg=>by
  simp only [SV.g] at hg;obtain ⟨y,h1,_⟩:=hg;simp only [SV.Y1,Option.some.injEq] at h;subst h;cases v<;>simp only [b6.G9,reduceCtorEq] at h1<;>rfl
theorem s9.cC:∀ {x:List SV} {v:List b6} {n:Nat},s9.Y1 x=some n->s9.g C vs x v->A9 v=n
 |[],_,_,h,hg=>by simp only [s9.g] at hg;subst hg;simp only [s9.Y1,Option.some.injEq] at h;subst h;rfl
 |x::xs,_,_,h,hg=>by
  simp only [s9.g] at hg;obtain ⟨d,ds,rfl,h1,h2⟩:=hg;simp only [s9.Y1] at h;split at h
  ·rename_i a b ha hb
   simp only [Option.some.injEq] at h;subst h;simp only [A9];rw [SV.cC ha h1,s9.cC hb h2]
  ·cases h
end
theorem SO.cC {x:SO}{o:z6}{n:Nat}(h:x.Y1 =some n)(hg:x.g C vs o):o.N7=n:=by
 cases x with
 |dead=>simp only [SO.g] at hg;subst hg;simp only [SO.Y1,Option.some.injEq] at h;subst h;rfl
 |cells p l=>obtain ⟨cs,rfl,h1,_⟩:=hg;simp only [SO.Y1] at h;simp only [z6.N7];exact s9.cC h h1
 |pr k=>simp only [SO.g] at hg;simp only [SO.Y1,Option.some.injEq] at h;subst h;exact C.N7 k o hg
 |bn k=>simp only [SO.g] at hg;simp only [SO.Y1,Option.some.injEq] at h;subst h;exact hg
 |top=>simp [SO.Y1] at h
theorem Bn:∀ {x:List SO} {H:o6} {l:List Nat},vE x=some l->F2.g C vs x H->H.map z6.N7=l
 |[],_,_,h,hg=>by simp only [F2.g] at hg;subst hg;simp only [vE,Option.some.injEq] at h;subst h;rfl
 |x::xs,_,_,h,hg=>by
  simp only [F2.g] at hg;obtain ⟨d,ds,rfl,h1,h2⟩:=hg;simp only [vE] at h;split at h
  ·rename_i a b ha hb
   simp only [Option.some.injEq] at h;subst h;simp only [H8];rw [SO.cC ha h1,Bn hb h2]
  ·cases h
mutual
theorem SV.di (id:Nat):∀ {x:SV} {v:b6},x.g C vs v->(x.kill id).g C vs (v.kill id)
 | .top,_,_=>by simp [SV.kill,SV.g]
 | .any,_,hg=>by simp only [SV.g] at hg;subst hg;simp [SV.kill,b6.kill,SV.g]
 | .d _,_,hg=>by have hg' :=hg;simp only [SV.g] at hg;obtain ⟨y,rfl,_⟩:=hg;simpa only [SV.kill,b6.kill] using hg'
 | .own _ _,_,hg=>by have hg' :=hg;simp only [SV.g] at hg;obtain ⟨y,_,rfl,_⟩:=hg;simpa only [SV.kill,b6.kill] using hg'
 | .J6,_,hg=>by simp only [SV.g] at hg;subst hg;simp [SV.kill,b6.kill,SV.g]
 | .ptr i o,_,hg=>by
  simp only [SV.g] at hg;subst hg;simp only [SV.kill,b6.kill];split
  ·rename_i h;rw [if_pos (b8 h)];simp [SV.g]
  ·rename_i h;rw [if_neg (fun e=>h (by rw [e];exact Nat.beq_refl _))];simp [SV.g]
 | .Q9 _,_,hg=>by have hg' :=hg;simp only [SV.g] at hg;obtain ⟨_,_,rfl,_⟩:=hg;simpa only [SV.kill,b6.kill] using hg'
 | .E3 i z l n,_,hg=>by
  simp only [SV.g] at hg;subst hg;simp only [SV.kill,b6.kill];split
  ·rename_i h;rw [if_pos (b8 h)];simp [SV.g]
  ·rename_i h;rw [if_neg (fun e=>h (by rw [e];exact Nat.beq_refl _))];simp [SV.g]
 | .agg p l,_,hg=>by
  have hg' :=hg;simp only [SV.g] at hg;obtain ⟨cs,rfl,h1,h2⟩:=hg;simp only [SV.kill,b6.kill];split
  ·rename_i h
   rw [me id cs (s9.cC h h1)];exact hg'
  ·simp only [SV.g]
   exact ⟨_,rfl,s9.di id h1,fun k h=>by cases h⟩
 | .tuple l,_,hg=>by
  simp only [SV.g] at hg;obtain ⟨cs,rfl,h1⟩:=hg;simp only [SV.kill,b6.kill,SV.g];exact ⟨_,rfl,s9.di id h1⟩
 | .bn k,v,hg=>by
  simp only [SV.kill];split
  ·rename_i h
   have h:=b8 h;subst h;simp only [SV.g] at hg ⊢;rw [IF id v hg.1];exact hg
  ·simp [SV.g]
 | .q x,v,hg=>by
  have hg' :=hg;simp only [SV.g] at hg;obtain ⟨y,h1,_⟩:=hg;simp only [SV.kill];rw [IF id v (by cases v<;>simp only [b6.G9,reduceCtorEq] at h1<;>rfl)];exact hg'
theorem s9.di (id:Nat):∀ {x:List SV} {v:List b6},s9.g C vs x v->s9.g C vs (s9.kill id x) (J0 id v)
 |[],_,h=>by simp only [s9.g] at h;subst h;simp [s9.kill,J0,s9.g]
 |x::xs,_,h=>by
  simp only [s9.g] at h;obtain ⟨d,ds,rfl,h2,h3⟩:=h;simp only [s9.kill,J0,s9.g];exact ⟨_,_,rfl,SV.di id h2,s9.di id h3⟩
end
theorem SO.di (id:Nat){x:SO}{o:z6}(h:x.g C vs o):(x.kill id).g C vs (o.kill id):=by
 cases x with
 |dead=>simp only [SO.g] at h;subst h;rfl
 |cells p l =>
  have h' :=h;obtain ⟨cs,rfl,h1,h2⟩:=h;simp only [SO.kill,z6.kill];split
  ·rename_i hb
   rw [me id cs (s9.cC hb h1)];exact h'
  ·exact ⟨_,rfl,s9.di id h1,fun k h=>by cases h⟩
 |pr k =>
  simp only [SO.g] at h;simp only [SO.kill];rw [NC id (C.N7 k o h)];exact h
 |bn k =>
  simp only [SO.kill];split
  ·rename_i hk
   have hk:=b8 hk;subst hk;rw [NC id h];exact h
  ·trivial
 |top=>trivial
theorem F2.map {f:SO->SO}{f' :z6->z6}(hf:∀ x a,SO.g C vs x a->SO.g C vs (f x) (f' a)):∀ {x:List SO} {d:o6},F2.g C vs x d->F2.g C vs (x.map f) (d.map f')
 |[],_,h=>by simp only [F2.g] at h;subst h;simp [F2.g]
 |x::xs,_,h=>by
  simp only [F2.g] at h;obtain ⟨d,ds,rfl,h2,h3⟩:=h;simp only [H8,F2.g];exact ⟨_,_,rfl,hf _ _ h2,F2.map hf h3⟩
end
def vA (l:List Nat):Nat:=l.foldr max 0
def T8 (bs:List Nat)(strict:Nat):Nat->Nat->Nat
 |0,n=>n
 |k+1,n=>if J9 n strict then n else
  if y7 (max n (vA ((bs.take n).drop strict))) n then n else T8 bs strict k (max n (vA ((bs.take n).drop strict)))
def Is:List Nat->Nat->Bool
 |[],_=>true
 |b::bs,k=>J9 b (k+1)&&Is bs (k+1)
def kJ (bs:List Nat)(strict n:Nat):Nat:=if J9 n strict then n else if Is ((bs.take n).drop strict) strict then n else strict
theorem Mu:∀ H:o6,Y2 H=vA (H.map z6.N7)
 |[]=>rfl
 |o::H=>by simp only [Y2,H8,vA,List.foldr_cons];rw [Mu H];rfl
theorem nu (H:o6)(a b:Nat):Y2 ((H.take a).drop b)=vA (((H.map z6.N7).take a).drop b):=by
 rw [Mu,List.map_drop,List.map_take]
theorem sC (H:o6)(strict:Nat):∀ (k n:Nat),H9 H strict k n=T8 (H.map z6.N7) strict k n
 |0,n=>rfl
 |k+1,n=>by
  simp only [H9,T8,nu,Nat.ble_eq,Nat.beq_eq];split
  ·rfl
  ·split
   ·rfl
   ·exact sC H strict k _
theorem MD:∀ (H:o6) (k:Nat),P3 H k=Is (H.map z6.N7) k
 |[],_=>rfl
 |o::H,k=>by
  simp only [P3,H8,Is];rw [MD H (k+1)]
  congr 1
  rw [Bool.eq_iff_iff,Nat.ble_eq];simp
theorem HP (H:o6)(s n:Nat):C5 H s n=kJ (H.map z6.N7) s n:=by
 simp only [C5,kJ,MD,List.map_drop,List.map_take,Nat.ble_eq]
def fH (s:SS):u5->SV×SS
 | .loc j=>match s.L[j]? with
  |some (.own z x)=>(.own z x,{ s with L:=s.L.set j (.d x) })
  |some (.q x)=>(.q x,s)
  |_=>(bO s.T s.L (.loc j),s)
 | .const v=>(Qm v,s)
 | .slot t=>(bO s.T s.L (.slot t),s)
section
variable {C:Ctx} {vs:List Nat} {s:SS} {st:F0}
theorem cu (hs:s.g C vs st)(k:Nat){v:SV}{a:b6}(h:v.g C vs a):(nO s k v).g C vs (put st k a) :=
 ⟨hs.1,hs.2.1,s9.set hs.2.2.1 k h,hs.2.2.2⟩
theorem CF (hs:s.g C vs st)(x:u5):(fH s x).1.g C vs (D8 st x).1/\(fH s x).2.g C vs (D8 st x).2:=by
 obtain ⟨hT,hH,hL,ht,hB⟩:=hs;have hr:∀ x,(bO s.T s.L x).g C vs (F8 st.T st.L x):=fun x=>Cy hT hL x
 cases x with
 |const v=>exact ⟨NA v,hT,hH,hL,ht,hB⟩
 |slot t=>exact ⟨hr (.slot t),hT,hH,hL,ht,hB⟩
 |loc j =>
  simp only [fH];split
  ·rename_i z x e
   obtain ⟨a,h1,h2⟩:=s9.get hL e;simp only [SV.g] at h2;obtain ⟨len,cells,rfl,h3⟩:=h2;simp only [D8,h1];refine ⟨?_,hT,hH,s9.set hL j ?_,ht,hB⟩
   ·simp only [SV.g];exact ⟨_,_,rfl,h3⟩
   ·simp only [SV.g];exact ⟨_,rfl,h3⟩
  ·rename_i x e
   obtain ⟨a,h1,h2⟩:=s9.get hL e;have hq:∀ v:b6,v.G9=a.G9->(SV.q x).g C vs v:=fun v hv=>by
    simp only [SV.g] at h2 ⊢;rw [hv];exact h2
   simp only [D8];split
   ·rename_i z len cells e2
    rw [h1] at e2;cases e2;refine ⟨hq _ rfl,hT,hH,?_,ht,hB⟩;have:=s9.set hL j (a:= .q x) (b:= .d (.slice len cells)) (hq _ rfl)
    rwa [X5 e] at this
   ·refine ⟨hq _ ?_,hT,hH,hL,ht,hB⟩
    simp only [F8,List.getD_eq_getElem?_getD,h1,Option.getD_some];cases a<;>rfl
  ·rename_i hno hnq
   simp only [D8];split
   ·rename_i z len cells e
    cases hx:s.L[j]? with
    |none=>rw [s9.none hL hx] at e;cases e
    |some y =>
     obtain ⟨a,h1,h2⟩:=s9.get hL hx;rw [e] at h1;cases h1;have hy:(y= .top\/y= .bn 0):=by
      cases y<;>simp only [SV.g,reduceCtorEq] at h2
      ·exact .inl rfl
      ·obtain ⟨_,h2,_⟩:=h2;cases h2
      ·rename_i z' x';exact absurd hx (hno z' x')
      ·obtain ⟨_,_,h2,_⟩:=h2;cases h2
      ·obtain ⟨_,h2,_⟩:=h2;cases h2
      ·obtain ⟨_,h2,_⟩:=h2;cases h2
      ·rw [<- h2.1];exact .inr rfl
      ·rename_i x';exact absurd hx (hnq x')
     have hg:∀ v:b6,v.N7=0->v.one=true->y.g C vs v:=fun v e1 e2=>by
      rcases hy with rfl|rfl
      ·simp [SV.g]
      ·simp only [SV.g];exact ⟨e1,e2⟩
     refine ⟨?_,hT,hH,?_,ht,hB⟩
     ·have:bO s.T s.L (.loc j)=y:=by rcases hy with rfl|rfl<;>simp [bO,List.getD_eq_getElem?_getD,hx,SV.G9]
      rw [this];exact hg _ rfl rfl
     ·have:=s9.set hL j (a:=y) (b:= .d (.slice len cells)) (hg _ rfl rfl)
      rwa [X5 hx] at this
   ·exact ⟨hr (.loc j),hT,hH,hL,ht,hB⟩
end
def qX (s:SS)(u9:Option Nat)(o:SO):SS:=match u9 with
 |none=>{ s with H:=s.H++[o] }
 |some i=>{ s with H:=s.H.set i o }
def iT (s:SS)(u9:Option Nat):Nat:=u9.getD s.H.length
def okB (lim:H7)(id:Nat):Option Nat->Bool
 |some b=>J9 b (id+1)||(J9 lim.base id&&J9 lim.strict id)
 |none=>J9 lim.base id&&J9 lim.strict id
def CA (lim:H7)(k n:Nat)(s:SS)(x:u5):SV->Option SS
 | .ptr id off=>match (fH s x).1.cells? with
  |some l=>if y7 l.length n&&lim.may id&&okB lim id (s9.Y1 l) then
    match swr (fH s x).2.H id off (fH s x).1.tag l with
    |some H' =>some (nO { (fH s x).2 with H:=H',n7:= .obj id::(fH s x).2.n7 } k .any)
    |none=>none
   else none
  |none=>none
 |_=>none
def Hw (B:gO)(H:List SO)(sz:Nat):SV->Option SD
 | .d z=>match z.slice? B sz with
  |some _=>some z
  |none=>none
 | .E3 id z lo len=>if y7 z sz then match Sq H id lo (len * sz) with
   |some l=>match ir (l.map SV.G9) with
    |some xs=>some (mkSlice sz len xs)
    |none=>none
   |none=>none
  else none
 |_=>none
def Wo (B:gO)(sz:Nat)(x z:SD):Option (SD×Nat):=match x.slice? B sz,z.slice? B sz with
 |some (_,lo1,hi1,RT),some (_,lo2,hi2,RU) =>
  if y7 hi1 0 then some (z,hi2) else if y7 hi2 0 then some (x,hi1) else some (.slice none (lo1+lo2) (hi1+hi2) (E6.join RT RU),hi1+hi2)
 |_,_=>none
def DA (n7:List Touch)(s:Nat):Bool:=n7.any (Touch.R1 s)
def xC (s:SS):u5->Option (Nat×Nat)
 | .loc m=>match s.L[m]? with
  |some (.ptr id off)=>some (id,off)
  |_=>none
 | .slot t=>if DA s.n7 t then none else match s.T[t]? with
  |some (.ptr id off)=>some (id,off)
  |_=>none
 | .const _=>none
def xH (l:H7)(s:SS)(sz:Nat):y6->Option (SD×SS)
 | .N8 (.slot t)=>if DA s.n7 t then none else match s.T[t]? with
  |some (.own z x)=>if y7 z sz then some (x,{ s with T:=s.T.set t (.d x),n7:= .slot t::s.n7 }) else none
  |_=>none
 | .load none x=>match xC s x with
  |some (id,off)=>if s.n7.any (Touch.aJ id off)|| !l.may id then none else
   match s.H[id]? with
   |some (.cells p cs)=>match cs[off]? with
    |some (.own z x)=>if y7 z sz then some (x,{ s with H:=s.H.set id (.cells p (cs.set off (.d x))),n7:= .cell id off::s.n7 }) else none
    |_=>none
   |_=>none
  |none=>none
 |_=>none
def xG (l:H7)(j4:List n9)(s:SS)(sz:Nat):u5->Option (SD×SS)
 | .const (.own z len cells)=>if y7 z sz then some (.lit (.slice len cells),s) else none
 | .loc j=>match s.L[j]? with
  |some (.own z x)=>if y7 z sz then some (x,{ s with L:=s.L.set j (.d x) }) else none
  |some (.d x)=>match x.oX s.B,j4[j]? with
   |some _,some a=>xH l s sz a.op
   |_,_=>none
  |_=>none
 |_=>none
def Cr (l:H7)(s:SS):y6->Bool
 | .N8 (.slot t)=> !DA s.n7 t&&(match s.T[t]? with|some .J6=>true|_=>false)
 | .load none x=>match xC s x with
  |some (id,off)=> !s.n7.any (Touch.aJ id off)&&l.may id&&(match s.H[id]? with
   |some (.cells _ cs)=>(match cs[off]? with|some .J6=>true|_=>false)
   |_=>false)
  |none=>false
 |_=>false
def HA (l:H7)(j4:List n9)(s:SS):u5->Bool
 | .const .J6=>true
 | .loc j=>match s.L[j]? with
  |some .J6=>true
  |some (.d x)=>match x.oX s.B,j4[j]? with
   |some _,some a=>Cr l s a.op
   |_,_=>false
  |_=>false
 |_=>false
def Ci (B:gO)(H:List SO)(sz:Nat):SV->Option (Nat×List SV)
 | .d z=>match z.slice? B sz with
  |some (_,lo,hi,row)=>if y7 lo hi then some (lo,(c9 lo (row.map .d)).flatten) else none
  |none=>none
 | .E3 id z lo len=>if y7 z sz then match Sq H id lo (len * sz) with
   |some l=>some (len,l.map SV.G9)
   |none=>none
  else none
 |_=>none
def EF (n bytes:Nat):Bool:=J9 ((2 * n+512) * bytes) 281474976710656
def nK (lim:H7)(j4:List n9)(u9:Option Nat)(k sz bytes:Nat)(ob:Bool)(s:SS)(x:u5)(y:SV):Option SS :=
 if ob then match Ci s.B s.H sz y with
  |some (m,cs)=>if HA lim j4 s x&&EF m bytes&&Nat.blt 0 sz then
    (if y7 m 0 then some (nO s k .J6) else some (nO (qX s u9 (.cells none cs)) k (.E3 (iT s u9) sz 0 m)))
   else none
  |none=>none
 else match Hw s.B s.H sz y with
  |some z=>match xG lim j4 s sz x with
   |some (x0,s')=>match Wo s.B sz x0 z with
    |some (r,hi)=>if EF hi bytes&&Nat.blt 0 sz then some (nO s' k (.own sz r)) else none
    |none=>none
   |none=>none
  |none=>none
def uW (lim:H7)(entry k sz bytes:Nat)(s:SS)(id lo len:Nat)(y:SV):Option SS :=
 if J9 lim.base id&&J9 entry id&&lim.may id then
  match s.H[id]?,Ci s.B s.H sz y with
  |some (.cells _ l),some (m,cs)=>match s9.Y1 cs with
   |some b=>if y7 lo 0&&y7 (len * sz) l.length&&EF (len+m) bytes&&J9 b id&&cs.all SV.one&&Nat.blt 0 sz then
     some (nO { s with T:=s9.kill id s.T,H:=(s.H.take lim.base++(s.H.drop lim.base).map (SO.kill id)).set id (.cells none (s9.kill id l++cs)),L:=s9.kill id s.L,n7:= .obj id::s.n7 } k (.E3 id sz lo (len+m)))
    else none
   |none=>none
  |_,_=>none
 else none
section
variable {C:Ctx} {vs:List Nat} {s:SS} {st:F0}
theorem SS.F8 (hs:s.g C vs st)(x:u5):(bO s.T s.L x).g C vs (F8 st.T st.L x):=Cy hs.1 hs.2.2.1 x
theorem OK (hs:s.g C vs st){E:Env}{k n:Nat}{x:u5}{a:SV}{a' :b6}(ha:a.g C vs a'){s' :SS}(h:CA E.lim k n s x a=some s'):∃ st',Q0 E k n st a' x=some st' /\s'.g C vs st' :=by
 cases a<;>simp only [CA,reduceCtorEq] at h;rename_i id off;rw [bC ha];obtain ⟨hv,hT,hH,hL,ht,hB⟩:=CF hs x;split at h
 ·rename_i l hl
  obtain ⟨cs,h1,h2,h3⟩:=SV.Bo hv hl;split at h
  ·rename_i hc
   simp only [b5] at hc;split at h
   ·rename_i H' hw
    cases h;obtain ⟨H3,w1,w2⟩:=ae1 hH h2 h3 hw;have hlen:=s9.len h2;have hn:=b8 hc.1.1;have hbb:A9 cs<=id+1\/(E.lim.base<=id/\E.lim.strict<=id):=by
     have h4:=hc.2;unfold okB at h4;split at h4
     ·rename_i b hb
      simp only [Bool.or_eq_true,b5,Nat.ble_eq] at h4;rw [s9.cC hb h2];exact h4
     ·simp only [b5,Nat.ble_eq] at h4
      exact .inr h4
    refine ⟨_,?_,cu (s:={ (fH s x).2 with H:=H',n7:= .obj id::(fH s x).2.n7 }) (st:={ (D8 st x).2 with H:=H3,n7:= .obj id::(D8 st x).2.n7 }) ⟨hT,w2,hL,congrArg (Touch.obj id::·) ht,hB⟩ k (v:= .any) (a:= .any) (by simp only [SV.g])⟩;simp only [Q0,h1];rw [if_pos ⟨by omega,hc.1.2,hbb⟩,w1]
   ·cases h
  ·cases h
 ·cases h
theorem On (hs:s.g C vs st){sz:Nat}{y:SV}{y' :b6}(hy:y.g C vs y'){z:SD}(h:Hw s.B s.H sz y=some z):∃ m cs new,J7 st.H sz y' =some (m,cs)/\M9 cs=some new/\z.g C vs (.slice m new):=by
 obtain ⟨hT,hH,hL,ht,hB⟩:=hs;cases y<;>simp only [Hw,reduceCtorEq] at h
 ·rename_i z'
  split at h
  ·rename_i q hq
   cases h;obtain ⟨d,rfl,h1⟩:=Y7 hy;obtain ⟨v,lo,hi,row⟩:=q;obtain ⟨hw,rows,rfl,h2,h3,h4,h5⟩:=SD.dy hB hq h1;have hfl:rows.flatten.length=rows.length * sz:=jm (fun r hr=>by rw [E6.len (h5 r hr)];exact hw);exact ⟨_,_,_,by simp only [J7,hfl,if_true],fV _,h1⟩
  ·cases h
 ·rename_i id z' lo len
  rw [kI hy];split at h
  ·rename_i hz
   have hz:=b8 hz;split at h
   ·rename_i l hl
    split at h
    ·rename_i xs hxs
     cases h;obtain ⟨cs,h1,h2⟩:=Aj hH hl;have h3:=s9.map (C:=C) (vs:=vs) (fun _ _=>SV.nU) h2;obtain ⟨ds,h4,h5⟩:=mH h3 hxs;have hlen:xs.length=len * sz:=by
      have e1:=E6.len h5;have e2:∀ {v:List b6} {d:List Data},M9 v=some d->d.length=v.length:=by
       intro v
       induction v with
       |nil=>intro d h;simp only [M9,Option.some.injEq] at h;subst h;rfl
       |cons a v ih =>
        intro d h;simp only [M9] at h;split at h
        ·split at h
         ·rename_i q hq
          simp only [Option.some.injEq] at h;subst h;simp [ih hq]
         ·cases h
        ·cases h
      have e3:=e2 h4;have e4:=s9.len h2;have e5:l.length=len * sz:=by
       unfold Sq at hl;split at hl
       ·split at hl
        ·rename_i hb
         have hb:=m8 hb;cases hl;simp;omega
        ·cases hl
       ·cases hl
      simp at e3;omega
     refine ⟨len,_,ds,?_,h4,nF hlen h5⟩;simp only [J7];rw [if_pos hz,h1]
    ·cases h
   ·cases h
  ·cases h
theorem Wp {B:gO}(hB:Bg vs B){sz:Nat}{x z r:SD}{hi len m:Nat}{cells new:List Data}(h:Wo B sz x z=some (r,hi))(hx:x.g C vs (.slice len cells))(hz:z.g C vs (.slice m new)):r.g C vs (.slice (len+m) (cells++new))/\len+m<=hi:=by
 unfold Wo at h;split at h
 ·rename_i v1 lo1 hi1 RT v2 lo2 hi2 RU e1 e2
  obtain ⟨w1,TW,r1,a1,a2,a3,a4⟩:=SD.dy hB e1 hx;obtain ⟨w2,TX,r2,b1,b2,b3,b4⟩:=SD.dy hB e2 hz;injection r1 with r1a r1b
  injection r2 with r2a r2b
  split at h
  ·rename_i h0
   have h0:=b8 h0;simp only [Option.some.injEq,Prod.mk.injEq] at h;obtain ⟨rfl,rfl⟩:=h;have:TW=[]:=List.eq_nil_of_length_eq_zero (by omega);subst this;subst r1b;simp at r1a;subst r1a;exact ⟨by simpa using hz,by omega⟩
  ·split at h
   ·rename_i h0
    have h0:=b8 h0;simp only [Option.some.injEq,Prod.mk.injEq] at h;obtain ⟨rfl,rfl⟩:=h;have:TX=[]:=List.eq_nil_of_length_eq_zero (by omega);subst this;subst r2b;simp at r2a;subst r2a;exact ⟨by simpa using hx,by omega⟩
   ·simp only [Option.some.injEq,Prod.mk.injEq] at h
    obtain ⟨rfl,rfl⟩:=h;refine ⟨?_,by omega⟩;simp only [SD.g];refine ⟨TW++TX,?_,by simp;omega,by simp;omega,(fun i h=>by cases h),fun q hq=> ?_⟩
    ·rw [List.flatten_append,<- r1b,<- r2b,C1,<- r1a,<- r2a]
    ·rcases List.mem_append.1 hq with hq|hq
     ·exact E6.S8 RT RU (by omega) (a4 q hq)
     ·exact E6.S9 RT RU (by omega) (b4 q hq)
 ·cases h
theorem OG (hs:s.g C vs st){x:u5}{id off:Nat}(h:xC s x=some (id,off)):Z6 st x=some (id,off):=by
 obtain ⟨hT,hH,hL,ht,hB⟩:=hs;cases x with
 |loc m =>
  simp only [xC] at h;split at h
  ·rename_i e
   cases h;obtain ⟨a,h1,h2⟩:=s9.get hL e;rw [bC h2] at h1;simp only [Z6,h1]
  ·cases h
 |slot t =>
  simp only [xC] at h;split at h
  ·cases h
  ·rename_i hh
   unfold DA at hh;split at h
   ·rename_i e
    cases h;obtain ⟨a,h1,h2⟩:=s9.get hT e;rw [bC h2] at h1;simp only [Z6,ht];rw [if_neg hh,h1]
   ·cases h
 |const v=>cases h
theorem HK (hs:s.g C vs st){l:H7}{sz:Nat}{op:y6}{x:SD}{s' :SS}(h:xH l s sz op=some (x,s')):∃ len cells st',U9 l st sz op=some (len,cells,st')/\x.g C vs (.slice len cells)/\s'.g C vs st' :=by
 have hs' :=hs;obtain ⟨hT,hH,hL,ht,hB⟩:=hs;unfold xH at h;split at h
 ·rename_i t
  split at h
  ·cases h
  ·rename_i hh
   unfold DA at hh;split at h
   ·rename_i z x' e
    split at h
    ·rename_i hz
     have hz:=b8 hz;simp only [Option.some.injEq,Prod.mk.injEq] at h;obtain ⟨rfl,rfl⟩:=h;obtain ⟨a,h1,h2⟩:=s9.get hT e;obtain ⟨len,cells,rfl,h3⟩:=pe h2;refine ⟨len,cells,{ st with T:=st.T.set t (.d (.slice len cells)),n7:= .slot t::st.n7 },?_,h3,s9.set hT t (aM h3),hH,hL,by simp only [ht],hB⟩;simp only [U9,ht];rw [if_neg hh,h1];simp only;rw [if_pos hz]
    ·cases h
   ·cases h
 ·rename_i y
  split at h
  ·rename_i id off hp
   split at h
   ·cases h
   ·rename_i hh
    split at h
    ·rename_i p cs e
     split at h
     ·rename_i z x' e2
      split at h
      ·rename_i hz
       have hz:=b8 hz;simp only [Option.some.injEq,Prod.mk.injEq] at h;obtain ⟨rfl,rfl⟩:=h;obtain ⟨o,h1,h2⟩:=F2.get hH e;obtain ⟨ds,rfl,h3,h4⟩:=h2;obtain ⟨a,h5,h6⟩:=s9.get h3 e2;obtain ⟨len,cells,rfl,h7⟩:=pe h6;refine ⟨len,cells,{ st with H:=st.H.set id (.cells (ds.set off (.d (.slice len cells)))),n7:= .cell id off::st.n7 },?_,h7,hT,F2.set hH id ⟨_,rfl,s9.set h3 off (aM h7),fun k hk=> ?_⟩,hL,by simp only [ht],hB⟩
       ·simp only [U9,OG hs' hp,ht]
        rw [if_neg hh,h1];simp only [h5];rw [if_pos hz]
       ·have e3:(ds.set off (.d (.slice len cells))).map b6.G9=ds.map b6.G9:=by
         rw [List.map_set];apply X5;simp [h5,b6.G9]
        rw [e3];exact h4 k hk
      ·cases h
     ·cases h
    ·cases h
  ·cases h
 ·cases h
theorem qW (hB:Bg vs s.B){x:SD}{d:Data}{q:Option Nat×Nat×Nat}(h:x.oX s.B=some q)(hx:x.g C vs d):∃ n cells,d= .slice n cells:=by
 obtain ⟨v,lo,hi⟩:=q;obtain ⟨n,cells,rfl,_⟩:=SD.GV hB h hx;exact ⟨n,cells,rfl⟩
theorem HJ (hs:s.g C vs st){l:H7}{j4:List n9}{sz:Nat}{y:u5}{x:SD}{s' :SS}(h:xG l j4 s sz y=some (x,s')):∃ len cells st',P6 l j4 st sz y=some (len,cells,st')/\x.g C vs (.slice len cells)/\s'.g C vs st' :=by
 have hs' :=hs;obtain ⟨hT,hH,hL,ht,hB⟩:=hs;unfold xG at h;split at h
 ·rename_i z len cells
  split at h
  ·rename_i hz
   have hz:=b8 hz;simp only [Option.some.injEq,Prod.mk.injEq] at h;obtain ⟨rfl,rfl⟩:=h;exact ⟨len,cells,st,by simp only [P6];rw [if_pos hz],by simp only [SD.g],hs'⟩
  ·cases h
 ·rename_i j
  split at h
  ·rename_i z x' e
   split at h
   ·rename_i hz
    have hz:=b8 hz;simp only [Option.some.injEq,Prod.mk.injEq] at h;obtain ⟨rfl,rfl⟩:=h;obtain ⟨a,h1,h2⟩:=s9.get hL e;obtain ⟨len,cells,rfl,h3⟩:=pe h2;refine ⟨len,cells,{ st with L:=st.L.set j (.d (.slice len cells)) },?_,h3,hT,hH,s9.set hL j (aM h3),ht,hB⟩;simp only [P6,h1];rw [if_pos hz]
   ·cases h
  ·rename_i x' e
   split at h
   ·rename_i q a hq ha
    obtain ⟨b,h1,h2⟩:=s9.get hL e;obtain ⟨d,rfl,h3⟩:=Y7 h2;obtain ⟨n,cells,rfl⟩:=qW hB hq h3;obtain ⟨len,cells',st',h4,h5,h6⟩:=HK hs' h;exact ⟨len,cells',st',by simp only [P6,h1,ha,h4],h5,h6⟩
   ·cases h
  ·cases h
 ·cases h
theorem LQ (hs:s.g C vs st){l:H7}{op:y6}(h:Cr l s op=true):mz l st op=true:=by
 have hs' :=hs;obtain ⟨hT,hH,hL,ht,hB⟩:=hs;unfold Cr at h;split at h
 ·rename_i t
  simp only [b5,DA] at h;obtain ⟨h1,h2⟩:=h;split at h2
  ·rename_i e
   obtain ⟨a,h3,h4⟩:=s9.get hT e;simp only [SV.g] at h4;subst h4;simp only [mz,ht,h1,h3,Bool.and_self]
  ·cases h2
 ·rename_i x
  split at h
  ·rename_i id off hp
   simp only [b5] at h;obtain ⟨h1,h2⟩:=h;split at h2
   ·rename_i p cs e
    split at h2
    ·rename_i e2
     obtain ⟨o,h3,h4⟩:=F2.get hH e;obtain ⟨ds,rfl,h5,_⟩:=h4;obtain ⟨a,h6,h7⟩:=s9.get h5 e2;simp only [SV.g] at h7;subst h7;simp only [mz,OG hs' hp,ht,h1.1,h1.2,h3,h6,Bool.and_self]
    ·cases h2
   ·cases h2
  ·cases h
 ·cases h
theorem OB (hs:s.g C vs st){l:H7}{j4:List n9}{y:u5}(h:HA l j4 s y=true):isNil l j4 st y=true:=by
 have hs' :=hs;obtain ⟨hT,hH,hL,ht,hB⟩:=hs;unfold HA at h;split at h
 ·rfl
 ·rename_i j
  split at h
  ·rename_i e
   obtain ⟨a,h1,h2⟩:=s9.get hL e;simp only [SV.g] at h2;subst h2;simp only [isNil,h1]
  ·rename_i x e
   split at h
   ·rename_i q a hq ha
    obtain ⟨b,h1,h2⟩:=s9.get hL e;obtain ⟨d,rfl,h3⟩:=Y7 h2;obtain ⟨n,cells,rfl⟩:=qW hB hq h3;simp only [isNil,h1,ha];exact LQ hs' h
   ·cases h
  ·cases h
 ·cases h
theorem Iv {row:List SD}:∀ {rows:List (List Data)},(∀ r,r ∈ rows->E6.g C vs row r)->s9.g C vs (c9 rows.length (row.map .d)).flatten (rows.flatten.map .d)
 |[],_=>by simp [s9.g]
 |r::rows,h=>by
  simp only [A2,List.replicate_succ,List.flatten_cons,List.map_append];exact s9.app (s9.Ls (h r (by simp))) (Iv (fun r hr=>h r (by simp [hr])))
theorem Ew (hs:s.g C vs st){sz m:Nat}{y:SV}{y' :b6}(hy:y.g C vs y'){l:List SV}(h:Ci s.B s.H sz y=some (m,l)):∃ cs,J7 st.H sz y' =some (m,cs)/\s9.g C vs l cs:=by
 obtain ⟨hT,hH,hL,ht,hB⟩:=hs;cases y<;>simp only [Ci,reduceCtorEq] at h
 ·rename_i z'
  split at h
  ·rename_i v lo hi row hq
   split at h
   ·rename_i he
    have he:=b8 he;simp only [Option.some.injEq,Prod.mk.injEq] at h;obtain ⟨rfl,rfl⟩:=h;obtain ⟨d,rfl,h1⟩:=Y7 hy;obtain ⟨hw,rows,rfl,h2,h3,h4,h5⟩:=SD.dy hB hq h1;have hfl:rows.flatten.length=rows.length * sz:=jm (fun r hr=>by rw [E6.len (h5 r hr)];exact hw);have hn:lo=rows.length:=by omega
    subst hn;exact ⟨_,by simp only [J7,hfl,if_true],Iv h5⟩
   ·cases h
  ·cases h
 ·rename_i id z' lo len
  rw [kI hy];split at h
  ·rename_i hz
   have hz:=b8 hz;split at h
   ·rename_i l' hl
    simp only [Option.some.injEq,Prod.mk.injEq] at h;obtain ⟨rfl,rfl⟩:=h;obtain ⟨cs,h1,h2⟩:=Aj hH hl;refine ⟨_,?_,s9.map (fun _ _=>SV.nU) h2⟩;simp only [J7];rw [if_pos hz,h1]
   ·cases h
  ·cases h
theorem Cz {n m bytes:Nat}(h:EF n bytes=true)(hm:m<=n):roomFor m bytes=true:=by
 unfold EF at h;have h:=m8 h;simp only [roomFor,decide_eq_true_eq];exact Nat.le_trans (Nat.mul_le_mul_right _ (by omega)) h
theorem Cq (hs:s.g C vs st){u9:Option Nat}{o:SO}{o' :z6}(h:o.g C vs o'):(qX s u9 o).g C vs (J5 st u9 o')/\newId st u9=iT s u9:=by
 obtain ⟨hT,hH,hL,ht,hB⟩:=hs;have hlen:=F2.len hH;cases u9 with
 |none =>
  refine ⟨⟨hT,F2.app hH (by simp only [F2.g];exact ⟨_,_,rfl,h,rfl⟩),hL,ht,hB⟩,?_⟩;simp [newId,iT,hlen]
 |some i=>exact ⟨⟨hT,F2.set hH i h,hL,ht,hB⟩,rfl⟩
theorem Af (hs:s.g C vs st){E:Env}{j4:List n9}{u9:Option Nat}{k sz bytes:Nat}{ob:Bool}{x:u5}{y:SV}{y' :b6}(hy:y.g C vs y'){s' :SS}(h:nK E.lim j4 u9 k sz bytes ob s x y=some s'):∃ st',K5 E j4 u9 k sz bytes ob st x y' =some st' /\s'.g C vs st' :=by
 unfold nK at h;split at h
 ·rename_i Mj
  split at h
  ·rename_i m cs he
   obtain ⟨ds,h1,h2⟩:=Ew hs hy he;split at h
   ·rename_i hc
    simp only [b5] at hc;have c1:=OB hs hc.1.1;have c2:=Cz hc.1.2 (k9 _);have c3:0<sz:=m8 hc.2;split at h
    ·rename_i h0
     have h0:=b8 h0;cases h;refine ⟨_,?_,cu hs k (v:= .J6) (a:= .J6) (by simp only [SV.g])⟩;simp only [K5,h1,Mj,if_true];rw [if_pos ⟨c1,c2,c3⟩,if_pos h0]
    ·rename_i h0
     have h0:m≠0:=fun e=>h0 (by rw [e];rfl)
     cases h;obtain ⟨n1,n2⟩:=Cq hs (u9:=u9) (o:= .cells none cs) (o' := .cells ds) ⟨ds,rfl,h2,fun k h=>by cases h⟩;refine ⟨_,?_,cu n1 k (v:= .E3 (iT s u9) sz 0 m) (a:= .E3 (newId st u9) sz 0 m) (by simp only [SV.g,n2])⟩;simp only [K5,h1,Mj,if_true];rw [if_pos ⟨c1,c2,c3⟩,if_neg h0]
   ·cases h
  ·cases h
 ·rename_i Mj
  split at h
  ·rename_i z hz
   obtain ⟨m,cs,new,h1,h2,h3⟩:=On hs hy hz;split at h
   ·rename_i x0 s1 ht
    obtain ⟨len,cells,Q3,h4,h5,h6⟩:=HJ hs ht;split at h
    ·rename_i r hi UL
     obtain ⟨h7,h8⟩:=Wp hs.2.2.2.2 UL h5 h3;split at h
     ·rename_i hc
      simp only [b5] at hc;have c2:=Cz hc.1 h8;have c3:0<sz:=m8 hc.2;cases h;refine ⟨_,?_,cu h6 k (v:= .own sz r) (a:= .own sz (len+m) (cells++new)) (by simp only [SV.g];exact ⟨_,_,rfl,h7⟩)⟩;simp only [K5,h1,h2,h4];rw [if_neg Mj,if_pos ⟨c2,c3⟩]
     ·cases h
    ·cases h
   ·cases h
  ·cases h
theorem LL (hs:s.g C vs st){E:Env}{k sz bytes id lo len:Nat}{y:SV}{y' :b6}(hy:y.g C vs y'){s' :SS}(h:uW E.lim E.entry k sz bytes s id lo len y=some s'):∃ st',W9 E k sz bytes st id lo len y' =some st' /\s'.g C vs st' :=by
 unfold uW at h;split at h
 ·rename_i hc0
  simp only [b5,Nat.ble_eq] at hc0;split at h
  ·rename_i p l m cs MT he
   split at h
   ·rename_i b hb
    split at h
    ·rename_i hc
     simp only [b5,Nat.ble_eq] at hc;obtain ⟨⟨⟨⟨⟨c1,c2⟩,c3⟩,c4⟩,c5⟩,c6⟩:=hc;cases h;obtain ⟨ds,h1,h2⟩:=Ew hs hy he;have hs' :=hs;obtain ⟨hT,hH,hL,ht,hB⟩:=hs;obtain ⟨o,h3,h4⟩:=F2.get hH MT;obtain ⟨es,rfl,h5,_⟩:=h4;have e1:=s9.len h5;have c1:=b8 c1;have c2:=b8 c2;have hrf:=Cz c3 (k9 _);refine ⟨_,?_,cu (s:={ s with T:=s9.kill id s.T,H:=(s.H.take E.lim.base++(s.H.drop E.lim.base).map (SO.kill id)).set id (.cells none (s9.kill id l++cs)),L:=s9.kill id s.L,n7:= .obj id::s.n7 }) (st:={ T:=J0 id st.T,H:=(st.H.take E.lim.base++(st.H.drop E.lim.base).map (z6.kill id)).set id (.cells (J0 id es++ds)),L:=J0 id st.L,n7:= .obj id::st.n7 }) ⟨s9.di id hT,F2.set (F2.app (F2.take hH _) (F2.map (fun _ _=>SO.di id) (F2.drop hH _))) id (a:= .cells none (s9.kill id l++cs)) (b:= .cells (J0 id es++ds)) ⟨_,rfl,s9.app (s9.di id h5) h2,fun k h=>by cases h⟩,s9.di id hL,by simp only [ht],hB⟩ k (v:= .E3 id sz lo (len+m)) (a:= .E3 id sz lo (len+m)) (by simp only [SV.g])⟩;simp only [W9,h3,h1];rw [if_pos ⟨hc0.1.1,hc0.1.2,hc0.2⟩,if_pos ⟨c1,by omega,hrf,by rw [s9.cC hb h2];exact c4,s9.wS h2 c5,m8 c6⟩]
    ·cases h
   ·cases h
  ·cases h
 ·cases h
end
abbrev Sem:=gO->FuncId->List SV->List SO->H7->Option (List (SV×List SO))
def eN (C:Ctx)(A:Prog)(sem:Sem):Prop:=∀ B f args H l outs,sem B f args H l=some outs->∀ vs,Bg vs B->∀ as Hc,s9.g C vs args as->F2.g C vs H Hc ->
 Pq A f as Hc l fun v H1=>∃ o,o ∈ outs/\o.1.g C vs v/\F2.g C vs o.2 H1
def gf {α β:Type}(f:α->Option (List β)):List α->Option (List β)
 |[]=>some []
 |a::r=>match f a,gf f r with
  |some x,some y=>some (x++y)
  |_,_=>none
theorem V6 {α β:Type}{f:α->Option (List β)}:∀ {l:List α} {r:List β},gf f l=some r->∀ a,a ∈ l->∃ x,f a=some x/\∀ b,b ∈ x->b ∈ r
 |[],_,_,a,h=>by cases h
 |c::l,r,h,a,ha=>by
  simp only [gf] at h;split at h
  ·rename_i x y hx hy
   cases h
   rcases x9.1 ha with rfl|ha
   ·exact ⟨x,hx,fun b hb=>List.mem_append_left _ hb⟩
   ·obtain ⟨z,h1,h2⟩:=V6 hy a ha
    exact ⟨z,h1,fun b hb=>List.mem_append_right _ (h2 b hb)⟩
  ·cases h
section
variable (A:Prog) (sem:Sem)
def Oo (lim:H7)(k:Nat)(f:FuncId)(args:List SV)(s:SS):Option (List SS) :=
 if A.prom f then match sem s.B f args s.H lim with
  |some outs=>if outs.all (fun o=>J9 s.H.length o.2.length) then some (outs.map fun o=>nO { s with H:=o.2,n7:= .below o.2.length::s.n7 } k o.1) else none
  |none=>none
 else match vE s.H,s9.Y1 args with
  |some bs,some b0 =>
   if J9 (T8 bs lim.strict 8 b0) s.H.length&&J9 (vA ((bs.take (T8 bs lim.strict 8 b0)).drop lim.strict)) (T8 bs lim.strict 8 b0) then
    match A.mode f with
    |0=>match sem s.B f args (s.H.take (T8 bs lim.strict 8 b0)) { lim with base:=T8 bs lim.strict 8 b0,strict:=kJ bs lim.strict (T8 bs lim.strict 8 b0) } with
     |some outs=>if outs.all (fun o=>y7 o.2.length (T8 bs lim.strict 8 b0)) then some (outs.map fun o=>nO { s with H:=o.2++s.H.drop (T8 bs lim.strict 8 b0),n7:= .below (T8 bs lim.strict 8 b0)::s.n7 } k o.1) else none
     |none=>none
    |1=>match sem s.B f args (s.H.take (T8 bs lim.strict 8 b0)) ⟨0,T8 bs lim.strict 8 b0,T8 bs lim.strict 8 b0,kJ bs lim.strict (T8 bs lim.strict 8 b0)⟩ with
     |some outs=>if outs.all (fun o=>y7 o.2.length (T8 bs lim.strict 8 b0)) then some (outs.map fun o=>nO s k o.1) else none
     |none=>none
    |_=>match (args.headD .any).Y1 with
     |some m=>match sem s.B f args (s.H.take (T8 bs lim.strict 8 b0)) (lim.kr m (T8 bs lim.strict 8 b0) (T8 bs lim.strict 8 b0) (kJ bs lim.strict (T8 bs lim.strict 8 b0))) with
      |some outs=>if outs.all (fun o=>y7 o.2.length (T8 bs lim.strict 8 b0))&&J9 m (T8 bs lim.strict 8 b0) then some (outs.map fun o=>nO { s with H:=o.2.take m++s.H.drop m,n7:= .below m::s.n7 } k o.1) else none
      |none=>none
     |none=>none
   else none
  |_,_=>none
def one {α:Type}:Option α->Option (List α)
 |some a=>some [a]
 |none=>none
def Sd (lim:H7)(entry:Nat)(j4:List n9)(u9:Option Nat)(k:Nat)(s:SS):y6->Option (List SS)
 | .alloc zero=>some [nO (qX s u9 (.cells none (zero.map Qm))) k (.ptr (iT s u9) 0)]
 | .box x=>match (bO s.T s.L x).cells? with
  |some l=>some [nO (qX s u9 (.cells (bO s.T s.L x).tag l)) k (.ptr (iT s u9) 0)]
  |none=>none
 | .A1 sz len zero parts true=>match xx (zero.map Qm) (parts.map fun (o,t,x)=>(o,t,bO s.T s.L x)) with
  |some cs=>if Nat.blt 0 sz&&y7 cs.length (len * sz) then some [nO (qX s u9 (.cells none cs)) k (.E3 (iT s u9) sz 0 len)] else none
  |none=>none
 | .store n a x=>one (CA lim k n s x (bO s.T s.L a))
 | .append sz bytes ob x y=>match bO s.T s.L x with
  | .E3 id z lo len=>if y7 z sz then one (uW lim entry k sz bytes s id lo len (bO s.T s.L y)) else none
  | .d _=>one (nK lim j4 u9 k sz bytes ob s x (bO s.T s.L y))
  | .J6=>one (nK lim j4 u9 k sz bytes ob s x (bO s.T s.L y))
  |_=>none
 | .call f xs=>Oo A sem lim k f (xs.map (bO s.T s.L)) s
 |_=>none
end
section
variable {C:Ctx} {vs:List Nat} {s:SS} {st:F0} {A:Prog} {sem:Sem} (eU:eN C A sem)
theorem s9.Vh {σ:u5->SV}{ρ:u5->b6}(h:∀ x,(σ x).g C vs (ρ x)):∀ xs:List u5,s9.g C vs (xs.map σ) (xs.map ρ)
 |[]=>by simp [s9.g]
 |x::xs=>by simp only [H8,s9.g];exact ⟨_,_,rfl,h x,s9.Vh h xs⟩
theorem QV:∀ {x:List SV} {v:List b6},s9.g C vs x v->(x.headD .any).g C vs (v.headD .any)
 |[],_,h=>by simp only [s9.g] at h;subst h;simp [SV.g]
 |x::xs,_,h=>by simp only [s9.g] at h;obtain ⟨d,ds,rfl,h1,_⟩:=h;exact h1
include eU
theorem Sc (hs:s.g C vs st){l:H7}{b k:Nat}{f:FuncId}{args:List SV}{as:List b6}(ha:s9.g C vs args as){outs:List SS}(h:Oo A sem l k f args s=some outs) :
  ∃ st' N,(∃ o,o ∈ outs/\o.g C vs st')/\∀ n,N<=n->B9 (K4 A n l b) k f as st=some st' :=by
 have hs' :=hs;obtain ⟨hT,hH,hL,ht,hB⟩:=hs;have hlen:=F2.len hH;unfold Oo at h;split at h
 ·rename_i dM
  split at h
  ·rename_i os hos
   split at h
   ·rename_i hall
    cases h;obtain ⟨v,H1,⟨o,o1,o2,o3⟩,N,hN⟩:=eU _ _ _ _ _ _ hos vs hB _ _ ha hH;have hl:=m8 (List.all_eq_true.1 hall o o1);have lV:=F2.len o3;refine ⟨_,N,⟨_,List.mem_map.2 ⟨o,o1,rfl⟩,cu (s:={ s with H:=o.2,n7:= .below o.2.length::s.n7 }) (st:={ st with H:=H1,n7:= .below H1.length::st.n7 }) ⟨hT,o3,hL,by simp only [ht,lV],hB⟩ k o2⟩,fun n hn=> ?_⟩;have CP:(K4 A n l b).cf f as st.H l=some (v,H1):=hN n hn;have GR :(K4 A n l b).prom f=true:=dM;have hlim:(K4 A n l b).lim=l:=rfl;simp only [B9,GR,if_true,hlim,CP];rw [if_pos (by omega)]
   ·cases h
  ·cases h
 ·rename_i dM
  have dM:A.prom f=false:=by simpa using dM
  split at h
  ·rename_i bs b0 Lh hb0
   have e1:=Bn Lh hH;have e2:=s9.cC hb0 ha;have e3:H9 st.H l.strict 8 (A9 as)=T8 bs l.strict 8 b0:=by rw [sC,e1,e2]
   have e4:∀ n,C5 st.H l.strict n=kJ bs l.strict n:=fun n=>by rw [HP,e1]
   generalize UM:T8 bs l.strict 8 b0=n0 at h;rw [UM] at e3;split at h
   ·rename_i hc
    simp only [b5,Nat.ble_eq] at hc;have BF:Y2 ((st.H.take n0).drop l.strict)<=n0:=by rw [nu,e1];exact hc.2
    have hle:n0<=st.H.length:=by omega
    have hHt:=F2.take hH n0;have hHd:=F2.drop hH n0;split at h
    ·rename_i hm
     split at h
     ·rename_i os hos
      split at h
      ·rename_i hall
       cases h;obtain ⟨v,H1,⟨o,o1,o2,o3⟩,N,hN⟩:=eU _ _ _ _ _ _ hos vs hB _ _ ha hHt;have hl:=b8 (List.all_eq_true.1 hall o o1);have lV:=F2.len o3;refine ⟨_,N,⟨_,List.mem_map.2 ⟨o,o1,rfl⟩,cu (s:={ s with H:=o.2++s.H.drop n0,n7:= .below n0::s.n7 }) (st:={ st with H:=H1++st.H.drop n0,n7:= .below n0::st.n7 }) ⟨hT,F2.app o3 hHd,hL,by simp only [ht],hB⟩ k o2⟩,fun n hn=> ?_⟩;exact vG (E:=K4 A n l b) dM hm e3 hle BF rfl (by rw [show (K4 A n l b).lim=l from rfl,e4];exact hN n hn) (by omega)
      ·cases h
     ·cases h
    ·rename_i hm
     split at h
     ·rename_i os hos
      split at h
      ·rename_i hall
       cases h;obtain ⟨v,H1,⟨o,o1,o2,o3⟩,N,hN⟩:=eU _ _ _ _ _ _ hos vs hB _ _ ha hHt;have hl:=b8 (List.all_eq_true.1 hall o o1);have lV:=F2.len o3;refine ⟨_,N,⟨_,List.mem_map.2 ⟨o,o1,rfl⟩,cu hs' k o2⟩,fun n hn=> ?_⟩;exact qd (E:=K4 A n l b) dM hm e3 hle BF rfl (by rw [show (K4 A n l b).lim=l from rfl,e4];exact hN n hn) (by omega)
      ·cases h
     ·cases h
    ·rename_i hm0 GQ
     split at h
     ·rename_i m WY
      split at h
      ·rename_i os hos
       split at h
       ·rename_i hall
        simp only [b5,Nat.ble_eq] at hall;cases h;obtain ⟨v,H1,⟨o,o1,o2,o3⟩,N,hN⟩:=eU _ _ _ _ _ _ hos vs hB _ _ ha hHt;have hl:=b8 (List.all_eq_true.1 hall.1 o o1);have lV:=F2.len o3;have hm2:=SV.cC WY (QV ha);refine ⟨_,N,⟨_,List.mem_map.2 ⟨o,o1,rfl⟩,cu (s:={ s with H:=o.2.take m++s.H.drop m,n7:= .below m::s.n7 }) (st:={ st with H:=H1.take m++st.H.drop m,n7:= .below m::st.n7 }) ⟨hT,F2.app (F2.take o3 m) (F2.drop hH m),hL,by simp only [ht],hB⟩ k o2⟩,fun n hn=> ?_⟩;have CP:(K4 A n l b).cf f as (st.H.take n0) (l.kr m n0 n0 (kJ bs l.strict n0))=some (v,H1):=hN n hn;have GR :(K4 A n l b).prom f=false:=dM;have hlim:(K4 A n l b).lim=l:=rfl;have hmd:(K4 A n l b).mode f=A.mode f:=rfl;simp only [B9,GR,b7,if_false,hlim,e3,hmd];rw [if_pos ⟨hle,BF⟩];simp only [hm2,e4,CP];rw [if_pos ⟨by omega,hall.2⟩]
       ·cases h
      ·cases h
     ·cases h
   ·cases h
  ·cases h
theorem Wr (hs:s.g C vs st){l:H7}{b:Nat}{j4:List n9}{u9:Option Nat}{k:Nat}{op:y6}{outs:List SS}(h:Sd A sem l b j4 u9 k s op=some outs) :
  ∃ st' N,(∃ o,o ∈ outs/\o.g C vs st')/\∀ n,N<=n->E9 (K4 A n l b) j4 u9 k st op=some st' :=by
 have hr:=SS.F8 hs;cases op<;>simp only [Sd,reduceCtorEq] at h
 case alloc zero =>
  cases h;obtain ⟨n1,n2⟩:=Cq hs (u9:=u9) (o:= .cells none (zero.map Qm)) (o' := .cells zero) ⟨zero,rfl,wP zero,fun k h=>by cases h⟩;exact ⟨_,0,⟨_,p4.2 rfl,cu n1 k (v:= .ptr (iT s u9) 0) (a:= .ptr (newId st u9) 0) (by simp only [SV.g,n2])⟩,fun n _=>rfl⟩
 case box x =>
  split at h
  ·rename_i cl hl
   cases h;obtain ⟨cs,h1,h2,h3⟩:=SV.Bo (hr x) hl;obtain ⟨n1,n2⟩:=Cq hs (u9:=u9) (o:= .cells (bO s.T s.L x).tag cl) (o' := .cells cs) ⟨cs,rfl,h2,h3⟩;exact ⟨_,0,⟨_,p4.2 rfl,cu n1 k (v:= .ptr (iT s u9) 0) (a:= .ptr (newId st u9) 0) (by simp only [SV.g,n2])⟩,fun n _=>by simp only [E9,h1]⟩
  ·cases h
 case A1 sz len zero parts ob =>
  cases ob<;>simp only [Sd,reduceCtorEq] at h;split at h
  ·rename_i cs hcs
   split at h
   ·rename_i hc
    simp only [b5] at hc;have c1:0<sz:=m8 hc.1;have c2:=b8 hc.2;cases h;obtain ⟨ds,h1,h2⟩:=uY (qL hr parts) (wP zero) hcs;have hl:=s9.len h2;obtain ⟨n1,n2⟩:=Cq hs (u9:=u9) (o:= .cells none cs) (o' := .cells ds) ⟨ds,rfl,h2,fun k h=>by cases h⟩;refine ⟨_,0,⟨_,p4.2 rfl,cu n1 k (v:= .E3 (iT s u9) sz 0 len) (a:= .E3 (newId st u9) sz 0 len) (by simp only [SV.g,n2])⟩,fun n _=> ?_⟩;simp only [E9,h1];rw [if_pos ⟨c1,by omega⟩]
   ·cases h
  ·cases h
 case store n a x =>
  cases e:CA l k n s x (bO s.T s.L a) with
  |none=>rw [e] at h;cases h
  |some s' =>
   rw [e] at h;cases h;obtain ⟨st',h1,h2⟩:=OK (E:=K4 A 0 l b) hs (hr a) e;exact ⟨st',0,⟨_,p4.2 rfl,h2⟩,fun n _=>h1⟩
 case append sz bytes ob x y =>
  have hx:=hr x;split at h
  ·rename_i id z lo len e
   rw [e] at hx;split at h
   ·rename_i hz
    have hz:=b8 hz;cases e2:uW l b k sz bytes s id lo len (bO s.T s.L y) with
    |none=>rw [e2] at h;cases h
    |some s' =>
     rw [e2] at h;cases h;obtain ⟨st',h1,h2⟩:=LL (E:=K4 A 0 l b) hs (hr y) e2;refine ⟨st',0,⟨_,p4.2 rfl,h2⟩,fun n _=> ?_⟩;simp only [E9,kI hx];rw [if_pos hz];exact h1
   ·cases h
  ·rename_i x' e
   rw [e] at hx;obtain ⟨d,e3,_⟩:=Y7 hx;cases e2:nK l j4 u9 k sz bytes ob s x (bO s.T s.L y) with
   |none=>rw [e2] at h;cases h
   |some s' =>
    rw [e2] at h;cases h;obtain ⟨st',h1,h2⟩:=Af (E:=K4 A 0 l b) hs (hr y) e2;refine ⟨st',0,⟨_,p4.2 rfl,h2⟩,fun n _=> ?_⟩;simp only [E9,e3];exact h1
  ·rename_i e
   rw [e] at hx;simp only [SV.g] at hx;cases e2:nK l j4 u9 k sz bytes ob s x (bO s.T s.L y) with
   |none=>rw [e2] at h;cases h
   |some s' =>
    rw [e2] at h;cases h;obtain ⟨st',h1,h2⟩:=Af (E:=K4 A 0 l b) hs (hr y) e2;refine ⟨st',0,⟨_,p4.2 rfl,h2⟩,fun n _=> ?_⟩;simp only [E9,hx];exact h1
  ·cases h
 case call f xs =>
  obtain ⟨st',N,h1,h2⟩:=Sc eU (b:=b) hs (s9.Vh hr xs) h;exact ⟨st',N,h1,fun n hn=>by simp only [E9];exact h2 n hn⟩
end
def qN (B:gO)(c:SB)(t:Bool):Option gO:=match c with
 | .sr=>some B
 | .cmp i n Qn=>match B[i]? with
  |some (lo,hi)=>if t==Qn then (if J9 (max lo (n+1)) hi then some (B.set i (max lo (n+1),hi)) else none)
    else (if J9 lo (min hi n) then some (B.set i (lo,min hi n)) else none)
  |none=>some B
theorem Ab {vs:List Nat}{B:gO}(hB:Bg vs B){c:SB}{t:Bool}(h:c.g vs t):∃ B',qN B c t=some B' /\Bg vs B' :=by
 cases c with
 |sr=>exact ⟨B,rfl,hB⟩
 |cmp i n Qn =>
  obtain ⟨m,h1,h2⟩:=h;simp only [qN];split
  ·rename_i lo hi hi0
   obtain ⟨m',e1,e2,e3⟩:=hB.2 _ _ _ hi0;rw [h1] at e1;cases e1;have key:∀ lo' hi',lo' <=m->m<=hi' ->Bg vs (B.set i (lo',hi')):=by
    intro lo' hi' g1 g2;refine ⟨by simp [hB.1],fun j a b hj=> ?_⟩;rw [List.getElem?_set] at hj;split at hj
    ·split at hj
     ·rename_i hij hlt
      cases hj;subst hij;exact ⟨m,h1,g1,g2⟩
     ·cases hj
    ·exact hB.2 _ _ _ hj
   by_cases hp:(t==Qn)=true
   ·rw [if_pos hp]
    have hnm:n<m:=by
     have:t=Qn:=by simpa using hp
     subst this;cases t with
     |true=>simpa using h2
     |false=>simpa using h2
    rw [if_pos (by rw [Nat.ble_eq];omega)];exact ⟨_,rfl,key _ _ (by omega) e3⟩
   ·rw [if_neg hp]
    have hnm:m<=n:=by
     cases t<;>cases Qn<;>simp at hp h2<;>omega
    rw [if_pos (by rw [Nat.ble_eq];omega)];exact ⟨_,rfl,key _ _ e2 (by omega)⟩
  ·exact ⟨B,rfl,hB⟩
def BD (s:SS)(j:Nat)(c:SB)(t:Bool):List SS:=match qN s.B c t with
 |some B' =>[{ s with L:=s.L.set j (.d (.lit (.bool t))),B:=B' }]
 |none=>[]
def Dw (s:SS)(j:Nat):List SS:=match s.L[j]? with
 |some (.d x)=>match x.bool? with
  |some (.u c)=>BD s j c true++BD s j c false
  |_=>[s]
 |_=>[s]
def mb (k:IntKind)(lo:Int):Nat->List SV
 |0=>[]
 |n+1=> .d (.lit (.int k lo))::mb k (lo+1) n
def MN (s:SS)(j:Nat):List SS:=match s.L[j]? with
 |some (.d x)=>match x.int? s.B with
  |some (k,lo,hi,_)=>(mb k lo (hi - lo+1).toNat).map fun v=>{ s with L:=s.L.set j v }
  |none=>[s]
 |_=>[s]
def BE (s:SS)(i lo:Nat):Nat->List SS
 |0=>[]
 |n+1=>{ s with B:=s.B.set i (lo,lo) }::BE s i (lo+1) n
def MO (s:SS)(i:Nat):List SS:=match s.B[i]? with
 |some (lo,hi)=>BE s i lo (hi+1 - lo)
 |none=>[s]
section
variable {C:Ctx} {vs:List Nat} {s:SS} {st:F0}
theorem Iw (hs:s.g C vs st)(j:Nat):∃ s',s' ∈ Dw s j/\s'.g C vs st:=by
 have hs' :=hs;obtain ⟨hT,hH,hL,ht,hB⟩:=hs;unfold Dw;split
 ·rename_i x e
  split
  ·rename_i c hc
   obtain ⟨a,h1,h2⟩:=s9.get hL e;obtain ⟨d,rfl,h3⟩:=Y7 h2;obtain ⟨t,rfl,h4⟩:=SD.cW hc h3;simp only at h4;obtain ⟨B',h5,h6⟩:=Ab hB h4;have key:(BD s j c t)=[{ s with L:=s.L.set j (.d (.lit (.bool t))),B:=B' }]:=by unfold BD;rw [h5]
   have hL2:s9.g C vs (s.L.set j (.d (.lit (.bool t)))) st.L:=by
    have:=s9.set hL j (a:= .d (.lit (.bool t))) (b:= .d (.bool t)) (aM (by simp only [SD.g]))
    rwa [X5 h1] at this
   refine ⟨{ s with L:=s.L.set j (.d (.lit (.bool t))),B:=B' },?_,hT,hH,hL2,ht,h6⟩;cases t with
   |true=>exact List.mem_append_left _ (by rw [key];exact p4.2 rfl)
   |false=>exact List.mem_append_right _ (by rw [key];exact p4.2 rfl)
  ·exact ⟨s,p4.2 rfl,hs'⟩
 ·exact ⟨s,p4.2 rfl,hs'⟩
theorem kB {k:IntKind}:∀ (n:Nat) (lo m:Int),lo<=m->m<lo+n->SV.d (.lit (.int k m)) ∈ mb k lo n
 |0,lo,m,h1,h2=>by omega
 |n+1,lo,m,h1,h2=>by
  simp only [mb,x9]
  by_cases h:m=lo
  ·subst h;exact .inl rfl
  ·exact .inr (kB n (lo+1) m (by omega) (by omega))
theorem QE (hs:s.g C vs st)(j:Nat):∃ s',s' ∈ MN s j/\s'.g C vs st:=by
 have hs' :=hs;obtain ⟨hT,hH,hL,ht,hB⟩:=hs;unfold MN;split
 ·rename_i x e
  split
  ·rename_i k lo hi r hc
   obtain ⟨a,h1,h2⟩:=s9.get hL e;obtain ⟨d,rfl,h3⟩:=Y7 h2;obtain ⟨m,rfl,h4,h5,_⟩:=SD.iP hB hc h3;refine ⟨_,List.mem_map.2 ⟨_,kB _ lo m h4 (by omega),rfl⟩,hT,hH,?_,ht,hB⟩;have:=s9.set hL j (a:= .d (.lit (.int k m))) (b:= .d (.int k m)) (aM (by simp only [SD.g]))
   rwa [X5 h1] at this
  ·exact ⟨s,p4.2 rfl,hs'⟩
 ·exact ⟨s,p4.2 rfl,hs'⟩
theorem wm {i:Nat}:∀ (n lo m:Nat),lo<=m->m<lo+n->{ s with B:=s.B.set i (m,m) } ∈ BE s i lo n
 |0,lo,m,h1,h2=>by omega
 |n+1,lo,m,h1,h2=>by
  simp only [BE,x9]
  by_cases h:m=lo
  ·subst h;exact .inl rfl
  ·exact .inr (wm n (lo+1) m (by omega) (by omega))
theorem QF (hs:s.g C vs st)(i:Nat):∃ s',s' ∈ MO s i/\s'.g C vs st:=by
 have hs' :=hs;obtain ⟨hT,hH,hL,ht,hB⟩:=hs;unfold MO;split
 ·rename_i lo hi e
  obtain ⟨m,h1,h2,h3⟩:=hB.2 _ _ _ e;refine ⟨_,wm _ lo m h2 (by omega),hT,hH,hL,ht,by simp [hB.1],fun j a b hj=> ?_⟩;rw [List.getElem?_set] at hj;split at hj
  ·split at hj
   ·rename_i hij hlt
    cases hj;subst hij;exact ⟨m,h1,k9 _,k9 _⟩
   ·cases hj
  ·exact hB.2 _ _ _ hj
 ·exact ⟨s,p4.2 rfl,hs'⟩
end
def jw (n:Nat):SD->Option (SD×(Nat×Nat))
 | .slice none lo hi row=>if Nat.blt lo hi then some (.slice (some n) lo hi row,(lo,hi)) else none
 | .pr k x=>match jw n x with
  |some (y,p)=>some (.pr k y,p)
  |none=>none
 |_=>none
theorem uU {C:Ctx}{vs:List Nat}:∀ {x y:SD} {p:Nat×Nat} {d:Data},jw vs.length x=some (y,p)->x.g C vs d->∃ m,p.1<=m/\m<=p.2/\y.g C (vs++[m]) d
 | .slice v lo hi row,y,p,d,h,hg=>by
  cases v<;>simp only [jw,reduceCtorEq] at h;split at h
  ·simp only [Option.some.injEq,Prod.mk.injEq] at h
   obtain ⟨rfl,rfl⟩:=h;simp only [SD.g] at hg;obtain ⟨rows,rfl,h1,h2,h3,h4⟩:=hg;refine ⟨rows.length,h1,h2,?_⟩;simp only [SD.g];refine ⟨rows,rfl,h1,h2,fun i hi=> ?_,fun r hr=>E6.N4 (Le.app _ _) _ (h4 r hr)⟩;cases hi;simp
  ·cases h
 | .pr k x,y,p,d,h,hg=>by
  simp only [jw] at h;split at h
  ·rename_i y' p' e
   simp only [Option.some.injEq,Prod.mk.injEq] at h;obtain ⟨rfl,rfl⟩:=h;simp only [SD.g] at hg;obtain ⟨m,h1,h2,h3⟩:=uU e hg.2;exact ⟨m,h1,h2,by simp only [SD.g];exact ⟨hg.1,h3⟩⟩
  ·cases h
 | .top,_,_,_,h,_=>by simp [jw] at h
 | .lit _,_,_,_,h,_=>by simp [jw] at h
 | .bool _,_,_,_,h,_=>by simp [jw] at h
 | .int ..,_,_,_,h,_=>by simp [jw] at h
 | .anyI _,_,_,_,h,_=>by simp [jw] at h
 | .str _,_,_,_,h,_=>by simp [jw] at h
def DV (n:Nat):SV->Option (SV×(Nat×Nat))
 | .d x=>match jw n x with
  |some (y,p)=>some (.d y,p)
  |none=>none
 | .own z x=>match jw n x with
  |some (y,p)=>some (.own z y,p)
  |none=>none
 | .q x=>match jw n x with
  |some (y,p)=>some (.q y,p)
  |none=>none
 |_=>none
theorem BQ {C:Ctx}{vs:List Nat}{x y:SV}{p:Nat×Nat}{v:b6}(h:DV vs.length x=some (y,p))(hg:x.g C vs v):∃ m,p.1<=m/\m<=p.2/\y.g C (vs++[m]) v:=by
 cases x<;>simp only [DV,reduceCtorEq] at h
 ·split at h
  ·rename_i y' p' e
   simp only [Option.some.injEq,Prod.mk.injEq] at h;obtain ⟨rfl,rfl⟩:=h;obtain ⟨d,rfl,h1⟩:=Y7 hg;obtain ⟨m,h2,h3,h4⟩:=uU e h1;exact ⟨m,h2,h3,aM h4⟩
  ·cases h
 ·split at h
  ·rename_i y' p' e
   simp only [Option.some.injEq,Prod.mk.injEq] at h;obtain ⟨rfl,rfl⟩:=h;obtain ⟨len,cells,rfl,h1⟩:=pe hg;obtain ⟨m,h2,h3,h4⟩:=uU e h1;exact ⟨m,h2,h3,by simp only [SV.g];exact ⟨_,_,rfl,h4⟩⟩
  ·cases h
 ·split at h
  ·rename_i y' p' e
   simp only [Option.some.injEq,Prod.mk.injEq] at h;obtain ⟨rfl,rfl⟩:=h;simp only [SV.g] at hg;obtain ⟨d,h0,h1⟩:=hg;obtain ⟨m,h2,h3,h4⟩:=uU e h1;exact ⟨m,h2,h3,by simp only [SV.g];exact ⟨_,h0,h4⟩⟩
  ·cases h
def Nt (s:SS)(k:Nat):SS:=match s.L[k]? with
 |some v=>match DV s.B.length v with
  |some (w,p)=>{ s with L:=s.L.set k w,B:=s.B++[p] }
  |none=>s
 |none=>s
def Ns (s:SS)(id off:Nat):SS:=match s.H[id]? with
 |some (.cells p l)=>match l[off]? with
  |some v=>match DV s.B.length v with
   |some (w,q)=>{ s with H:=s.H.set id (.cells p (l.set off w)),B:=s.B++[q] }
   |none=>s
  |none=>s
 |_=>s
section
variable {C:Ctx} {vs:List Nat} {s:SS} {st:F0}
theorem Bg.add {B:gO}(hB:Bg vs B){p:Nat×Nat}{m:Nat}(h1:p.1<=m)(h2:m<=p.2):Bg (vs++[m]) (B++[p]):=by
 refine ⟨by simp [hB.1],fun i a b h=> ?_⟩
 rcases p9 i B.length with hi|hi
 ·rw [p7 hi] at h
  obtain ⟨q,e1,e2⟩:=hB.2 _ _ _ h;exact ⟨q,Le.app _ _ _ _ e1,e2⟩
 ·rw [q8 hi] at h
  cases e:i - B.length with
  |zero =>
   rw [e] at h;simp at h;subst h;have hb:=hB.1;exact ⟨m,by rw [q8 (by omega)];simp [show i - vs.length=0 by omega],h1,h2⟩
  |succ q=>rw [e] at h;simp at h
theorem SS.mono {ws:List Nat}(hl:Le vs ws)(hs:s.g C vs st):s9.g C ws s.T st.T/\F2.g C ws s.H st.H/\s9.g C ws s.L st.L :=
 ⟨s9.N4 hl _ hs.1,F2.N4 hl _ hs.2.1,s9.N4 hl _ hs.2.2.1⟩
theorem Rk (hs:s.g C vs st)(k:Nat):∃ ws,Le vs ws/\(Nt s k).g C ws st:=by
 unfold Nt;split
 ·rename_i v e
  split
  ·rename_i w p hn
   rw [<- hs.2.2.2.2.1] at hn;obtain ⟨a,h1,h2⟩:=s9.get hs.2.2.1 e;obtain ⟨m,h3,h4,h5⟩:=BQ hn h2;obtain ⟨g1,g2,g3⟩:=SS.mono (Le.app vs [m]) hs;refine ⟨vs++[m],Le.app _ _,g1,g2,?_,hs.2.2.2.1,hs.2.2.2.2.add h3 h4⟩;have:=s9.set g3 k h5
   rwa [X5 h1] at this
  ·exact ⟨vs,Le.refl _,hs⟩
 ·exact ⟨vs,Le.refl _,hs⟩
theorem Rj (hs:s.g C vs st)(id off:Nat):∃ ws,Le vs ws/\(Ns s id off).g C ws st:=by
 unfold Ns;split
 ·rename_i p l e
  split
  ·rename_i v e2
   split
   ·rename_i w q hn
    rw [<- hs.2.2.2.2.1] at hn;obtain ⟨o,h1,h2⟩:=F2.get hs.2.1 e;obtain ⟨cs,rfl,h3,h4⟩:=h2;obtain ⟨a,h5,h6⟩:=s9.get h3 e2;obtain ⟨m,h7,h8,h9⟩:=BQ hn h6;obtain ⟨g1,g2,g3⟩:=SS.mono (Le.app vs [m]) hs;refine ⟨vs++[m],Le.app _ _,g1,?_,g3,hs.2.2.2.1,hs.2.2.2.2.add h7 h8⟩;have e3:SO.g C (vs++[m]) (.cells p (l.set off w)) (.cells cs):=by
     refine ⟨cs,rfl,?_,h4⟩;have:=s9.set (s9.N4 (Le.app vs [m]) _ h3) off h9
     rwa [X5 h5] at this
    have:=F2.set g2 id e3
    rwa [X5 h1] at this
   ·exact ⟨vs,Le.refl _,hs⟩
  ·exact ⟨vs,Le.refl _,hs⟩
 ·exact ⟨vs,Le.refl _,hs⟩
end
end Go.z7.Sh


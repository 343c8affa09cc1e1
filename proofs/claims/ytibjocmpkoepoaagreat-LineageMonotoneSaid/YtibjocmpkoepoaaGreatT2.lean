import Derived.Test.YtibjocmpkoepoaaGreatT0
set_option linter.all false
open Bool renaming and_eq_true → c9, false_eq_true → j5, not_eq_false' → O1, not_eq_true' → o8, not_false → M0, or_eq_false_iff → E6, or_eq_true → L5
open List renaming all_eq_true → L1, length_map → A1, map_cons → E0, mem_append_left → M1, mem_cons → y7, mem_map → L6, mem_singleton → s6, replicate → j4, take_of_length_le → A8
open Nat renaming beq → s7, eq_of_beq_eq_true → j7, le_of_ble_eq_true → k9, lt_or_ge → s5, zero_le → N6
namespace Go.Proofs.YtibjocmpkoepoaaGreat
open Go.Abs Go.Abs.S
attribute [local irreducible] Rx Ry Rn Ex Pf
def Bb {e:List Y4}{ty:List Int}(h:u0 (H7 e ty).2 0=true):good (H7 e ty).1:=by
 unfold H7 at h ⊢;split at h
 .simp [o9] at h
 .rename_i a ha
  split at h
  .rename_i xU
   rw [if_pos xU];have hwf:a.wf:=by
    unfold fO at ha;split at ha
    .split at ha
     .rename_i b hb
      cases ha;exact (S7 16 _ _ _ hb).2.1
     .cases ha
    .cases ha
   exact Jj xU a hwf h
  .simp [o9] at h
theorem Zq {c:y4}{n:Nat}:∀ (k i:Nat),fR c n k i=0->∀ j,i<=j->j<i+k->cz c n j=0
 |0,i,_,j,h1,h2=>by omega
 |k+1,i,h,j,h1,h2=>by
  unfold fR at h;cases he:u0 (cz c n i) 0 with
  |false =>
   rw [he] at h;simp only [M0,if_true] at h;simp [o9,h] at he
  |true =>
   rw [he] at h;simp only [Bool.not_true,j5,if_false] at h
   by_cases hj:j=i
   .subst hj;exact bz he
   .exact Zq k (i+1) h j (by omega) (by omega)
def Vu {c:y4}{k:Nat}(h:fM c k=0):1<=(nth c.o7 k).p8.length/\(nth c.o7 k).p8.length<=8/\∀ x,x ∈ (nth c.o7 k).p8->good x.type:=by
 unfold fM at h;cases hc:(!A4 (nth c.o7 k).p8.length 1 8|| !A4 (nth c.o7 k).erase 0 1|| !A4 (nth c.o7 k).aH 0 1048576) with
 |true=>rw [hc] at h;simp at h
 |false =>
  rw [hc] at h;simp only [j5,if_false] at h;simp only [E6,O1,A4,c9,y3,decide_eq_true_eq] at hc;refine ⟨by omega,by omega,fun x hx=> ?_⟩;obtain ⟨j,hj,rfl⟩:=List.getElem_of_mem hx;have h1:=Zq _ _ h j (by omega) (by omega);rw [<- J9 hj];unfold cz at h1
  by_cases hg:good (nth (nth c.o7 k).p8 j).type
  .exact hg
  .exfalso
   have ht:(!u0 (nth (nth c.o7 k).p8 j).type 1&& !u0 (nth (nth c.o7 k).p8 j).type 2)=true:=by
    unfold good at hg;simp only [o9,c9,o8,beq_eq_false_iff_ne];exact ⟨fun e=>hg (.inl e),fun e=>hg (.inr e)⟩
   rw [ht] at h1;split at h1
   .omega
   .split at h1
    .omega
    .split at h1
     .omega
     .simp at h1
theorem rA {ty:List Int}:∀ (l:List yy) (seen:List L0),V7 ty seen l=0->∀ e,e ∈ l->(e.agg&&u0 e.f 0)=true\/u0 (H7 e.expr ty).2 0=true
 |[],_,_,e,he=>by cases he
 |a::l,seen,h,e,he=>by
  unfold V7 at h;split at h
  .omega
  .split at h
   .omega
   .split at h
    .omega
    .split at h
     .rename_i h0
      rcases y7.1 he with rfl|he
      .exact .inl h0
      .exact rA l _ h e he
     .split at h
      .rename_i h1
       rw [h] at h1;simp [o9] at h1
      .rename_i h1
       split at h
       .omega
       .rcases y7.1 he with rfl|he
        .exact .inr (by simpa using h1)
        .exact rA l _ h e he
theorem iu {c:y4}(hv:N9 c=true):∀ (n k:Nat),k<n->k<y4.ns c->1<=(R3 c k).length/\(R3 c k).length<=8/\∀ x,x ∈ R3 c k->good x
 |0,k,h,_=>by omega
 |n+1,k,h,hk=>by
  obtain ⟨h1,_,h3⟩:=Bj hv;have ek:y4.ns c=c.o7.length+c.views.length:=rfl;have hnl:=bk c;have he:=h1 k (by omega)
  rcases s5 k c.o7.length with ht|ht
  .obtain ⟨a1,a2,a3⟩:=Vu (iw he ht)
   have e:R3 c k=(nth c.o7 k).p8.map aJ.type:=by unfold R3 gy;rw [if_pos ht]
   rw [e];refine ⟨by simpa using a1,by simpa using a2,fun x hx=> ?_⟩;obtain ⟨y,hy,rfl⟩:=L6.1 hx;exact a3 y hy
  .have qE:=iO he ht hk
   unfold W0 at qE;split at qE
   .omega
   .split at qE
    .omega
    .rename_i hl
     split at qE
     .omega
     .rename_i hsh
      simp only [Bool.not_eq_true,O1,o8,Bool.not_eq_false] at hsh;have hf:=M6 c (W9 c k).left k;split at qE
      .rename_i h2
       have e:R3 c k=R3 c (H9 c (W9 c k).left k).toNat:=by
        have h0:0<=H9 c (W9 c k).left k:=by
         simp only [L5,z8,decide_eq_true_eq,not_or] at hl;omega
        conv=>lhs;unfold R3 gy
        rw [if_neg (by omega),show (nth c.views (k - c.o7.length))=W9 c k from rfl,if_pos h2,V1 c (by omega)]
       have h0:0<=H9 c (W9 c k).left k:=by
        simp only [L5,z8,decide_eq_true_eq,not_or] at hl;omega
       rw [e];exact iu hv n _ (by omega) (by omega)
      .rename_i h2
       split at qE
       .rename_i hp
        rw [qE] at hp;simp [o9] at hp
       .split at qE
        .rename_i hw
         rw [qE] at hw;simp [o9] at hw
        .split at qE
         .omega
         .have e:R3 c k=W8 (W9 c k) (ins c k):=by
           unfold R3 gy;rw [if_neg (by omega),show (nth c.views (k - c.o7.length))=W9 c k from rfl,if_neg h2];rfl
          have hlen:1<=(W9 c k).items.length+(W9 c k).D2.length/\(W9 c k).items.length+(W9 c k).D2.length<=8:=by
           unfold bP jU at hsh;rw [if_neg h2] at hsh;split at hsh<;>simp only [c9,o8,E6,o9,beq_eq_false_iff_ne,y3,decide_eq_true_eq] at hsh<;>omega
          have hg:=rA _ _ qE;rw [e];refine ⟨by simp [W8];omega,by simp [W8];omega,fun x hx=> ?_⟩;simp only [W8,List.mem_append,L6] at hx
          rcases hx with ⟨y,hy,rfl⟩|⟨y,hy,rfl⟩
          .rcases hg ⟨false,y.name, -1,y.expr⟩ (M1 _ (L6.2 ⟨y,hy,rfl⟩)) with h|h
           .simp at h
           .exact Bb h
          .unfold su
           split
           .exact .inl rfl
           .rename_i h0
            rcases hg ⟨true,y.name,y.func,y.expr⟩ (List.mem_append_right _ (L6.2 ⟨y,hy,rfl⟩)) with h|h
            .simp only [Bool.true_and] at h
             rw [h] at h0;simp at h0
            .exact Bb h
theorem Hy {s:L0}:∀ (l:List L0) (i:Nat),s ∈ l->(i:Int)<=J2 s l i/\J2 s l i<i+l.length
 |[],_,h=>by cases h
 |x::r,i,h=>by
  simp only [J2];split
  .simp;omega
  .rename_i hx
   rcases y7.1 h with rfl|h
   .simp [F8] at hx
   .have:=Hy r (i+1) h
    simp at this ⊢;omega
def Xr {c:y4}(hv:N9 c=true){s:L0}(h:s ∈ y4.sn c):∃ i:Nat,zx c s=(i:Int)/\i<y4.ns c:=by
 have hl:=jV c;have h1:=Hy (y4.sn c) 0 h;have e:zx c s=J2 s (y4.sn c) 0:=by
  unfold zx H9;rw [hv,if_pos rfl,A8 (by omega)]
 rw [e];refine ⟨(J2 s (y4.sn c) 0).toNat,by omega,by omega⟩
def TK {c:y4}(hv:N9 c=true){i:Nat}(hi:i<y4.ns c):bJ c i=true:=by
 unfold bJ;rw [hv];simp [y3,z8];omega
end Go.Proofs.YtibjocmpkoepoaaGreat
namespace Go.Abs.Sh
mutual
def SD.np:SD->Bool
 | .slice _ _ _ row=>K7.np row
 | .pr _ _=>false
 |_=>true
def K7.np:List SD->Bool
 |[]=>true
 |x::xs=>x.np&&K7.np xs
end
mutual
theorem SD.cx {C C' :Ctx}{vs:List Nat}:∀ (x:SD) {d:Data},x.np=true->x.g C vs d->x.g C' vs d
 | .top,_,_,_=>by simp [SD.g]
 | .lit _,_,_,h=>by simp_all [SD.g]
 | .bool _,_,_,h=>by simp_all [SD.g]
 | .int ..,_,_,h=>by simp_all [SD.g]
 | .anyI _,_,_,h=>by simp_all [SD.g]
 | .str _,_,_,h=>by simp_all [SD.g]
 | .slice v lo hi row,_,hp,h=>by
  obtain ⟨rows,h1,h2,h3,h4,h5⟩:=h;exact ⟨rows,h1,h2,h3,h4,fun r hr=>K7.cx row hp (h5 r hr)⟩
 | .pr _ _,_,hp,_=>by simp [SD.np] at hp
theorem K7.cx {C C' :Ctx}{vs:List Nat}:∀ (x:List SD) {d:List Data},K7.np x=true->K7.g C vs x d->K7.g C' vs x d
 |[],_,_,h=>by simp_all [K7.g]
 |x::xs,_,hp,h=>by
  simp [K7.np,c9] at hp;obtain ⟨d,ds,h1,h2,h3⟩:=h;exact ⟨d,ds,h1,SD.cx x hp.1 h2,K7.cx xs hp.2 h3⟩
end
end Go.Abs.Sh
namespace Go.Proofs.YtibjocmpkoepoaaGreat
open Go.Abs Go.Abs.S Go.Abs.Sh
attribute [local irreducible] Rx Ry Rn Ex Pf
variable [Inhabited xy]
def pS:SD:= .pr 0 (.str 2)
def rV1:List SD:=[.str 2,iR 0 2,.str 2,.str 2,.slice none 0 1 [iR 0 23,iR 0 23],.slice none 0 13 rTm,.slice none 0 3 [.str 2,.slice none 1 4 rTm],.bool .uv,.slice none 0 3 [.str 2,iR 0 4,.slice none 0 4 rTm]]
def r2:List SD:=[.str 2,.str 2,iR 0 2]
def r3:List SD:=[.str 2,.str 2,iR 0 2,iR 0 2,iR 0 16,iR 0 3]
def r4:List SD:=[.str 2,.str 2,iR 0 2,iR 0 9]
def r5:List SD:=[.str 2,.str 2,iR 0 3]
def r6:List SD:=[.str 2,.str 2]
def r7:List SD:=[.str 2,.slice none 0 1 [.str 2],iR 0 30]
def e1 (r:List SD):SD:= .slice none 0 0 r
def rB (n:Nat):List SD:=[.slice none 1 3 Yt,.slice none 0 n rV1,e1 r2,e1 r3,e1 r4,e1 r5,e1 r6,e1 r7]
def cG (n:Nat):SV:= .agg (some 1) [.d (.slice none 1 3 [pS,.slice none 2 4 rC4,iR 0 1,iR 0 40]),.d (.slice none 0 n rV1),.d (e1 r2),.d (e1 r3),.d (e1 r4),.d (e1 r5),.d (e1 r6),.d (e1 r7)]
def vwV:SV:= .agg none (rV1.map .d)
def s76:Sh.Spec:=⟨38,[.ptr 0 0,cG 4,.d (.slice none 1 7 [pS])],[.pr 0],l1,[(vwV,[.pr 0])]⟩
def isD:SV->Bool
 | .d _=>true
 |_=>false
def ao6:Sh.Sem:=fun _ f args H l=>match args,H with
 |[.agg (some 1) c,.d (.pr k (.str m))],[]=>if s7 f 86&&s7 k 0&&sX l l0&&c.all isD then some [(.d (.pr 1 (iR 0 2000)),[])] else none
 |[.agg (some 1) c,.d (.pr k (.int _ _ _ _))],[]=>if s7 f 20&&s7 k 1&&sX l l0&&c.all isD then some [(.d (.slice none 1 8 [iR 1 2]),[])] else none
 |_,_=>none
theorem Sf {C:Ctx}{vs:List Nat}:∀ {l:List SV} {cs:List j3},y5.g C vs l cs->l.all isD=true->cs.map j3.I7=cs
 |[],_,h,_=>by simp_all [inferInstance,y5.g]
 |x::xs,_,h,hd=>by
  obtain ⟨a,b,rfl,h1,h2⟩:=h;simp only [List.all_cons,c9] at hd;cases x<;>simp only [isD,j5,false_and] at hd;obtain ⟨d,rfl,_⟩:=aP h1;simp [E0,j3.I7];rw [Sf h2 hd.2]
def zM {l:F2}(h:sX l l0=true):l=Y8:=by
 simp only [sX,c9] at h;have e1:=j7 h.1.1.1;have e2:=j7 h.1.1.2;have e3:=j7 h.1.2;have e4:=j7 h.2;cases l;subst e1 e2 e3 e4;rfl
def UD {f:FuncId}{args:List j3}{v:j3}{P:j3->q8->Prop}(h:Pf A f args v)(hP:P v []):Pq A f args [] Y8 P:=have _:Inhabited xy:=inferInstance;⟨v,[],hP,by unfold Pf at h;exact h⟩
def YF (xs:List Int){g:y4}(hs:Q2 g)(hv:N9 g=true):gR (dx xs g) A ao6:=by
 intro B f args H l outs h vs hB az Hc ha hH;have ek:y4.ns g<=1000+1000:=by obtain ⟨f0,f1,_⟩:=hs.sm.qA;grind [y4.ns]
 unfold ao6 at h;split at h
 .split at h
  .rename_i hc
   simp only [c9] at hc;obtain ⟨⟨⟨c1,c2⟩,c3⟩,c4⟩:=hc;have c1:=j7 c1;have c2:=j7 c2;subst c1 c2;cases h;rw [zM c3];obtain ⟨a0,_,rfl,h0,a1,_,rfl,h1,rfl⟩:=ha;subst hH;obtain ⟨cs,rfl,h2,h3⟩:=h0;have h4:cs.map j3.I7=g.enc.map .d:=h3 1 rfl;rw [Sf h2 c4] at h4;subst h4;obtain ⟨d,rfl,h5⟩:=aP h1;obtain ⟨s,rfl,hm⟩:=h5.1;obtain ⟨i,e,hi⟩:=Xr hv hm;have p:=aY4 g hs s;rw [e] at p;refine UD p ⟨_,s6.2 rfl,bZ ?_,by rfl⟩;exact ⟨⟨i,rfl,hi⟩,(i:Int),rfl,by omega,by omega,trivial⟩
  .cases h
 .split at h
  .rename_i hc
   simp only [c9] at hc;obtain ⟨⟨⟨c1,c2⟩,c3⟩,c4⟩:=hc;have c1:=j7 c1;have c2:=j7 c2;subst c1 c2;cases h;rw [zM c3];obtain ⟨a0,_,rfl,h0,a1,_,rfl,h1,rfl⟩:=ha;subst hH;obtain ⟨cs,rfl,h2,h3⟩:=h0;have h4:cs.map j3.I7=g.enc.map .d:=h3 1 rfl;rw [Sf h2 c4] at h4;subst h4;obtain ⟨d,rfl,h5⟩:=aP h1;obtain ⟨i,rfl,hi⟩:=h5.1;have p:=aE2 g hs i (TK hv hi);obtain ⟨g1,g2,g3⟩:=iu hv (i+1) i (by omega) hi;refine UD p ⟨_,s6.2 rfl,bZ ?_,by rfl⟩;refine ⟨(R3 g i).map fun t=>[num t],?_,by simp_all,by simp_all,(fun i h=>by cases h),fun r hr=> ?_⟩
   .simp [A1]
    congr 1
   .obtain ⟨t,ht,rfl⟩:=L6.1 hr
    refine ⟨num t,[],rfl,⟨t,rfl,?_,?_,trivial⟩,rfl⟩
    .rcases g3 t ht with h|h<;>omega
    .rcases g3 t ht with h|h<;>omega
  .cases h
 .cases h
theorem chunk {α:Type}{enc:α->List Abs.Data}{sz:Nat}(hs:∀ a,(enc a).length=sz):∀ (rows:List (List Abs.Data)) (l:List α),rows.length=l.length->(∀ r,r ∈ rows->r.length=sz)->rows.flatten=l.flatMap enc->rows=l.map enc
 |[],[],_,_,_=>rfl
 |[],_::_,h,_,_=>by simp_all
 |_::_,[],h,_,_=>by simp at h
 |r::rows,a::l,h,hr,e=>by
  have h1:=List.append_inj e (by simp_all);rw [h1.1,chunk hs rows l (by simpa using h) (fun r hr' =>hr r (by simp [hr'])) h1.2];rfl
section
variable {C:Ctx} {vs:List Nat} {α:Type} {enc:α->List Abs.Data}
def FF {v:Option Nat}{lo hi:Nat}{row:List SD}{l:List α}(h:(SD.slice v lo hi row).g C vs (A5 enc l))(hs:∀ a,(enc a).length=row.length:=by intro;rfl):lo<=l.length/\l.length<=hi/\∀ a,a ∈ l->K7.g C vs row (enc a):=by
 obtain ⟨rows,h1,h2,h3,_,h5⟩:=h;injection h1 with e1 e2
 have:=chunk hs rows l e1.symm (fun r hr=>K7.len (h5 r hr)) e2.symm
 grind
def LL {lo hi:Nat}{row:List SD}{l:List α}(h1:lo<=l.length)(h2:l.length<=hi)(h3:∀ a,a ∈ l->K7.g C vs row (enc a)):(SD.slice none lo hi row).g C vs (A5 enc l):=by
 simp_all [inferInstance,SD.g,A5,List.flatMap]<;>grind
end
structure Bt (n:Nat)(c:y4):Prop where
 sh:∀ C vs,K7.g C vs (rB n) c.enc
 val:N9 c=true
 sm:Q2 c
def Bt.of {C:Ctx}{vs:List Nat}{n:Nat}{c:y4}(h:K7.g C vs (rB n) c.enc)(hp:K7.np (rB n)=true)(hc:K7.cl (rB n)=true)(hv:N9 c=true)(hs:Q2 c):Bt n c:=have _:Inhabited xy:=inferInstance;⟨fun _ _=>K7.dm _ hc (K7.cx _ hp h),hv,hs⟩
def an3 (n:Nat):K7.np (rB n)=true:=by rfl
def an2 (n:Nat):K7.cl (rB n)=true:=by rfl
section
variable {n:Nat} {c:y4} (h:Bt n c)
include h
theorem Bt.o7:1<=c.o7.length/\c.o7.length<=3/\∀ C vs a,a ∈ c.o7->K7.g C vs Yt a.enc:=by
 have h1:∀ C vs,(SD.slice none 1 3 Yt).g C vs (A5 mH.enc c.o7):=fun C vs=>by
  have:=h.sh C vs
  grind [rB,y4.enc,sc]
 have h2:=FF (h1 (dx [] c) []);exact ⟨h2.1,h2.2.1,fun C vs a ha=>(FF (h1 C vs)).2.2 a ha⟩
theorem Bt.views:c.views.length<=n/\∀ C vs a,a ∈ c.views->K7.g C vs rV1 a.enc:=by
 have h1:∀ C vs,(SD.slice none 0 n rV1).g C vs (A5 Vw.enc c.views):=fun C vs=>by
  have:=h.sh C vs
  grind [rB,y4.enc,sc]
 have h2:=FF (h1 (dx [] c) []);exact ⟨h2.2.1,fun C vs a ha=>(FF (h1 C vs)).2.2 a ha⟩
end
def YG:Sh.Sem:=fun _ f args H l=>match args,H with
 |[.agg (some 1) c],[]=>if s7 f 39&&sX l l0&&c.all isD then some [(.d (.slice none 1 7 [pS]),[])] else none
 |_,_=>none
def aY3 (c:y4)(hf:c.qA):Pf A 39 [cat c] (.d (A5 encS (y4.sn c))):=by
 have _:Inhabited xy:=inferInstance;obtain ⟨f0,f1,_⟩:=hf;refine Pf.run [cat c,.any,.any,.any,.any,.any] rfl rfl rfl rfl ?_;refine gr ?_;refine Ex.N5 (fun k T H=>∃ (i:Nat) (acc:List L0) (v0 v2 w5:j3),T=[v0,.ptr 0 0,v2,C9 1 encS acc,.d (num i),w5]/\H=[.cells (c.enc.map .d)]/\i+k=c.o7.length/\acc=(c.o7.take i).map mH.name) (by simp_all) ?_ (k:=c.o7.length) ⟨0,[],_,_,_,rfl,rfl,by simp,by simp⟩;rintro k _ _ ⟨i,acc,v0,v2,w5,rfl,rfl,hk,hacc⟩;have hl:acc.length=i:=by grind
 refine Ex.nT ?_
 repeat' (first|refine gx ?_|refine Ex.O6 ?_|refine Ex.O8 ?_|refine Ex.cond rfl (fun ht=> ?_) (fun ht=> ?_)|refine Ex.test (Rn.text ?_)|refine Ex.test (Rn.draw ?_)|refine ⟨_,rfl,fun ht=> ?_,fun ht=> ?_⟩|refine ⟨_,rfl,?_⟩|fail)
 .have h1:=C6 ht
  refine ⟨k - 1,by omega,i+1,acc++[(nth c.o7 i).name],_,_,_,rfl,rfl,by omega,?_⟩;simp_all [K3]
 have h1:=C5 ht;rw [A8 (by omega)] at hacc;clear ht h1 hk hl;subst hacc;refine Ex.N5 (fun k T H=>∃ (i:Nat) (acc:List L0) (v0 v2 w4:j3),T=[v0,.ptr 0 0,v2,C9 1 encS acc,w4,.d (num i)]/\H=[.cells (c.enc.map .d)]/\i+k=c.views.length/\acc=c.o7.map mH.name++(c.views.take i).map Vw.name) (by simp_all) ?_ (k:=c.views.length) ⟨0,c.o7.map mH.name,_,_,_,rfl,rfl,by simp,by simp⟩;rintro k _ _ ⟨i,acc,v0,v2,w4,rfl,rfl,hk,hacc⟩;have hl:acc.length=c.o7.length+i:=by grind
 refine Ex.nT ?_
 repeat' (first|refine gx ?_|refine Ex.O6 ?_|refine Ex.O8 ?_|refine Ex.cond rfl (fun ht=> ?_) (fun ht=> ?_)|refine Ex.test (Rn.text ?_)|refine Ex.test (Rn.draw ?_)|refine ⟨_,rfl,fun ht=> ?_,fun ht=> ?_⟩|refine ⟨_,rfl,?_⟩|fail)
 .have h1:=C6 ht
  refine ⟨k - 1,by omega,i+1,acc++[(nth c.views i).name],_,_,_,rfl,rfl,by omega,?_⟩;simp_all [K3]
 have h1:=C5 ht;simp_all [A8,j9,A5,C9,y4.sn]
def Bt.name {n:Nat}{c:y4}(h:Bt n c){s:L0}(hs:s ∈ y4.sn c):s.length<=2:=by
 unfold y4.sn at hs
 rcases List.mem_append.1 hs with hs|hs
 .obtain ⟨t,ht,rfl⟩:=L6.1 hs
  have:=h.o7.2.2 (dx [] c) [] t ht;unfold Yt mH.enc at this;obtain ⟨x,y,e,h1,_⟩:=sc this;cases e;simp only [SD.g] at h1;obtain ⟨s,e,h2⟩:=h1;cases e;exact h2
 .obtain ⟨t,ht,rfl⟩:=L6.1 hs
  have:=h.views.2 (dx [] c) [] t ht;unfold rV1 Vw.enc at this;obtain ⟨x,y,e,h1,_⟩:=sc this;cases e;simp only [SD.g] at h1;obtain ⟨s,e,h2⟩:=h1;cases e;exact h2
def NX (xs:List Int){n:Nat}{g:y4}(hg:Bt n g)(hn:n<=4):gR (dx xs g) A YG:=by
 intro B f args H l outs h vs hB az Hc ha hH;unfold YG at h;split at h
 .rename_i c
  split at h
  .rename_i hc
   simp only [c9] at hc;obtain ⟨⟨c1,c3⟩,c4⟩:=hc;have c1:=j7 c1;subst c1;cases h;rw [zM c3];simp only [y5.g] at ha;obtain ⟨a0,_,rfl,h0,rfl⟩:=ha;simp only [K2.g] at hH;subst hH;simp only [SV.g] at h0;obtain ⟨cs,rfl,h2,h3⟩:=h0;have h4:cs.map j3.I7=g.enc.map .d:=h3 1 rfl;rw [Sf h2 c4] at h4;subst h4;have ht:=hg.o7;have hw:=hg.views;have hl:=jV g;have mK:y4.ns g=g.o7.length+g.views.length:=rfl;refine UD (aY3 g hg.sm.sm.qA) ⟨_,s6.2 rfl,bZ (LL (by omega) (by omega) fun s hs=> ?_),by simp only [K2.g]⟩;simp only [K7.g,SD.g,encS,pS];exact ⟨_,_,rfl,⟨⟨s,rfl,hs⟩,s,rfl,hg.name hs⟩,rfl⟩
  .cases h
 .cases h
def bb1 (l:List Sh.Spec):Sh.Sem:=Av (Av ao6 YG) (ao7 l)
section
variable {xs:List Int} (hx:xs.length<=35184372088832) {g:y4} {n:Nat} (hg:Bt n g) (hn:n<=4)
include hx hg hn
def YI {l:List Sh.Spec}(h:mY (dx xs g) l):gR (dx xs g) A (bb1 l):=ot (ot (YF xs hg.sm hg.val) (NX xs hg hn)) (FA hx h)
def o76:s76.ok (dx xs g) A :=
 Fy (kp:=[]) (js:=[]) (fuel:=40) (YI hx hg hn (.cons (o35 hx g) (.cons (aW7 hx g) (.cons (Ui hx g) (.cons (aB2 hx g) .nil))))) gl Hu rfl rfl (by kernel_rfl)
end
end Go.Proofs.YtibjocmpkoepoaaGreat
namespace Go.Proofs.YtibjocmpkoepoaaGreat
open Go.Abs Go.Abs.S Go.Abs.Sh
attribute [local irreducible] Rx Ry Rn Ex Pf
variable [Inhabited xy]
def ao8:Sh.Sem:=fun B f args H l=>match args,H with
 |[.ptr 0 0,.agg (some 1) c,.d ns],[.pr 0]=>if s7 f 38&&sX l l1&&c.all isD&&SD.le B ns (.slice none 1 7 [pS]) then some [(vwV,[.pr 0])] else none
 |_,_=>none
def Bt.shG {n:Nat}{c:y4}(h:Bt n c)(hn:n<=4)(xs:List Int)(vs:List Nat):(cG 4).g (dx xs c) vs (cat c):=by
 obtain ⟨a1,a2,a3⟩:=h.o7;obtain ⟨b1,b2⟩:=h.views;have hs:=h.sh (dx xs c) vs;unfold rB y4.enc at hs;obtain ⟨_,_,e,_,hs⟩:=sc hs;cases e;obtain ⟨_,_,e,_,hs⟩:=sc hs;cases e;have h1:(SD.slice none 1 3 [pS,.slice none 2 4 rC4,iR 0 1,iR 0 40]).g (dx xs c) vs (A5 mH.enc c.o7):=LL a1 a2 fun t ht=>by
  have:=a3 (dx xs c) vs t ht;unfold Yt mH.enc at this;obtain ⟨_,_,e,g1,g2⟩:=sc this;cases e;rw [mH.enc,K7.g];refine ⟨_,_,rfl,?_,g2⟩;simp only [pS,SD.g] at g1 ⊢;exact ⟨⟨t.name,rfl,by unfold y4.sn;exact M1 _ (L6.2 ⟨t,ht,rfl⟩)⟩,g1⟩
 have h2:(SD.slice none 0 4 rV1).g (dx xs c) vs (A5 Vw.enc c.views):=LL (N6 _) (by omega) fun t ht=>b2 (dx xs c) vs t ht
 have h3:K7.g (dx xs c) vs [.slice none 1 3 [pS,.slice none 2 4 rC4,iR 0 1,iR 0 40],.slice none 0 4 rV1,e1 r2,e1 r3,e1 r4,e1 r5,e1 r6,e1 r7] c.enc:=by
  rw [K7.g];refine ⟨_,_,rfl,h1,?_⟩;rw [K7.g];exact ⟨_,_,rfl,h2,hs⟩
 simp only [cG,SV.g];refine ⟨_,rfl,y5.QS h3,fun k hk=> ?_⟩;cases hk;show (c.enc.map j3.d).map j3.I7=c.enc.map j3.d
 rw [List.map_map];rfl
def YJ {xs:List Int}(hx:xs.length<=35184372088832){g:y4}{n:Nat}(hg:Bt n g)(hn:n<=4):gR (dx xs g) A ao8:=by
 intro B f args H l outs h vs hB az Hc ha hH;unfold ao8 at h;split at h
 .rename_i c ns
  split at h
  .rename_i hc
   simp only [c9] at hc;obtain ⟨⟨⟨c1,c3⟩,c4⟩,c5⟩:=hc;have c1:=j7 c1;subst c1;cases h;have hl:l=l1:=by
    simp only [sX,c9] at c3;have e1:=j7 c3.1.1.1;have e2:=j7 c3.1.1.2;have e3:=j7 c3.1.2;have e4:=j7 c3.2;cases l;simp only [l1] at e1 e2 e3 e4;subst e1 e2 e3 e4;rfl
   subst hl;simp only [y5.g] at ha;obtain ⟨a0,_,rfl,h0,a1,_,rfl,h1,a2,_,rfl,h2,rfl⟩:=ha;simp only [SV.g] at h1;obtain ⟨cs,rfl,h3,h4⟩:=h1;have h4:cs.map j3.I7=g.enc.map .d:=h4 1 rfl;rw [Sf h3 c4] at h4;subst h4;obtain ⟨d,rfl,h5⟩:=aP h2;have h6:=SD.cA hB _ c5 h5;obtain ⟨_,hk⟩:=o76 hx hg hn;obtain ⟨v,H1,⟨o,o1,o2,o3⟩,hm⟩:=hk [a0,cat g,.d d] Hc (by
    simp only [s76,y5.g];exact ⟨_,_,rfl,h0,_,_,rfl,hg.shG hn xs [],_,_,rfl,bZ (SD.dm _ (by rfl) h6),rfl⟩) (K2.dm _ (by rfl) hH)
   have:=s6.1 o1;subst this;exact ⟨v,H1,⟨_,s6.2 rfl,SV.dm _ (by rfl) o2,K2.dm _ (by rfl) o3⟩,hm⟩
  .cases h
 .cases h
def aH5:Sh.Sem:=Av (Av ao8 YG) yf
def YH {xs:List Int}(hx:xs.length<=35184372088832){g:y4}{n:Nat}(hg:Bt n g)(hn:n<=4):gR (dx xs g) A aH5:=ot (ot (YJ hx hg hn) (NX xs hg hn)) (Au xs hx g)
def vT (n i:Nat)(w:SV):List SV:=[.ptr 0 0,w,.d (.lit (.int .i64 n)),.ptr 1 0,.ptr 2 0,.d (.lit (.int .i64 i)),w]
def vH (t i:Nat):List SO:=[.pr 0,.cells (some t) ((rB i).map .d),zC]
def KT:s4:=match a13.body with
 | .seq _ (.seq (.seq _ (.block _ (.loop _ b))) _)=>b
 |_=> .bad
def Bk (n i:Nat):Bool:=match ct A aH5 Tw [] l1 1 40 KT ⟨vT n i .any,vH 1 i,[]⟩ with
 |some outs=>outs.all fun o=>match o.1 with
  | .normal=>Nat.blt i n&&y5.le qz o.2.B o.2.T (vT n (i+1) .top)&&(K2.le qz o.2.B (o.2.H.take 3) (vH 0 (i+1))||K2.le qz o.2.B (o.2.H.take 3) (vH 1 (i+1)))
  | .exit e=>s7 e 0&&s7 i n&&y5.le qz o.2.B o.2.T (vT n i .top)&&K2.le qz o.2.B o.2.H (vH 1 i)
  | .ret=>false
 |none=>false
def Oj:Bk 3 0=true/\Bk 3 1=true/\Bk 3 2=true/\Bk 3 3=true:=have _:Inhabited xy:=inferInstance;⟨by kernel_rfl,by kernel_rfl,by kernel_rfl,by kernel_rfl⟩
def Jn:Bk 4 0=true/\Bk 4 1=true/\Bk 4 2=true/\Bk 4 3=true/\Bk 4 4=true:=have _:Inhabited xy:=inferInstance;⟨by kernel_rfl,by kernel_rfl,by kernel_rfl,by kernel_rfl,by kernel_rfl⟩
def VF {n i:Nat}(hn:n=3\/n=4)(hi:i<=n):Bk n i=true:=by
 rcases hn with rfl|rfl
 .match i,hi with
  |0,_=>exact Oj.1
  |1,_=>exact Oj.2.1
  |2,_=>exact Oj.2.2.1
  |3,_=>exact Oj.2.2.2
 .match i,hi with
  |0,_=>exact Jn.1
  |1,_=>exact Jn.2.1
  |2,_=>exact Jn.2.2.1
  |3,_=>exact Jn.2.2.2.1
  |4,_=>exact Jn.2.2.2.2
def zO:x9:= .cells [.own 4 0 [],.own 9 0 [],.own 3 0 [],.own 6 0 [],.own 4 0 [],.own 3 0 [],.own 2 0 [],.own 3 0 []]
def ap9 (xs:List Int)(n:Nat)(k:Nat)(s:St):Prop:=∃ (i:Nat) (c:y4) (q:Nat) (w1 w6:j3) (tl:q8),i+k=n/\Bt i c/\q<=4 * xs.length/\s=⟨[.ptr 0 0,w1,.d (num (n:Int)),.ptr 1 0,.ptr 2 0,.d (num (i:Int)),w6],tp xs q:: .cells (c.enc.map .d)::zO::tl⟩
def wz {C:Ctx}{vs:List Nat}{n:Nat}{v:j3}(h:(De n).g C vs v):v= .own n 0 []:=by
 have _:Inhabited xy:=inferInstance;simp only [De,SV.g,SD.g] at h;obtain ⟨len,cells,rfl,e⟩:=h;cases e;rfl
def aJ1 {C:Ctx}{vs:List Nat}{o:x9}(h:zC.g C vs o):o=zO:=by
 obtain ⟨cs,rfl,h,_⟩:=h;simp only [y5.g] at h;obtain ⟨a0,_,rfl,h0,a1,_,rfl,h1,a2,_,rfl,h2,a3,_,rfl,h3,a4,_,rfl,h4,a5,_,rfl,h5,a6,_,rfl,h6,a7,_,rfl,h7,rfl⟩:=h;rw [wz h0,wz h1,wz h2,wz h3,wz h4,wz h5,wz h6,wz h7];rfl
def aJ0 {C:Ctx}{vs:List Nat}:zC.g C vs zO:=by
 have _:Inhabited xy:=inferInstance;refine ⟨_,rfl,?_,fun k h=>by cases h⟩;show y5.g C vs [De 4,De 9,De 3,De 6,De 4,De 3,De 2,De 3] [.own 4 0 [],.own 9 0 [],.own 3 0 [],.own 6 0 [],.own 4 0 [],.own 3 0 [],.own 2 0 [],.own 3 0 []]
 have o:∀ n,(De n).g C vs (.own n 0 []):=fun n=>by
  unfold De Sh.SV.g;exact ⟨0,[],rfl,by unfold Sh.SD.g;rfl⟩
 exact ⟨_,_,rfl,o 4,_,_,rfl,o 9,_,_,rfl,o 3,_,_,rfl,o 6,_,_,rfl,o 4,_,_,rfl,o 3,_,_,rfl,o 2,_,_,rfl,o 3,rfl⟩
def LI {C:Ctx}{vs:List Nat}{x:Abs.Data}{v:j3}(h:(SV.d (.lit x)).g C vs v):v= .d x:=by
 have _:Inhabited xy:=inferInstance;obtain ⟨d,rfl,h2⟩:=aP h;simp only [SD.g] at h2;rw [h2]
def Zo {xs:List Int}{g:y4}{vs:List Nat}{t i:Nat}{o:x9}(ht:t=0\/(t=1/\N9 g=true/\Q2 g))(h:(SO.cells (some t) ((rB i).map .d)).g (dx xs g) vs o):∃ c,o= .cells (c.enc.map .d)/\Bt i c:=by
 obtain ⟨cs,rfl,h1,h2⟩:=h;obtain ⟨ds,rfl,h3⟩:=Xo h1;have e:(ds.map j3.d).map j3.I7=ds.map j3.d:=by rw [List.map_map];rfl
 have inj:∀ {a b:List Abs.Data},a.map j3.d=b.map j3.d->a=b:=by
  intro a
  induction a with
  |nil=>intro b h;cases b with|nil=>rfl|cons=>simp at h
  |cons x a ih=>intro b h;cases b with|nil=>simp at h|cons y b=>simp at h;rw [h.1,ih (by simpa using h.2)]
 rcases ht with rfl|⟨rfl,hv,hs⟩
 .obtain ⟨c,h4,h5,h6⟩:=h2 0 rfl
  rw [e] at h4;have:=inj h4;subst this;exact ⟨c,rfl,Bt.of h3 (an3 i) (an2 i) h5 h6⟩
 .have h4:(ds.map j3.d).map j3.I7=g.enc.map .d:=h2 1 rfl
  rw [e] at h4;have:=inj h4;subst this;exact ⟨g,rfl,Bt.of h3 (an3 i) (an2 i) hv hs⟩
def s32 (n:Nat):Sh.Spec:=⟨13,[.ptr 0 0,Sk,.d (.lit (.int .i64 n))],[.pr 0],l1,[(.agg (some 0) ((rB n).map .d),[.pr 0])]⟩
section
variable {xs:List Int} (hx:xs.length<=35184372088832)
include hx
def pasZ (n:Nat)(hn:n=3\/n=4)(k:Nat)(s:St)(h:ap9 xs n k s):Ex A l1 1 KT (clean [true,false,true,true,true,true,false] 1 3 s) (zA (fun x s=>x= .exit 0/\∃ (c:y4) (q:Nat) (w1 w6:j3),Bt n c/\q<=4 * xs.length/\s=⟨[.ptr 0 0,w1,.d (num (n:Int)),.ptr 1 0,.ptr 2 0,.d (num (n:Int)),w6],[tp xs q,.cells (c.enc.map .d),zO]⟩) fun s' =>∃ k',k' <k/\ap9 xs n k' s'):=by
 obtain ⟨i,c,q,w1,w6,tl,hk,hc,hq,rfl⟩:=h;have hcl:clean [true,false,true,true,true,true,false] 1 3 ⟨[.ptr 0 0,w1,.d (num (n:Int)),.ptr 1 0,.ptr 2 0,.d (num (i:Int)),w6],tp xs q:: .cells (c.enc.map .d)::zO::tl⟩=⟨[.ptr 0 0,.any,.d (num (n:Int)),.ptr 1 0,.ptr 2 0,.d (num (i:Int)),.any],[tp xs q,.cells (c.enc.map .d),zO]⟩:=by
  unfold clean;rw [if_pos ⟨Nat.le_of_eq rfl,N6 _⟩];rfl
 rw [hcl];have hv:=VF (n:=n) (i:=i) hn (by omega);unfold Bk at hv;split at hv
 .rename_i outs hx2
  have h0:CS.g (dx xs c) [] ⟨vT n i .any,vH 1 i,[]⟩ ⟨[.ptr 0 0,.any,.d (num (n:Int)),.ptr 1 0,.ptr 2 0,.d (num (i:Int)),.any],[tp xs q,.cells (c.enc.map .d),zO]⟩:=by
   refine ⟨by simp [vT,y5.g,SV.g,SD.g,num],?_,rfl,fun i lo hi h=>by simp at h⟩;simp only [vH,K2.g];refine ⟨_,_,rfl,⟨q,hq,rfl⟩,_,_,rfl,⟨_,rfl,y5.QS (hc.sh _ _),fun k hk=> ?_⟩,_,_,rfl,aJ0,rfl⟩;cases hk;show (c.enc.map j3.d).map j3.I7=c.enc.map j3.d
   rw [List.map_map];rfl
  refine (fU (YH hx hc (by omega)) (Hv xs c l1 1) KT h0 hx2).mono ?_;rintro x st ⟨o,o1,rfl,ws,_,g1,g2,g3⟩;have hv:=L1.1 hv o o1;have hT:∀ {j:Nat},y5.le qz o.2.B o.2.T (vT n j .top)=true->∃ u1 u6,st.T=[.ptr 0 0,u1,.d (num (n:Int)),.ptr 1 0,.ptr 2 0,.d (num (j:Int)),u6]:=fun {j} h=>by
   have:=y5.cA g3 gl (C:=dx xs c) _ h g1;simp only [vT,y5.g] at this;obtain ⟨a0,_,e,h0,a1,_,rfl,_,a2,_,rfl,h2,a3,_,rfl,h3,a4,_,rfl,h4,a5,_,rfl,h5,a6,_,rfl,_,rfl⟩:=this;rw [e,bu h0,LI h2,bu h3,bu h4,LI h5];exact ⟨a1,a6,rfl⟩
  have hH:∀ {t j:Nat} {H:q8},t=0\/t=1->K2.g (dx xs c) ws (vH t j) H->∃ c' q',Bt j c' /\q' <=4 * xs.length/\H=[tp xs q',.cells (c'.enc.map .d),zO]:=fun {t j H} ht h=>by
   simp only [vH,K2.g] at h;obtain ⟨a0,_,rfl,⟨q',hq',rfl⟩,a1,_,rfl,h1,a2,_,rfl,h2,rfl⟩:=h;obtain ⟨c',rfl,h3⟩:=Zo (ht.imp id fun e=>⟨e,hc.val,hc.sm⟩) h1;rw [aJ1 h2];exact ⟨c',q',h3,hq',rfl⟩
  cases he:o.1 with
  |ret=>rw [he] at hv;cases hv
  |normal =>
   rw [he] at hv;simp only [c9,L5] at hv;obtain ⟨⟨v1,v2⟩,v3⟩:=hv;have v1:i<n:=k9 v1;obtain ⟨u1,u6,eT⟩:=hT v2;have hH3:∃ t,(t=0\/t=1)/\K2.g (dx xs c) ws (vH t (i+1)) (st.H.take 3):=by
    rcases v3 with v3|v3
    .exact ⟨0,.inl rfl,K2.cA g3 gl v3 (K2.take g2 3)⟩
    .exact ⟨1,.inr rfl,K2.cA g3 gl v3 (K2.take g2 3)⟩
   obtain ⟨t,ht,h4⟩:=hH3;obtain ⟨c',q',h5,h6,h7⟩:=hH ht h4;refine ⟨k - 1,by omega,i+1,c',q',u1,u6,st.H.drop 3,by omega,h5,h6,?_⟩;have e:st.H=st.H.take 3++st.H.drop 3:=(List.take_append_drop 3 st.H).symm;cases st;simp only at eT e h7;rw [h7] at e;rw [eT,e];simp
  |exit e =>
   rw [he] at hv;simp only [c9] at hv;obtain ⟨⟨⟨v1,v2⟩,v3⟩,v4⟩:=hv;have v1:=j7 v1;have v2:=j7 v2;subst v1 v2;obtain ⟨u1,u6,eT⟩:=hT v3;obtain ⟨c',q',h5,h6,h7⟩:=hH (.inr rfl) (K2.cA g3 gl v4 g2);refine ⟨rfl,c',q',u1,u6,h5,h6,?_⟩;cases st;simp only at eT h7;rw [eT,h7]
 .cases hv
def o32 (g:y4)(n:Nat)(hn:n=3\/n=4):(s32 n).ok (dx xs g) A:=by
 refine ⟨by rcases hn with rfl|rfl<;>kernel_rfl,fun az Hc ha hH=> ?_⟩;simp only [s32,y5.g] at ha;obtain ⟨a0,_,rfl,h0,a1,_,rfl,h1,a2,_,rfl,h2,rfl⟩:=ha;simp only [s32,K2.g] at hH;obtain ⟨_,_,rfl,⟨q,hq,rfl⟩,rfl⟩:=hH;have h0:=bu h0;have h2:=LI h2;subst h0 h2;have hB:Bg [] []:=⟨rfl,fun i lo hi h=>by simp at h⟩;simp only [Sk,SV.g] at h1;obtain ⟨cs,rfl,h3,h4⟩:=h1;have h5:y5.g (dx xs g) [] ((rB 0).map .d) cs:=y5.cA hB (fact:=qz) gl _ (by kernel_rfl) h3;obtain ⟨c,e,hc⟩:=Zo (xs:=xs) (g:=g) (vs:=[]) (t:=0) (i:=0) (o:= .cells cs) (.inl rfl) ⟨cs,rfl,h5,h4⟩;cases e;refine Pq.run (b:=1) [.ptr 0 0,cat c,.d (num (n:Int)),.any,.any,.any,.any] rfl rfl rfl rfl rfl ?_;unfold tp;refine gr ?_;refine Ex.loop (ap9 xs n) (fun k s hs=>(pasZ hx n hn k s hs).mono ?_) (k:=n) ⟨0,c,q,_,_,[],by omega,hc,hq,rfl⟩;rintro x s h;cases x with
 |normal=>exact h
 |ret=>exact absurd h.1 (by simp)
 |exit e =>
  obtain ⟨e,c',q',w1,w6,h5,h6,rfl⟩:=h;cases e;unfold tp zO;show Ex _ _ _ _ _ _
  refine gr ?_;refine ⟨_,_,rfl,_,s6.2 rfl,?_,?_⟩
  .simp only [SV.g]
   refine ⟨_,rfl,y5.QS (h5.sh _ _),fun k hk=> ?_⟩;cases hk;exact ⟨c',rfl,h5.val,h5.sm⟩
  .simp only [K2.g]
   exact ⟨_,_,rfl,⟨q',h6,rfl⟩,rfl⟩
end
end Go.Proofs.YtibjocmpkoepoaaGreat
namespace Go.Proofs.YtibjocmpkoepoaaGreat
open Go.Abs Go.Abs.S Go.Abs.Sh
attribute [local irreducible] Rx Ry Rn Ex Pf
section
variable [Inhabited xy]
def ba2 (xs:List Int)(h:xs.length<=17592186043904):Pq A 12 [.d (ints xs)] [] Y8 fun v H1=>v= .ptr 0 0/\H1=[tp xs 0]:=by
 have _:Inhabited xy:=inferInstance;refine Pq.run (b:=0) [.d (ints xs),.any] rfl rfl rfl rfl rfl ?_;have e:ints xs=A5 (fun n=>[num n]) xs:=by simp [ints,A5,List.flatMap_singleton']
 rw [e];refine gr ?_;refine Ry.pure (v:= .own 1 0 []) (rs:=[]) rfl (by rfl) ?_;refine gr ?_;exact ⟨_,_,rfl,rfl,by simp [splice,tp,rq,opw,lk];exact ⟨rfl,rfl⟩⟩
end
def noC:y4:=⟨[],[],[],[],[],[],[],[]⟩
def av4 {xs:List Int}{g:y4}{vs:List Nat}{l:List SD}{v:j3}(h:(SV.agg (some 0) (l.map .d)).g (dx xs g) vs v):∃ c,v=cat c/\N9 c=true/\Q2 c/\K7.g (dx xs g) vs l c.enc:=by
 simp only [Sh.SV.g] at h;obtain ⟨cs,rfl,h0,h⟩:=h;obtain ⟨ds,rfl,h3⟩:=Xo h0;obtain ⟨c,hc,h1,h2⟩:=h 0 rfl;have e:(ds.map j3.d).map j3.I7=ds.map j3.d:=by simp [j3.I7]
 rw [e] at hc;have e2:ds=c.enc:=(List.map_inj_right (fun _ _ h=>by cases h;rfl)).1 hc;subst e2;exact ⟨c,rfl,h1,h2,h3⟩
def ae4 {xs:List Int}(hx:xs.length<=17592186043904){n:Nat}(hn:n=3\/n=4):∃ (c0 c:y4) (q0 q:Nat),Bt n c/\Pm A 12 [.d (ints xs)] [] Y8 (.ptr 0 0) [tp xs 0]/\Pm A 14 [.ptr 0 0,.d (num 3)] [tp xs 0] l1 (cat c0) [tp xs q0] /\
  Pm A 13 [.ptr 0 0,cat c0,.d (num (n:Int))] [tp xs q0] l1 (cat c) [tp xs q]/\q<=4 * xs.length:=by
 obtain ⟨v,H1,⟨rfl,rfl⟩,p12⟩:=ba2 xs hx;obtain ⟨v,H1,⟨o,o1,o2,o3⟩,p14⟩:=(o33 (by omega) noC:(s33 3).ok (dx xs noC) A).2 [.ptr 0 0,.d (num 3)] [tp xs 0] (by
  simp only [s33,Sh.y5.g];exact ⟨_,_,rfl,rfl,_,_,rfl,bZ (by simp only [Sh.SD.g];rfl),rfl⟩) (by
  simp only [s33,Sh.K2.g];exact ⟨_,_,rfl,⟨0,N6 _,rfl⟩,rfl⟩)
 have:=s6.1 o1;subst this;simp only [Sh.K2.g] at o3;obtain ⟨_,_,rfl,⟨q0,hq0,rfl⟩,rfl⟩:=o3;obtain ⟨c0,rfl,_,_,_⟩:=av4 (l:=[.slice none 1 3 Yt,.slice none 0 0 (j4 9 .top),.slice none 0 0 (j4 3 .top),.slice none 0 0 (j4 6 .top),.slice none 0 0 (j4 4 .top),.slice none 0 0 (j4 3 .top),.slice none 0 0 (j4 2 .top),.slice none 0 0 (j4 3 .top)]) o2;obtain ⟨v,H1,⟨o,o1,o4,o3⟩,p13⟩:=(o32 (by omega) noC n hn:(s32 n).ok (dx xs noC) A).2 [.ptr 0 0,cat c0,.d (num (n:Int))] [tp xs q0] (by
  simp only [s32,Sh.y5.g];exact ⟨_,_,rfl,rfl,_,_,rfl,o2,_,_,rfl,bZ (by simp only [Sh.SD.g];rfl),rfl⟩) (by
  simp only [s32,Sh.K2.g];exact ⟨_,_,rfl,⟨q0,hq0,rfl⟩,rfl⟩)
 have:=s6.1 o1;subst this;simp only [Sh.K2.g] at o3;obtain ⟨_,_,rfl,⟨q,hq,rfl⟩,rfl⟩:=o3;obtain ⟨c,rfl,hv,hs,h3⟩:=av4 o4;exact ⟨c0,c,q0,q,Bt.of h3 (an3 n) (an2 n) hv hs,p12,p14,p13,hq⟩
end Go.Proofs.YtibjocmpkoepoaaGreat


import Derived.Test.YtibjocmpkoepoaaGreatT0
set_option linter.all false
open Bool renaming and_eq_true→c8,false_eq_true→e8,not_eq_false'→D5,not_eq_true'→o8,or_eq_false_iff→E5,true→W,false→F
open List renaming all_eq_true→L4,getElem_of_mem→O8,length_map→C5,map_cons→M8,mem_cons→C4,mem_singleton→y3,take_of_length_le→y6,length→O
open Nat renaming beq→y7,eq_of_beq_eq_true→j4,le_of_ble_eq_true→l5,lt_or_ge→x9,zero_le→A4
open Option renaming some→J,none→K
namespace Go.Proofs.YtibjocmpkoepoaaGreat
open Go.B3 Go.B3.S
attribute [local irreducible] Rx Ry Rn Ex Pf
def DN {e:List bU}{ty:List Int}(h:A1 (O1 e ty).2 0=W):good (O1 e ty).1:=by
 unfold O1 at h ⊢;split at h
 .simp [p7] at h
 next a ha=>
  split at h
  .have hwf:a.wf:=by
    unfold iQ at ha;split at ha
    .split at ha
     next b hb=>
      cases ha;exact (V1 16 _ _ _ hb).2.1
     .cases ha
    .cases ha
   simp_all [MF]
  grind [p7]
theorem ay6 {c:s6}{n:Nat}:∀(k i:Nat),eU c n k i=0->∀j,i<=j->j<i+k->aO c n j=0
 |0,i,_,j,h1,h2=>V
 |k+1,i,h,j,h1,h2=>by
  unfold eU at h;cases he:A1 (aO c n i) 0 with
  |false =>
   simp_all [Bool.not_false,if_true,p7]
  |true =>
   rw [he] at h
   by_cases hj:j=i
   .grind [aT]
   .exact ay6 k (i+1) h j V V
def lz {c:s6}{k:Nat}(h:fh c k=0):1<=O (Y c.k9 k).p9/\O (Y c.k9 k).p9<=8/\∀x,x∈(Y c.k9 k).p9->good x.type:=by
 unfold fh at h;cases hc:(!s4 (O (Y c.k9 k).p9) 1 8|| !s4 (Y c.k9 k).erase 0 1|| !s4 (Y c.k9 k).cE 0 1048576) with
 |true=>simp_all
 |false =>
  rw [hc] at h;simp [E5,D5,s4,c8,A7,decide_eq_true_eq] at hc;refine ⟨V,V,λx hx=>?_⟩;obtain ⟨j,hj,rfl⟩:=O8 hx;have h1:=ay6 _ _ h j V V;rw [<- H6 hj];unfold aO at h1
  by_cases hg:good (Y (Y c.k9 k).p9 j).type
  .exact hg
  .have ht:(!A1 (Y (Y c.k9 k).p9 j).type 1&& !A1 (Y (Y c.k9 k).p9 j).type 2)=W:=by
    unfold good at hg;simp [p7,c8,o8,beq_eq_false_iff_ne];omega
   grind
theorem uh {ty:List Int}:∀(l:List Ic) (seen:List M6),bz ty seen l=0->∀e,e∈l->(e.agg&&A1 e.f 0)=W\/A1 (O1 e.expr ty).2 0=W
 |[],_,_,e,he=>by cases he
 |a::l,seen,h,e,he=>by
  unfold bz at h;split at h
  .omega
  .split at h
   .omega
   .split at h
    .omega
    .split at h
     next h0=>
      rcases C4.1 he with rfl|he
      .exact .inl h0
      .exact uh l _ h e he
     .split at h
      .simp_all [p7]
      .split at h
       .omega
       .rcases C4.1 he with rfl|he
        .simp_all
        .exact uh l _ h e he
theorem FA {c:s6}(hv:M1 c=W):∀(n k:Nat),k<n->k<s6.ns c->1<=O (aS c k)/\O (aS c k)<=8/\∀x,x∈aS c k->good x
 |0,k,h,_=>V
 |n+1,k,h,hk=>by
  obtain ⟨h1,_,h3⟩:=eG hv;have hnl:=Y3 c;have he:=h1 k V
  rcases x9 k (O c.k9) with ht|ht
  .obtain ⟨a1,a2,a3⟩:=lz (Z9 he ht)
   simp_all [aS,Y,dY.type,lY,if_pos,List.mem_map]
  .have XW:=iD he ht hk
   unfold Z5 at XW;split at XW
   .omega
   .split at XW
    .omega
    next hl=>
     split at XW
     .omega
     next hsh=>
      simp only [Bool.not_eq_true,D5,o8,Bool.not_eq_false] at hsh;have hf:=O5 c (Z4 c k).left k;split at XW
      next h2=>
       have e:aS c k=aS c (K7 c (Z4 c k).left k).toNat:=by
        have h0:0<=K7 c (Z4 c k).left k:=by
         simp_all [Bool.or_eq_true,A5,decide_eq_true_eq,not_or]
        conv=>lhs;unfold aS lY
        rw [if_neg V,show (Y c.views (k - O c.k9))=Z4 c k from rfl,if_pos h2,aB c V]
       have h0:0<=K7 c (Z4 c k).left k:=by
        simp_all [Bool.or_eq_true,A5,decide_eq_true_eq,not_or]
       rw [e];exact FA hv n _ V V
      next h2=>
       split at XW
       .simp_all [p7]
       .split at XW
        .simp_all [p7]
        .split at XW
         .omega
         .have e:aS c k=cL (Z4 c k) (ins c k):=by
           unfold aS lY;rw [if_neg V,show (Y c.views (k - O c.k9))=Z4 c k from rfl,if_neg h2];rfl
          have hlen:1<=O (Z4 c k).items+O (Z4 c k).L7/\O (Z4 c k).items+O (Z4 c k).L7<=8:=by
           unfold ff qX at hsh;rw [if_neg h2] at hsh;split at hsh<;>simp only [c8,o8,E5,p7,beq_eq_false_iff_ne,A7,decide_eq_true_eq] at hsh<;>omega
          have hg:=uh _ _ XW;rw [e];refine ⟨by grind [cL],by grind [cL],λx hx=>?_⟩;simp only [cL,List.mem_append,List.mem_map] at hx
          rcases hx with ⟨y,hy,rfl⟩|⟨y,hy,rfl⟩
          .rcases hg ⟨F,y.name, -1,y.expr⟩ (List.mem_append_left _ (List.mem_map.2 ⟨y,hy,rfl⟩)) with h|h
           all_goals simp_all [DN]
          .unfold yC
           split
           .exact .inl rfl
           next h0=>
            rcases hg ⟨W,y.name,y.func,y.expr⟩ (List.mem_append_right _ (List.mem_map.2 ⟨y,hy,rfl⟩)) with h|h
            all_goals simp_all [Bool.true_and,DN]
theorem Ll {s:M6}:∀(l:List M6) (i:Nat),s∈l->(i:Int)<=K6 s l i/\K6 s l i<i+O l
 |[],_,h=>by cases h
 |x::r,i,h=>by
  simp only [K6];split
  .simp;omega
  next hx=>
   rcases C4.1 h with rfl|h
   .simp [I5] at hx
   .have:=Ll r (i+1) h
    simp at this ⊢;omega
def al5 {c:s6}(hv:M1 c=W){s:M6}(h:s∈s6.sn c):∃i:Nat,oE c s=(i:Int)/\i<s6.ns c:=by
 have hl:=aQ c;have h1:=Ll (s6.sn c) 0 h;have e:oE c s=K6 s (s6.sn c) 0:=by
  unfold oE K7;rw [hv,if_pos rfl,y6 V]
 rw [e];refine ⟨(K6 s (s6.sn c) 0).toNat,V,V⟩
def Yb {c:s6}(hv:M1 c=W){i:Nat}(hi:i<s6.ns c):kQ c i=W:=by
 unfold kQ;rw [hv];simp [A7,A5];omega
end Go.Proofs.YtibjocmpkoepoaaGreat
namespace Go.B3.Sh
mutual
def SD.np:SD->Bool
 | .slice _ _ _ row=>L9.np row
 | .pr _ _=>F
 |_=>W
def L9.np:List SD->Bool
 |[]=>W
 |x::xs=>x.np&&L9.np xs
end
mutual
theorem SD.cx {C C' :Ctx}{vs:List Nat}:∀(x:SD) {d:Data},x.np=W->x.g C vs d->x.g C' vs d
 | .top,_,_,_=>by simp [SD.g]
 | .lit _,_,_,h=>by simpa only [SD.g] using h
 | .bool _,_,_,h=>by simpa only [SD.g] using h
 | .int ..,_,_,h=>by simpa only [SD.g] using h
 | .anyI _,_,_,h=>by simpa only [SD.g] using h
 | .str _,_,_,h=>by simpa only [SD.g] using h
 | .slice v lo hi row,_,hp,h=>by
  simp only [SD.np] at hp;simp only [SD.g] at h ⊢;obtain ⟨rows,h1,h2,h3,h4,h5⟩:=h;exact ⟨rows,h1,h2,h3,h4,λr hr=>L9.cx row hp (h5 r hr)⟩
 | .pr _ _,_,hp,_=>by simp [SD.np] at hp
theorem L9.cx {C C' :Ctx}{vs:List Nat}:∀(x:List SD) {d:List Data},L9.np x=W->L9.g C vs x d->L9.g C' vs x d
 |[],_,_,h=>by simpa only [L9.g] using h
 |x::xs,_,hp,h=>by
  simp only [L9.np,c8] at hp;simp only [L9.g] at h ⊢;obtain ⟨d,ds,h1,h2,h3⟩:=h;exact ⟨d,ds,h1,SD.cx x hp.1 h2,L9.cx xs hp.2 h3⟩
end
end Go.B3.Sh
namespace Go.Proofs.YtibjocmpkoepoaaGreat
open Go.B3 Go.B3.S Go.B3.Sh
attribute [local irreducible] Rx Ry Rn Ex Pf
variable [Inhabited pg]
def pS:SD:= .pr 0 (.str 2)
def rV1:List SD:=[.str 2,iR 0 2,.str 2,.str 2,.slice K 0 1 [iR 0 23,iR 0 23],.slice K 0 13 rTm,.slice K 0 3 [.str 2,.slice K 1 4 rTm],.bool .xb,.slice K 0 3 [.str 2,iR 0 4,.slice K 0 4 rTm]]
def r2:List SD:=[.str 2,.str 2,iR 0 2]
def r3:List SD:=[.str 2,.str 2,iR 0 2,iR 0 2,iR 0 16,iR 0 3]
def r4:List SD:=[.str 2,.str 2,iR 0 2,iR 0 9]
def r5:List SD:=[.str 2,.str 2,iR 0 3]
def r6:List SD:=[.str 2,.str 2]
def r7:List SD:=[.str 2,.slice K 0 1 [.str 2],iR 0 30]
def e1 (r:List SD):SD:= .slice K 0 0 r
def rB (n:Nat):List SD:=[.slice K 1 3 rT4,.slice K 0 n rV1,e1 r2,e1 r3,e1 r4,e1 r5,e1 r6,e1 r7]
def cG (n:Nat):SV:= .agg (J 1) [.d (.slice K 1 3 [pS,.slice K 2 4 rC4,iR 0 1,iR 0 40]),.d (.slice K 0 n rV1),.d (e1 r2),.d (e1 r3),.d (e1 r4),.d (e1 r5),.d (e1 r6),.d (e1 r7)]
def vwV:SV:= .agg K (rV1.map .d)
def s76:Sh.Spec:=⟨38,[.ptr 1 0,cG 4,.d (.slice K 1 7 [pS])],[zC,.pr 0],l1,[(vwV,[zC,.pr 0])]⟩
def isD:SV->Bool
 | .d _=>W
 |_=>F
def aQ0:Sh.Sem:=λ_ f args H l=>match args,H with
 |[.agg (J 1) c,.d (.pr k (.str m))],[]=>if y7 f 86&&y7 k 0&&vF l l0&&c.all isD then J [(.d (.pr 1 (iR 0 2000)),[])] else K
 |[.agg (J 1) c,.d (.pr k (.int _ _ _ _))],[]=>if y7 f 20&&y7 k 1&&vF l l0&&c.all isD then J [(.d (.slice K 1 8 [iR 1 2]),[])] else K
 |_,_=>K
theorem WK {C:Ctx}{vs:List Nat}:∀{l:List SV} {cs:List c7},B6.g C vs l cs->l.all isD=W->cs.map c7.F4=cs
 |[],_,h,_=>by have _:Inhabited pg:=inferInstance;simp only [B6.g] at h;subst h;rfl
 |x::xs,_,h,hd=>by
  simp only [B6.g] at h;obtain ⟨a,b,rfl,h1,h2⟩:=h;simp only [List.all_cons,c8] at hd;cases x<;>simp only [isD,e8,false_and] at hd;obtain ⟨d,rfl,_⟩:=bV h1;simp only [M8,c7.F4];rw [WK h2 hd.2]
def CF {l:H8}(h:vF l l0=W):l=Q9:=by
 have _:Inhabited pg:=inferInstance;simp only [vF,c8] at h;have e1:=j4 h.1.1.1;have e2:=j4 h.1.1.2;have e3:=j4 h.1.2;have e4:=j4 h.2;cases l;simp only [l0] at e1 e2 e3 e4;subst e1 e2 e3 e4;rfl
def YV {f:FuncId}{args:List c7}{v:c7}{P:c7->n9->Prop}(h:Pf A f args v)(hP:P v []):Pq A f args [] Q9 P:=have _:Inhabited pg:=inferInstance;⟨v,[],hP,by unfold Pf at h;exact h⟩
def at8 (xs:List Int){g:s6}(hs:J8 g)(hv:M1 g=W):jF (eX xs g) A aQ0:=by
 intro i4 f args H l outs h vs hB az Hc ha hH;have gv:s6.ns g<=1000+1000:=by obtain ⟨f0,f1,_⟩:=hs.sm.lH;unfold s6.ns;omega
 unfold aQ0 at h;split at h
 next c k m=>
  split at h
  next hc=>
   simp only [c8] at hc;obtain ⟨⟨⟨c1,c2⟩,c3⟩,c4⟩:=hc;have c1:=j4 c1;have c2:=j4 c2;subst c1 c2;cases h;rw [CF c3];simp only [B6.g] at ha;obtain ⟨a0,_,rfl,h0,a1,_,rfl,h1,rfl⟩:=ha;simp only [M0.g] at hH;subst hH;simp only [SV.g] at h0;obtain ⟨cs,rfl,h2,h3⟩:=h0;have h4:cs.map c7.F4=g.enc.map .d:=h3 1 rfl;rw [WK h2 c4] at h4;subst h4;obtain ⟨d,rfl,h5⟩:=bV h1;simp only [SD.g] at h5;obtain ⟨s,rfl,hm⟩:=h5.1;obtain ⟨i,e,hi⟩:=al5 hv hm;have p:=aN5 g hs s;rw [e] at p;refine YV p ⟨_,y3.2 rfl,dO ?_,by simp only [M0.g]⟩;simp only [SD.g,iR];exact ⟨⟨i,rfl,hi⟩,(i:Int),rfl,V,V,trivial⟩
  .cases h
 next c k kk lo hi r=>
  split at h
  next hc=>
   simp only [c8] at hc;obtain ⟨⟨⟨c1,c2⟩,c3⟩,c4⟩:=hc;have c1:=j4 c1;have c2:=j4 c2;subst c1 c2;cases h;rw [CF c3];simp only [B6.g] at ha;obtain ⟨a0,_,rfl,h0,a1,_,rfl,h1,rfl⟩:=ha;simp only [M0.g] at hH;subst hH;simp only [SV.g] at h0;obtain ⟨cs,rfl,h2,h3⟩:=h0;have h4:cs.map c7.F4=g.enc.map .d:=h3 1 rfl;rw [WK h2 c4] at h4;subst h4;obtain ⟨d,rfl,h5⟩:=bV h1;simp only [SD.g] at h5;obtain ⟨i,rfl,hi⟩:=h5.1;have p:=bh5 g hs i (Yb hv hi);rw [Int.toNat_natCast] at p;obtain ⟨g1,g2,g3⟩:=FA hv (i+1) i V hi;refine YV p ⟨_,y3.2 rfl,dO ?_,by simp only [M0.g]⟩;simp only [SD.g];refine ⟨(aS g i).map λt=>[Z t],?_,by simpa using g1,by simpa using g2,(λi h=>by cases h),λr hr=>?_⟩
   .simp only [ints,C5]
    congr 1
   .obtain ⟨t,ht,rfl⟩:=List.mem_map.1 hr
    simp only [L9.g,SD.g,iR];refine ⟨Z t,[],rfl,⟨t,rfl,?_,?_,trivial⟩,rfl⟩
    .rcases g3 t ht with h|h<;>omega
    .rcases g3 t ht with h|h<;>omega
  .cases h
 .cases h
theorem chunk {α:Type}{enc:α->List B3.Data}{sz:Nat}(hs:∀a,O (enc a)=sz):∀(rows:List (List B3.Data)) (l:List α),O rows=O l->(∀r,r∈rows->O r=sz)->rows.flatten=l.flatMap enc->rows=l.map enc
 |[],[],_,_,_=>rfl
 |[],_::_,h,_,_=>by have _:Inhabited pg:=inferInstance;simp at h
 |_::_,[],h,_,_=>by simp at h
 |r::rows,a::l,h,hr,e=>by
  simp only [List.flatten_cons,List.flatMap_cons] at e;have h1:=List.append_inj e (by rw [hr r U,hs a]);rw [h1.1,chunk hs rows l (by simpa using h) (λr hr' =>hr r (by simp [hr'])) h1.2];rfl
section
variable {C:Ctx} {vs:List Nat} {α:Type} {enc:α->List B3.Data}
def xZ {v:Option Nat}{lo hi:Nat}{row:List SD}{l:List α}(h:(SD.slice v lo hi row).g C vs (B8 enc l))(hs:∀a,O (enc a)=O row:=by intro;rfl):lo<=O l/\O l<=hi/\∀a,a∈l->L9.g C vs row (enc a):=by
 simp only [SD.g] at h;obtain ⟨rows,h1,h2,h3,_,h5⟩:=h;unfold B8 at h1;injection h1 with e1 e2
 have:=chunk hs rows l e1.symm (λr hr=>L9.len (h5 r hr)) e2.symm;subst this;exact ⟨V,V,λa ha=>h5 _ (List.mem_map.2 ⟨a,ha,rfl⟩)⟩
def PD {lo hi:Nat}{row:List SD}{l:List α}(h1:lo<=O l)(h2:O l<=hi)(h3:∀a,a∈l->L9.g C vs row (enc a)):(SD.slice K lo hi row).g C vs (B8 enc l):=by
 have _:Inhabited pg:=inferInstance;simp only [SD.g];refine ⟨l.map enc,?_,by simpa using h1,by simpa using h2,(λi h=>by cases h),λr hr=>?_⟩
 .simp only [B8,C5,List.flatMap]
 .obtain ⟨a,ha,rfl⟩:=List.mem_map.1 hr
  exact h3 a ha
end
structure Bt (n:Nat)(c:s6):Prop where
 sh:∀C vs,L9.g C vs (rB n) c.enc
 val:M1 c=W
 sm:J8 c
def Bt.of {C:Ctx}{vs:List Nat}{n:Nat}{c:s6}(h:L9.g C vs (rB n) c.enc)(hp:L9.np (rB n)=W)(hc:L9.cl (rB n)=W)(hv:M1 c=W)(hs:J8 c):Bt n c:=have _:Inhabited pg:=inferInstance;⟨λ_ _=>L9.eY _ hc (L9.cx _ hp h),hv,hs⟩
def bj5 (n:Nat):L9.np (rB n)=W:=by have _:Inhabited pg:=inferInstance;rfl
def bj4 (n:Nat):L9.cl (rB n)=W:=by have _:Inhabited pg:=inferInstance;rfl
section
variable {n:Nat} {c:s6} (h:Bt n c)
include h
theorem Bt.k9:1<=O c.k9/\O c.k9<=3/\∀C vs a,a∈c.k9->L9.g C vs rT4 a.enc:=by
 have h1:∀C vs,(SD.slice K 1 3 rT4).g C vs (B8 jt.enc c.k9):=λC vs=>by
  have:=h.sh C vs;unfold rB s6.enc at this;obtain ⟨x,y,e,h1,_⟩:=sc this;cases e;exact h1
 have h2:=xZ (h1 (eX [] c) []);exact ⟨h2.1,h2.2.1,λC vs a ha=>(xZ (h1 C vs)).2.2 a ha⟩
theorem Bt.views:O c.views<=n/\∀C vs a,a∈c.views->L9.g C vs rV1 a.enc:=by
 have h1:∀C vs,(SD.slice K 0 n rV1).g C vs (B8 Vw.enc c.views):=λC vs=>by
  have:=h.sh C vs;unfold rB s6.enc at this;obtain ⟨x,y,e,_,h2⟩:=sc this;cases e;obtain ⟨x,y,e,h1,_⟩:=sc h2;cases e;exact h1
 have h2:=xZ (h1 (eX [] c) []);exact ⟨h2.2.1,λC vs a ha=>(xZ (h1 C vs)).2.2 a ha⟩
end
def at9:Sh.Sem:=λ_ f args H l=>match args,H with
 |[.agg (J 1) c],[]=>if y7 f 39&&vF l l0&&c.all isD then J [(.d (.slice K 1 7 [pS]),[])] else K
 |_,_=>K
def bN8 (c:s6)(hf:c.lH):Pf A 39 [cat c] (.d (B8 encS (s6.sn c))):=by
 have _:Inhabited pg:=inferInstance;obtain ⟨f0,f1,_⟩:=hf;refine Pf.gr 5 ?_;refine Ex.jH (λk T H=>∃(i:Nat) (acc:List M6) (v0 v2 w5:c7),T=[v0,.ptr 0 0,v2,L1 1 encS acc,.d (Z i),w5]/\H=[.cells (c.enc.map .d)]/\i+k=O c.k9/\acc=(c.k9.take i).map jt.name) ?_ (k:=O c.k9) ⟨0,[],_,_,_,rfl,rfl,U,U⟩;rintro k _ _ ⟨i,acc,v0,v2,w5,rfl,rfl,hk,hacc⟩;have hl:O acc=i:=by rw [hacc];simp;omega
 refine Ex.nT ?_
 repeat' (first|refine gy ?_|refine ft (λht=>?_) λht=>?_|refine ⟨_,rfl,?_⟩|fail)
 .have h1:=F5 ht
  refine kk ⟨i+1,acc++[(Y c.k9 i).name],_,_,_,rfl,rfl,V,?_⟩;rw [N7 V,hacc];simp
 have h1:=G7 ht;rw [y6 V] at hacc;clear ht h1 hk hl;subst hacc;refine Ex.jH (λk T H=>∃(i:Nat) (acc:List M6) (v0 v2 w4:c7),T=[v0,.ptr 0 0,v2,L1 1 encS acc,w4,.d (Z i)]/\H=[.cells (c.enc.map .d)]/\i+k=O c.views/\acc=c.k9.map jt.name++(c.views.take i).map Vw.name) ?_ (k:=O c.views) ⟨0,c.k9.map jt.name,_,_,_,rfl,rfl,U,U⟩;rintro k _ _ ⟨i,acc,v0,v2,w4,rfl,rfl,hk,hacc⟩;have hl:O acc=O c.k9+i:=by rw [hacc];simp;omega
 refine Ex.nT ?_
 repeat' (first|refine gy ?_|refine ft (λht=>?_) λht=>?_|refine ⟨_,rfl,?_⟩|fail)
 .have h1:=F5 ht
  refine kk ⟨i+1,acc++[(Y c.views i).name],_,_,_,rfl,rfl,V,?_⟩;rw [N7 V,hacc];simp
 have h1:=G7 ht;rw [y6 V] at hacc;clear ht h1 hk hl;subst hacc;simp [j5,B8,L1,s6.sn]
def Bt.name {n:Nat}{c:s6}(h:Bt n c){s:M6}(hs:s∈s6.sn c):O s<=2:=by
 unfold s6.sn at hs
 rcases List.mem_append.1 hs with hs|hs
 .obtain ⟨t,ht,rfl⟩:=List.mem_map.1 hs
  have:=h.k9.2.2 (eX [] c) [] t ht;unfold rT4 jt.enc at this;obtain ⟨x,y,e,h1,_⟩:=sc this;cases e;simp only [SD.g] at h1;obtain ⟨s,e,h2⟩:=h1;cases e;exact h2
 .obtain ⟨t,ht,rfl⟩:=List.mem_map.1 hs
  have:=h.views.2 (eX [] c) [] t ht;unfold rV1 Vw.enc at this;obtain ⟨x,y,e,h1,_⟩:=sc this;cases e;simp only [SD.g] at h1;obtain ⟨s,e,h2⟩:=h1;cases e;exact h2
def Sa (xs:List Int){n:Nat}{g:s6}(hg:Bt n g)(hn:n<=4):jF (eX xs g) A at9:=by
 intro i4 f args H l outs h vs hB az Hc ha hH;unfold at9 at h;split at h
 next c=>
  split at h
  next hc=>
   simp only [c8] at hc;obtain ⟨⟨c1,c3⟩,c4⟩:=hc;have c1:=j4 c1;subst c1;cases h;rw [CF c3];simp only [B6.g] at ha;obtain ⟨a0,_,rfl,h0,rfl⟩:=ha;simp only [M0.g] at hH;subst hH;simp only [SV.g] at h0;obtain ⟨cs,rfl,h2,h3⟩:=h0;have h4:cs.map c7.F4=g.enc.map .d:=h3 1 rfl;rw [WK h2 c4] at h4;subst h4;have ht:=hg.k9;have hw:=hg.views;have hl:=aQ g;have sC:s6.ns g=O g.k9+O g.views:=rfl;refine YV (bN8 g hg.sm.sm.lH) ⟨_,y3.2 rfl,dO (PD V V λs hs=>?_),by simp only [M0.g]⟩;simp only [L9.g,SD.g,encS,pS];exact ⟨_,_,rfl,⟨⟨s,rfl,hs⟩,s,rfl,hg.name hs⟩,rfl⟩
  .cases h
 .cases h
def bS8 (l:List Sh.Spec):Sh.Sem:=Dk (Dk aQ0 at9) (aQ1 l)
section
variable {xs:List Int} (hx:O xs<=35184372088832) {g:s6} {n:Nat} (hg:Bt n g) (hn:n<=4)
include hx hg hn
def au1 {l:List Sh.Spec}(h:sZ (eX xs g) l):jF (eX xs g) A (bS8 l):=qV (qV (at8 xs hg.sm hg.val) (Sa xs hg hn)) (Bp hx h)
theorem o76:s76.ok (eX xs g) A :=
 Bo (kp:=[]) (js:=[]) (fuel:=40) (au1 hx hg hn (.cons (o35 hx g) (.cons (bK3 hx g) (.cons (YB hx g) (.cons (bd0 hx g) .nil))))) ek Lg rfl rfl (by kernel_rfl)
end
end Go.Proofs.YtibjocmpkoepoaaGreat
namespace Go.Proofs.YtibjocmpkoepoaaGreat
open Go.B3 Go.B3.S Go.B3.Sh
attribute [local irreducible] Rx Ry Rn Ex Pf
variable [Inhabited pg]
def aQ2:Sh.Sem:=λi4 f args H l=>match args,H with
 |[.ptr 1 0,.agg (J 1) c,.d ns],H=>if M0.le qA i4 H [zC,.pr 0]&&y7 f 38&&vF l l1&&c.all isD&&SD.le i4 ns (.slice K 1 7 [pS]) then J [(vwV,[zC,.pr 0])] else K
 |_,_=>K
def Bt.shG {n:Nat}{c:s6}(h:Bt n c)(hn:n<=4)(xs:List Int)(vs:List Nat):(cG 4).g (eX xs c) vs (cat c):=by
 obtain ⟨a1,a2,a3⟩:=h.k9;obtain ⟨b1,b2⟩:=h.views;have hs:=h.sh (eX xs c) vs;unfold rB s6.enc at hs;obtain ⟨_,_,e,_,hs⟩:=sc hs;cases e;obtain ⟨_,_,e,_,hs⟩:=sc hs;cases e;have h1:(SD.slice K 1 3 [pS,.slice K 2 4 rC4,iR 0 1,iR 0 40]).g (eX xs c) vs (B8 jt.enc c.k9):=PD a1 a2 λt ht=>by
  have:=a3 (eX xs c) vs t ht;unfold rT4 jt.enc at this;obtain ⟨_,_,e,g1,g2⟩:=sc this;cases e;rw [jt.enc,L9.g];refine ⟨_,_,rfl,?_,g2⟩;simp only [pS,SD.g] at g1 ⊢;exact ⟨⟨t.name,rfl,by unfold s6.sn;exact List.mem_append_left _ (List.mem_map.2 ⟨t,ht,rfl⟩)⟩,g1⟩
 have h2:(SD.slice K 0 4 rV1).g (eX xs c) vs (B8 Vw.enc c.views):=PD (A4 _) V λt ht=>b2 (eX xs c) vs t ht
 have h3:L9.g (eX xs c) vs [.slice K 1 3 [pS,.slice K 2 4 rC4,iR 0 1,iR 0 40],.slice K 0 4 rV1,e1 r2,e1 r3,e1 r4,e1 r5,e1 r6,e1 r7] c.enc:=by
  rw [L9.g];refine ⟨_,_,rfl,h1,?_⟩;rw [L9.g];exact ⟨_,_,rfl,h2,hs⟩
 simp only [cG,SV.g];refine ⟨_,rfl,B6.Vm h3,λk hk=>?_⟩;cases hk;show (c.enc.map c7.d).map c7.F4=c.enc.map c7.d
 rw [List.map_map];rfl
def au2 {xs:List Int}(hx:O xs<=35184372088832){g:s6}{n:Nat}(hg:Bt n g)(hn:n<=4):jF (eX xs g) A aQ2:=by
 intro i4 f args H l outs h vs hB az Hc ha hH;unfold aQ2 at h;split at h
 next c ns=>
  split at h
  next hc=>
   simp only [c8] at hc;obtain ⟨⟨⟨⟨c6,c1⟩,c3⟩,c4⟩,c5⟩:=hc;have hH:=M0.dD hB ek c6 hH;have c1:=j4 c1;subst c1;cases h;have hl:l=l1:=by
    simp only [vF,c8] at c3;have e1:=j4 c3.1.1.1;have e2:=j4 c3.1.1.2;have e3:=j4 c3.1.2;have e4:=j4 c3.2;cases l;simp only [l1] at e1 e2 e3 e4;subst e1 e2 e3 e4;rfl
   subst hl;simp only [B6.g] at ha;obtain ⟨a0,_,rfl,h0,a1,_,rfl,h1,a2,_,rfl,h2,rfl⟩:=ha;simp only [SV.g] at h1;obtain ⟨cs,rfl,h3,h4⟩:=h1;have h4:cs.map c7.F4=g.enc.map .d:=h4 1 rfl;rw [WK h3 c4] at h4;subst h4;obtain ⟨d,rfl,h5⟩:=bV h2;have h6:=SD.dD hB _ c5 h5;obtain ⟨_,hk⟩:=o76 hx hg hn;obtain ⟨v,H1,⟨o,o1,o2,o3⟩,hm⟩:=hk [a0,cat g,.d d] Hc (by
    simp only [s76,B6.g];exact ⟨_,_,rfl,h0,_,_,rfl,hg.shG hn xs [],_,_,rfl,dO (SD.eY _ (by rfl) h6),rfl⟩) (M0.eY _ (by rfl) hH)
   have:=y3.1 o1;subst this;exact ⟨v,H1,⟨_,y3.2 rfl,SV.eY _ (by rfl) o2,M0.eY _ (by rfl) o3⟩,hm⟩
  .cases h
 .cases h
def bl6:Sh.Sem:=Dk (Dk aQ2 at9) Bq
def au0 {xs:List Int}(hx:O xs<=35184372088832){g:s6}{n:Nat}(hg:Bt n g)(hn:n<=4):jF (eX xs g) A bl6:=qV (qV (au2 hx hg hn) (Sa xs hg hn)) (Dj xs hx g)
def vT (n i:Nat)(w:SV):List SV:=[.ptr 1 0,w,.d (.lit (.int .i64 n)),.ptr 2 0,.ptr 3 0,.d (.lit (.int .i64 i)),w]
def vH (t i:Nat):List SO:=[zC,.pr 0,.cells (J t) ((rB i).map .d),zC]
def OI:p6:=match a13.body with
 | .seq _ (.seq (.seq _ (.block _ (.loop _ b))) _)=>b
 |_=> .bad
def DT (n i:Nat):Bool:=match dH A bl6 XQ [] l1 2 40 OI ⟨vT n i .any,vH 1 i,[]⟩ with
 |some outs=>outs.all λo=>match o.1 with
  | .normal=>Nat.blt i n&&B6.le qA o.2.i4 o.2.T (vT n (i+1) .top)&&(M0.le qA o.2.i4 (o.2.H.take 4) (vH 0 (i+1))||M0.le qA o.2.i4 (o.2.H.take 4) (vH 1 (i+1)))
  | .exit e=>y7 e 0&&y7 i n&&B6.le qA o.2.i4 o.2.T (vT n i .top)&&M0.le qA o.2.i4 o.2.H (vH 1 i)
  | .ret=>F
 |none=>F
theorem Ss:DT 3 0=W/\DT 3 1=W/\DT 3 2=W/\DT 3 3=W:=have _:Inhabited pg:=inferInstance;⟨by kernel_rfl,by kernel_rfl,by kernel_rfl,by kernel_rfl⟩
theorem MK:DT 4 0=W/\DT 4 1=W/\DT 4 2=W/\DT 4 3=W/\DT 4 4=W:=have _:Inhabited pg:=inferInstance;⟨by kernel_rfl,by kernel_rfl,by kernel_rfl,by kernel_rfl,by kernel_rfl⟩
def aa9 {n i:Nat}(hn:n=3\/n=4)(hi:i<=n):DT n i=W:=by
 rcases hn with rfl|rfl
 .match i,hi with
  |0,_=>exact Ss.1
  |1,_=>exact Ss.2.1
  |2,_=>exact Ss.2.2.1
  |3,_=>exact Ss.2.2.2
 .match i,hi with
  |0,_=>exact MK.1
  |1,_=>exact MK.2.1
  |2,_=>exact MK.2.2.1
  |3,_=>exact MK.2.2.2.1
  |4,_=>exact MK.2.2.2.2
def zO:B4:= .cells [.own 4 0 [],.own 9 0 [],.own 3 0 [],.own 6 0 [],.own 4 0 [],.own 3 0 [],.own 2 0 [],.own 3 0 []]
def aR5 (xs:List Int)(n:Nat)(k:Nat)(s:St):Prop:=∃(i:Nat) (c:s6) (q:Nat) (w1 w6:c7) (tl:n9),i+k=n/\Bt i c/\q<=4 * O xs/\s=⟨[.ptr 1 0,w1,.d (Z (n:Int)),.ptr 2 0,.ptr 3 0,.d (Z (i:Int)),w6],zO::tp xs q:: .cells (c.enc.map .d)::zO::tl⟩
def ze {C:Ctx}{vs:List Nat}{n:Nat}{v:c7}(h:(Gg n).g C vs v):v= .own n 0 []:=by
 have _:Inhabited pg:=inferInstance;simp only [Gg,SV.g,SD.g] at h;obtain ⟨len,cells,rfl,e⟩:=h;cases e;rfl
def Sw {C:Ctx}{vs:List Nat}{o:B4}(h:zC.g C vs o):o=zO:=by
 obtain ⟨cs,rfl,h,_⟩:=h;simp only [B6.g] at h;obtain ⟨a0,_,rfl,h0,a1,_,rfl,h1,a2,_,rfl,h2,a3,_,rfl,h3,a4,_,rfl,h4,a5,_,rfl,h5,a6,_,rfl,h6,a7,_,rfl,h7,rfl⟩:=h;rw [ze h0,ze h1,ze h2,ze h3,ze h4,ze h5,ze h6,ze h7];rfl
def Sv {C:Ctx}{vs:List Nat}:zC.g C vs zO:=by
 have _:Inhabited pg:=inferInstance;refine ⟨_,rfl,?_,λk h=>by cases h⟩;show B6.g C vs [Gg 4,Gg 9,Gg 3,Gg 6,Gg 4,Gg 3,Gg 2,Gg 3] [.own 4 0 [],.own 9 0 [],.own 3 0 [],.own 6 0 [],.own 4 0 [],.own 3 0 [],.own 2 0 [],.own 3 0 []]
 have o:∀n,(Gg n).g C vs (.own n 0 []):=λn=>by
  unfold Gg Sh.SV.g;exact ⟨0,[],rfl,by unfold Sh.SD.g;rfl⟩
 exact ⟨_,_,rfl,o 4,_,_,rfl,o 9,_,_,rfl,o 3,_,_,rfl,o 6,_,_,rfl,o 4,_,_,rfl,o 3,_,_,rfl,o 2,_,_,rfl,o 3,rfl⟩
def PA {C:Ctx}{vs:List Nat}{x:B3.Data}{v:c7}(h:(SV.d (.lit x)).g C vs v):v= .d x:=by
 have _:Inhabited pg:=inferInstance;obtain ⟨d,rfl,h2⟩:=bV h;simp only [SD.g] at h2;rw [h2]
def ay3 {xs:List Int}{g:s6}{vs:List Nat}{t i:Nat}{o:B4}(ht:t=0\/(t=1/\M1 g=W/\J8 g))(h:(SO.cells (J t) ((rB i).map .d)).g (eX xs g) vs o):∃c,o= .cells (c.enc.map .d)/\Bt i c:=by
 obtain ⟨cs,rfl,h1,h2⟩:=h;obtain ⟨ds,rfl,h3⟩:=Xg h1;have e:(ds.map c7.d).map c7.F4=ds.map c7.d:=by rw [List.map_map];rfl
 have inj:∀{a b:List B3.Data},a.map c7.d=b.map c7.d->a=b:=by
  intro a
  induction a with
  |nil=>intro b h;cases b with|nil=>rfl|cons=>simp at h
  |cons x a ih=>intro b h;cases b with|nil=>simp at h|cons y b=>simp at h;rw [h.1,ih (by simpa using h.2)]
 rcases ht with rfl|⟨rfl,hv,hs⟩
 .obtain ⟨c,h4,h5,h6⟩:=h2 0 rfl
  rw [e] at h4;have:=inj h4;subst this;exact ⟨c,rfl,Bt.of h3 (bj5 i) (bj4 i) h5 h6⟩
 .have h4:(ds.map c7.d).map c7.F4=g.enc.map .d:=h2 1 rfl
  rw [e] at h4;have:=inj h4;subst this;exact ⟨g,rfl,Bt.of h3 (bj5 i) (bj4 i) hv hs⟩
def s32 (n:Nat):Sh.Spec:=⟨13,[.ptr 1 0,WO,.d (.lit (.int .i64 n))],[zC,.pr 0],l1,[(.agg (J 0) ((rB n).map .d),[zC,.pr 0])]⟩
section
variable {xs:List Int} (hx:O xs<=35184372088832)
include hx
def pass (n:Nat)(hn:n=3\/n=4)(k:Nat)(s:St)(h:aR5 xs n k s):Ex A l1 2 OI (clean [W,F,W,W,W,W,F] 2 4 s) (xC (λx s=>x= .exit 0/\∃(c:s6) (q:Nat) (w1 w6:c7),Bt n c/\q<=4 * O xs/\s=⟨[.ptr 1 0,w1,.d (Z (n:Int)),.ptr 2 0,.ptr 3 0,.d (Z (n:Int)),w6],[zO,tp xs q,.cells (c.enc.map .d),zO]⟩) λs' =>∃k',k' <k/\aR5 xs n k' s'):=by
 obtain ⟨i,c,q,w1,w6,tl,hk,hc,hq,rfl⟩:=h;have hcl:clean [W,F,W,W,W,W,F] 2 4 ⟨[.ptr 1 0,w1,.d (Z (n:Int)),.ptr 2 0,.ptr 3 0,.d (Z (i:Int)),w6],zO::tp xs q:: .cells (c.enc.map .d)::zO::tl⟩=⟨[.ptr 1 0,.any,.d (Z (n:Int)),.ptr 2 0,.ptr 3 0,.d (Z (i:Int)),.any],[zO,tp xs q,.cells (c.enc.map .d),zO]⟩:=by
  unfold clean;rw [if_pos ⟨Nat.le_of_eq rfl,A4 _⟩];rfl
 rw [hcl];have hv:=aa9 (n:=n) (i:=i) hn V;unfold DT at hv;split at hv
 next outs hx2=>
  have h0:CS.g (eX xs c) [] ⟨vT n i .any,vH 1 i,[]⟩ ⟨[.ptr 1 0,.any,.d (Z (n:Int)),.ptr 2 0,.ptr 3 0,.d (Z (i:Int)),.any],[zO,tp xs q,.cells (c.enc.map .d),zO]⟩:=by
   refine ⟨by simp [vT,B6.g,SV.g,SD.g,Z],?_,rfl,λi lo hi h=>by simp at h⟩;simp only [vH,M0.g];refine ⟨_,_,rfl,Sv,_,_,rfl,⟨q,hq,rfl⟩,_,_,rfl,⟨_,rfl,B6.Vm (hc.sh _ _),λk hk=>?_⟩,_,_,rfl,Sv,rfl⟩;cases hk;show (c.enc.map c7.d).map c7.F4=c.enc.map c7.d
   rw [List.map_map];rfl
  refine (iZ (au0 hx hc V) (Cz xs c l1 2) OI h0 hx2).mono ?_;rintro x st ⟨o,o1,rfl,ws,_,g1,g2,g3⟩;have hv:=L4.1 hv o o1;have hT:∀{j:Nat},B6.le qA o.2.i4 o.2.T (vT n j .top)=W->∃u1 u6,st.T=[.ptr 1 0,u1,.d (Z (n:Int)),.ptr 2 0,.ptr 3 0,.d (Z (j:Int)),u6]:=λ{j} h=>by
   have:=B6.dD g3 ek (C:=eX xs c) _ h g1;simp only [vT,B6.g] at this;obtain ⟨a0,_,e,h0,a1,_,rfl,_,a2,_,rfl,h2,a3,_,rfl,h3,a4,_,rfl,h4,a5,_,rfl,h5,a6,_,rfl,_,rfl⟩:=this;rw [e,dc h0,PA h2,dc h3,dc h4,PA h5];exact ⟨a1,a6,rfl⟩
  have hH:∀{t j:Nat} {H:n9},t=0\/t=1->M0.g (eX xs c) ws (vH t j) H->∃c' q',Bt j c' /\q' <=4 * O xs/\H=[zO,tp xs q',.cells (c'.enc.map .d),zO]:=λ{t j H} ht h=>by
   simp only [vH,M0.g] at h;obtain ⟨az,_,rfl,hz,a0,_,rfl,⟨q',Rq,rfl⟩,a1,_,rfl,h1,a2,_,rfl,h2,rfl⟩:=h;obtain ⟨c',rfl,h3⟩:=ay3 (ht.imp id λe=>⟨e,hc.val,hc.sm⟩) h1;rw [Sw h2,Sw hz];exact ⟨c',q',h3,Rq,rfl⟩
  cases he:o.1 with
  |ret=>rw [he] at hv;cases hv
  |normal =>
   rw [he] at hv;simp only [c8,Bool.or_eq_true] at hv;obtain ⟨⟨v1,v2⟩,v3⟩:=hv;have v1:i<n:=l5 v1;obtain ⟨u1,u6,eT⟩:=hT v2;have hH3:∃t,(t=0\/t=1)/\M0.g (eX xs c) ws (vH t (i+1)) (st.H.take 4):=by
    rcases v3 with v3|v3
    .exact ⟨0,.inl rfl,M0.dD g3 ek v3 (M0.take g2 4)⟩
    .exact ⟨1,.inr rfl,M0.dD g3 ek v3 (M0.take g2 4)⟩
   obtain ⟨t,ht,h4⟩:=hH3;obtain ⟨c',q',h5,h6,h7⟩:=hH ht h4;refine kk ⟨i+1,c',q',u1,u6,st.H.drop 4,V,h5,h6,?_⟩;have e:st.H=st.H.take 4++st.H.drop 4:=(List.take_append_drop 4 st.H).symm;cases st;simp only at eT e h7;rw [h7] at e;rw [eT,e];simp
  |exit e =>
   rw [he] at hv;simp only [c8] at hv;obtain ⟨⟨⟨v1,v2⟩,v3⟩,v4⟩:=hv;have v1:=j4 v1;have v2:=j4 v2;subst v1 v2;obtain ⟨u1,u6,eT⟩:=hT v3;obtain ⟨c',q',h5,h6,h7⟩:=hH (.inr rfl) (M0.dD g3 ek v4 g2);refine ⟨rfl,c',q',u1,u6,h5,h6,?_⟩;cases st;simp only at eT h7;rw [eT,h7]
 .cases hv
theorem o32 (g:s6)(n:Nat)(hn:n=3\/n=4):(s32 n).ok (eX xs g) A:=by
 refine ⟨by rcases hn with rfl|rfl<;>kernel_rfl,λaz Hc ha hH=>?_⟩;simp only [s32,B6.g] at ha;obtain ⟨a0,_,rfl,h0,a1,_,rfl,h1,a2,_,rfl,h2,rfl⟩:=ha;simp only [s32,M0.g] at hH;obtain ⟨oz,_,rfl,hz,_,_,rfl,⟨q,hq,rfl⟩,rfl⟩:=hH;have hz:=Sw hz;subst hz;have h0:=dc h0;have h2:=PA h2;subst h0 h2;have hB:Bg [] []:=⟨rfl,λi lo hi h=>by simp at h⟩;simp only [WO,SV.g] at h1;obtain ⟨cs,rfl,h3,h4⟩:=h1;have h5:B6.g (eX xs g) [] ((rB 0).map .d) cs:=B6.dD hB (fact:=qA) ek _ (by kernel_rfl) h3;obtain ⟨c,e,hc⟩:=ay3 (xs:=xs) (g:=g) (vs:=[]) (t:=0) (i:=0) (o:= .cells cs) (.inl rfl) ⟨cs,rfl,h5,h4⟩;cases e;refine Pq.run (b:=2) [.ptr 1 0,cat c,.d (Z (n:Int)),.any,.any,.any,.any] rfl rfl rfl rfl rfl ?_;unfold tp;refine gr ?_;refine Ex.loop (aR5 xs n) (λk s hs=>(pass hx n hn k s hs).mono ?_) (k:=n) ⟨0,c,q,_,_,[],V,hc,hq,rfl⟩;rintro x s h;cases x with
 |normal=>exact h
 |ret=>exact absurd h.1 U
 |exit e =>
  obtain ⟨e,c',q',w1,w6,h5,h6,rfl⟩:=h;cases e;unfold tp zO;show Ex _ _ _ _ _ _
  refine gr ?_;refine ⟨_,_,rfl,_,y3.2 rfl,?_,?_⟩
  .simp only [SV.g]
   refine ⟨_,rfl,B6.Vm (h5.sh _ _),λk hk=>?_⟩;cases hk;exact ⟨c',rfl,h5.val,h5.sm⟩
  .simp only [M0.g]
   exact ⟨_,_,rfl,Sv,_,_,rfl,⟨q',h6,rfl⟩,rfl⟩
end
end Go.Proofs.YtibjocmpkoepoaaGreat
namespace Go.Proofs.YtibjocmpkoepoaaGreat
open Go.B3 Go.B3.S Go.B3.Sh
attribute [local irreducible] Rx Ry Rn Ex Pf
variable [Inhabited pg]
def s34:Sh.Spec:=⟨39,[.agg K ((rB 4).map .d)],[],l0,[(.d (.slice K 1 7 [.str 2]),[])]⟩
def l6 (r:List SD):SD:= .slice K 0 6 r
def rF:List SD:=[.slice K 1 3 rT4,.slice K 0 3 rV1,l6 r2,l6 r3,l6 r4,l6 r5,l6 r6,l6 r7]
def s13:Sh.Spec:=⟨65,[.ptr 1 0],[zC,.pr 0],l1,[(.agg (J 0) (rF.map .d),[zC,.pr 0])]⟩
section
variable {xs:List Int} (hx:O xs<=35184372088832) (g:s6)
include hx
theorem o34:s34.ok (eX xs g) A:=fM hx (l:=[]) (kp:=[]) (js:=[]) .nil rfl rfl (by kernel_rfl)
theorem o13:s13.ok (eX xs g) A:=Bo (kp:=[]) (js:=[]) (fuel:=40) (Bp hx (.cons (o35 hx g) (.cons (o33 hx g) (.cons (o32 hx g 3 (.inl rfl)) (.cons (o34 hx g) .nil))))) ek (Cz xs g _ _) rfl rfl (by kernel_rfl)
end
end Go.Proofs.YtibjocmpkoepoaaGreat


import Derived.Test.YtibjocmpkoepoaaGreatT0
set_option linter.all false
open Bool renaming and_eq_true→c7,false_eq_true→j4,not_eq_false'→E4,not_eq_true'→p6,or_eq_false_iff→J3,true→W,false→F
open List renaming all_eq_true→M1,getElem_of_mem→R3,length_map→A7,map_cons→K0,mem_append→D7,mem_append_left→K8,mem_cons→B6,mem_map→J4,mem_singleton→q8,replicate→c9,take_of_length_le→z7,length→O
open Nat renaming beq→u5,eq_of_beq_eq_true→j5,le_of_ble_eq_true→j9,lt_or_ge→A5,zero_le→O0
open Option renaming some→J,none→K
namespace Go.Proofs.YtibjocmpkoepoaaGreat
open Go.A1 Go.A1.S
attribute [local irreducible] Rx Ry Rn Ex Pf
def EP {e:List Y8}{ty:List Int}(h:u7 (O6 e ty).2 0=W):good (O6 e ty).1:=by
 unfold O6 at h ⊢;split at h
 .simp [o8] at h
 next a ha=>
  split at h
  .have hwf:a.wf:=by
    unfold iP at ha;split at ha
    .split at ha
     next b hb=>
      cases ha;exact (V9 16 _ _ _ hb).2.1
     .cases ha
    .cases ha
   simp_all [Oe]
  grind [o8]
theorem aI5 {c:s5}{n:Nat}:∀(k i:Nat),iX c n k i=0->∀j,i<=j->j<i+k->eo c n j=0
 |0,i,_,j,h1,h2=>V
 |k+1,i,h,j,h1,h2=>by
  unfold iX at h;cases he:u7 (eo c n i) 0 with
  |false =>
   simp_all [Bool.not_false,if_true,o8]
  |true =>
   rw [he] at h
   by_cases hj:j=i
   .grind [eE]
   .exact aI5 k (i+1) h j V V
def ak3 {c:s5}{k:Nat}(h:iL c k=0):1<=O (Y c.k9 k).s6/\O (Y c.k9 k).s6<=8/\∀x,x∈(Y c.k9 k).s6->good x.type:=by
 unfold iL at h;cases hc:(!s7 (O (Y c.k9 k).s6) 1 8|| !s7 (Y c.k9 k).erase 0 1|| !s7 (Y c.k9 k).cN 0 1048576) with
 |true=>simp_all
 |false =>
  rw [hc] at h;simp [J3,E4,s7,c7,s8,decide_eq_true_eq] at hc;refine ⟨V,V,λx hx=>?_⟩;obtain ⟨j,hj,rfl⟩:=R3 hx;have h1:=aI5 _ _ h j V V;rw [<- E6 hj];unfold eo at h1
  by_cases hg:good (Y (Y c.k9 k).s6 j).type
  .exact hg
  .have ht:(!u7 (Y (Y c.k9 k).s6 j).type 1&& !u7 (Y (Y c.k9 k).s6 j).type 2)=W:=by
    unfold good at hg;simp [o8,c7,p6,beq_eq_false_iff_ne];omega
   grind
theorem uP {ty:List Int}:∀(l:List Gz) (seen:List M3),aP ty seen l=0->∀e,e∈l->(e.agg&&u7 e.f 0)=W\/u7 (O6 e.expr ty).2 0=W
 |[],_,_,e,he=>by cases he
 |a::l,seen,h,e,he=>by
  unfold aP at h;split at h
  .omega
  .split at h
   .omega
   .split at h
    .omega
    .split at h
     next h0=>
      rcases B6.1 he with rfl|he
      .exact .inl h0
      .exact uP l _ h e he
     .split at h
      .simp_all [o8]
      .split at h
       .omega
       .rcases B6.1 he with rfl|he
        .simp_all
        .exact uP l _ h e he
theorem aM {c:s5}(hv:F0 c=W):∀(n k:Nat),k<n->k<s5.ns c->1<=O (P4 c k)/\O (P4 c k)<=8/\∀x,x∈P4 c k->good x
 |0,k,h,_=>V
 |n+1,k,h,hk=>by
  obtain ⟨h1,_,h3⟩:=xC hv;have hnl:=iH c;have he:=h1 k V
  rcases A5 k (O c.k9) with ht|ht
  .obtain ⟨a1,a2,a3⟩:=ak3 (nI he ht)
   simp_all [P4,Y,gu.type,jt,if_pos,J4]
  .have Ai:=fh he ht hk
   unfold Y6 at Ai;split at Ai
   .omega
   .split at Ai
    .omega
    next hl=>
     split at Ai
     .omega
     next hsh=>
      simp only [Bool.not_eq_true,E4,p6,Bool.not_eq_false] at hsh;have hf:=M4 c (Z2 c k).left k;split at Ai
      next h2=>
       have e:P4 c k=P4 c (I4 c (Z2 c k).left k).toNat:=by
        have h0:0<=I4 c (Z2 c k).left k:=by
         simp_all [Bool.or_eq_true,s9,decide_eq_true_eq,not_or]
        conv=>lhs;unfold P4 jt
        rw [if_neg V,show (Y c.views (k - O c.k9))=Z2 c k from rfl,if_pos h2,X5 c V]
       have h0:0<=I4 c (Z2 c k).left k:=by
        simp_all [Bool.or_eq_true,s9,decide_eq_true_eq,not_or]
       rw [e];exact aM hv n _ V V
      next h2=>
       split at Ai
       .simp_all [o8]
       .split at Ai
        .simp_all [o8]
        .split at Ai
         .omega
         .have e:P4 c k=bA (Z2 c k) (ins c k):=by
           unfold P4 jt;rw [if_neg V,show (Y c.views (k - O c.k9))=Z2 c k from rfl,if_neg h2];rfl
          have hlen:1<=O (Z2 c k).items+O (Z2 c k).F4/\O (Z2 c k).items+O (Z2 c k).F4<=8:=by
           unfold cn mV at hsh;rw [if_neg h2] at hsh;split at hsh<;>simp only [c7,p6,J3,o8,beq_eq_false_iff_ne,s8,decide_eq_true_eq] at hsh<;>omega
          have hg:=uP _ _ Ai;rw [e];refine ⟨by grind [bA],by grind [bA],λx hx=>?_⟩;simp only [bA,D7,J4] at hx
          rcases hx with ⟨y,hy,rfl⟩|⟨y,hy,rfl⟩
          .rcases hg ⟨F,y.name, -1,y.expr⟩ (K8 _ (J4.2 ⟨y,hy,rfl⟩)) with h|h
           all_goals simp_all [EP]
          .unfold zQ
           split
           .exact .inl rfl
           next h0=>
            rcases hg ⟨W,y.name,y.func,y.expr⟩ (List.mem_append_right _ (J4.2 ⟨y,hy,rfl⟩)) with h|h
            all_goals simp_all [Bool.true_and,EP]
theorem Mm {s:M3}:∀(l:List M3) (i:Nat),s∈l->(i:Int)<=K9 s l i/\K9 s l i<i+O l
 |[],_,h=>by cases h
 |x::r,i,h=>by
  simp only [K9];split
  .simp;omega
  next hx=>
   rcases B6.1 h with rfl|h
   .simp [D2] at hx
   .have:=Mm r (i+1) h
    simp at this ⊢;omega
def aw2 {c:s5}(hv:F0 c=W){s:M3}(h:s∈s5.sn c):∃i:Nat,Dp c s=(i:Int)/\i<s5.ns c:=by
 have hl:=aK c;have h1:=Mm (s5.sn c) 0 h;have e:Dp c s=K9 s (s5.sn c) 0:=by
  unfold Dp I4;rw [hv,if_pos rfl,z7 V]
 rw [e];refine ⟨(K9 s (s5.sn c) 0).toNat,V,V⟩
def Mr {c:s5}(hv:F0 c=W){i:Nat}(hi:i<s5.ns c):Y2 c i=W:=by
 unfold Y2;rw [hv];simp [s8,s9];omega
end Go.Proofs.YtibjocmpkoepoaaGreat
namespace Go.A1.Sh
mutual
def SD.np:SD->Bool
 | .slice _ _ _ row=>L0.np row
 | .pr _ _=>F
 |_=>W
def L0.np:List SD->Bool
 |[]=>W
 |x::xs=>x.np&&L0.np xs
end
mutual
theorem SD.cx {C C' :Ctx}{vs:List Nat}:∀(x:SD) {d:Data},x.np=W->x.g C vs d->x.g C' vs d
 | .top,_,_,_=>by simp [SD.g]
 | .lit _,_,_,h=>by simp_all [SD.g]
 | .bool _,_,_,h=>by simp_all [SD.g]
 | .int ..,_,_,h=>by simp_all [SD.g]
 | .anyI _,_,_,h=>by simp_all [SD.g]
 | .str _,_,_,h=>by simp_all [SD.g]
 | .slice v lo hi row,_,hp,h=>by
  obtain ⟨rows,h1,h2,h3,h4,h5⟩:=h;exact ⟨rows,h1,h2,h3,h4,λr hr=>L0.cx row hp (h5 r hr)⟩
 | .pr _ _,_,hp,_=>by simp [SD.np] at hp
theorem L0.cx {C C' :Ctx}{vs:List Nat}:∀(x:List SD) {d:List Data},L0.np x=W->L0.g C vs x d->L0.g C' vs x d
 |[],_,_,h=>by simp_all [L0.g]
 |x::xs,_,hp,h=>by
  simp [L0.np,c7] at hp;obtain ⟨d,ds,h1,h2,h3⟩:=h;exact ⟨d,ds,h1,SD.cx x hp.1 h2,L0.cx xs hp.2 h3⟩
end
end Go.A1.Sh
namespace Go.Proofs.YtibjocmpkoepoaaGreat
open Go.A1 Go.A1.S Go.A1.Sh
attribute [local irreducible] Rx Ry Rn Ex Pf
variable [Inhabited vK]
def pS:SD:= .pr 0 (.str 2)
def rV1:List SD:=[.str 2,iR 0 2,.str 2,.str 2,.slice K 0 1 [iR 0 23,iR 0 23],.slice K 0 13 rTm,.slice K 0 3 [.str 2,.slice K 1 4 rTm],.bool .vQ,.slice K 0 3 [.str 2,iR 0 4,.slice K 0 4 rTm]]
def r2:List SD:=[.str 2,.str 2,iR 0 2]
def r3:List SD:=[.str 2,.str 2,iR 0 2,iR 0 2,iR 0 16,iR 0 3]
def r4:List SD:=[.str 2,.str 2,iR 0 2,iR 0 9]
def r5:List SD:=[.str 2,.str 2,iR 0 3]
def r6:List SD:=[.str 2,.str 2]
def r7:List SD:=[.str 2,.slice K 0 1 [.str 2],iR 0 30]
def e1 (r:List SD):SD:= .slice K 0 0 r
def rB (n:Nat):List SD:=[.slice K 1 3 rT4,.slice K 0 n rV1,e1 r2,e1 r3,e1 r4,e1 r5,e1 r6,e1 r7]
def cG (n:Nat):SV:= .agg (J 1) [.d (.slice K 1 3 [pS,.slice K 2 4 rC4,iR 0 1,iR 0 40]),.d (.slice K 0 n rV1),.d (e1 r2),.d (e1 r3),.d (e1 r4),.d (e1 r5),.d (e1 r6),.d (e1 r7)]
def vwV:SV:= .agg K (rV1.map .d)
def s76:Sh.Spec:=⟨38,[.ptr 0 0,cG 4,.d (.slice K 1 7 [pS])],[.pr 0],l1,[(vwV,[.pr 0])]⟩
def isD:SV->Bool
 | .d _=>W
 |_=>F
def bd3:Sh.Sem:=λ_ f args H l=>match args,H with
 |[.agg (J 1) c,.d (.pr k (.str m))],[]=>if u5 f 86&&u5 k 0&&qp l l0&&c.all isD then J [(.d (.pr 1 (iR 0 2000)),[])] else K
 |[.agg (J 1) c,.d (.pr k (.int _ _ _ _))],[]=>if u5 f 20&&u5 k 1&&qp l l0&&c.all isD then J [(.d (.slice K 1 8 [iR 1 2]),[])] else K
 |_,_=>K
theorem Yn {C:Ctx}{vs:List Nat}:∀{l:List SV} {cs:List c8},z8.g C vs l cs->l.all isD=W->cs.map c8.K7=cs
 |[],_,h,_=>by simp_all [inferInstance,z8.g]
 |x::xs,_,h,hd=>by
  obtain ⟨a,b,rfl,h1,h2⟩:=h;simp only [List.all_cons,c7] at hd;cases x<;>simp only [isD,j4,false_and] at hd;obtain ⟨d,rfl,_⟩:=cw h1;simp [K0,c8.K7];rw [Yn h2 hd.2]
def DB {l:I7}(h:qp l l0=W):l=W8:=by
 simp only [qp,c7] at h;have e1:=j5 h.1.1.1;have e2:=j5 h.1.1.2;have e3:=j5 h.1.2;have e4:=j5 h.2;cases l;subst e1 e2 e3 e4;rfl
def ae4 {f:FuncId}{args:List c8}{v:c8}{P:c8->q6->Prop}(h:Pf A f args v)(hP:P v []):Pq A f args [] W8 P:=have _:Inhabited vK:=inferInstance;⟨v,[],hP,by unfold Pf at h;exact h⟩
def aE0 (xs:List Int){g:s5}(hs:G4 g)(hv:F0 g=W):ia (ct xs g) A bd3:=by
 intro i7 f args H l outs h vs hB az Hc ha hH;have gY:s5.ns g<=1000+1000:=by obtain ⟨f0,f1,_⟩:=hs.sm.oW;grind [s5.ns]
 unfold bd3 at h;split at h
 .split at h
  next hc=>
   simp only [c7] at hc;obtain ⟨⟨⟨c1,c2⟩,c3⟩,c4⟩:=hc;have c1:=j5 c1;have c2:=j5 c2;subst c1 c2;cases h;rw [DB c3];obtain ⟨a0,_,rfl,h0,a1,_,rfl,h1,rfl⟩:=ha;subst hH;obtain ⟨cs,rfl,h2,h3⟩:=h0;have h4:cs.map c8.K7=g.enc.map .d:=h3 1 rfl;rw [Yn h2 c4] at h4;subst h4;obtain ⟨d,rfl,h5⟩:=cw h1;obtain ⟨s,rfl,hm⟩:=h5.1;obtain ⟨i,e,hi⟩:=aw2 hv hm;have p:=ba3 g hs s;rw [e] at p;refine ae4 p ⟨_,q8.2 rfl,dJ ?_,by rfl⟩;exact ⟨⟨i,rfl,hi⟩,(i:Int),rfl,V,V,trivial⟩
  .cases h
 .split at h
  next hc=>
   simp only [c7] at hc;obtain ⟨⟨⟨c1,c2⟩,c3⟩,c4⟩:=hc;have c1:=j5 c1;have c2:=j5 c2;subst c1 c2;cases h;rw [DB c3];obtain ⟨a0,_,rfl,h0,a1,_,rfl,h1,rfl⟩:=ha;subst hH;obtain ⟨cs,rfl,h2,h3⟩:=h0;have h4:cs.map c8.K7=g.enc.map .d:=h3 1 rfl;rw [Yn h2 c4] at h4;subst h4;obtain ⟨d,rfl,h5⟩:=cw h1;obtain ⟨i,rfl,hi⟩:=h5.1;have p:=ad9 g hs i (Mr hv hi);obtain ⟨g1,g2,g3⟩:=aM hv (i+1) i V hi;refine ae4 p ⟨_,q8.2 rfl,dJ ?_,by rfl⟩;refine ⟨(P4 g i).map λt=>[Z t],?_,M,M,(λi h=>by cases h),λr hr=>?_⟩
   .simp [A7]
    congr 1
   .obtain ⟨t,ht,rfl⟩:=J4.1 hr
    refine ⟨Z t,[],rfl,⟨t,rfl,?_,?_,trivial⟩,rfl⟩
    .rcases g3 t ht with h|h<;>omega
    .rcases g3 t ht with h|h<;>omega
  .cases h
 .cases h
theorem chunk {α:Type}{enc:α->List A1.Data}{sz:Nat}(hs:∀a,O (enc a)=sz):∀(rows:List (List A1.Data)) (l:List α),O rows=O l->(∀r,r∈rows->O r=sz)->rows.flatten=l.flatMap enc->rows=l.map enc
 |[],[],_,_,_=>rfl
 |[],_::_,h,_,_=>M
 |_::_,[],h,_,_=>by simp at h
 |r::rows,a::l,h,hr,e=>by
  have h1:=List.append_inj e M;rw [h1.1,chunk hs rows l (by simpa using h) (λr hr' =>hr r (by simp [hr'])) h1.2];rfl
section
variable {C:Ctx} {vs:List Nat} {α:Type} {enc:α->List A1.Data}
def Ks {v:Option Nat}{lo hi:Nat}{row:List SD}{l:List α}(h:(SD.slice v lo hi row).g C vs (C6 enc l))(hs:∀a,O (enc a)=O row:=by intro;rfl):lo<=O l/\O l<=hi/\∀a,a∈l->L0.g C vs row (enc a):=by
 obtain ⟨rows,h1,h2,h3,_,h5⟩:=h;injection h1 with e1 e2
 have:=chunk hs rows l e1.symm (λr hr=>L0.len (h5 r hr)) e2.symm
 grind
def QY {lo hi:Nat}{row:List SD}{l:List α}(h1:lo<=O l)(h2:O l<=hi)(h3:∀a,a∈l->L0.g C vs row (enc a)):(SD.slice K lo hi row).g C vs (C6 enc l):=by
 simp_all [inferInstance,SD.g,C6,List.flatMap]<;>grind
end
structure Bt (n:Nat)(c:s5):Prop where
 sh:∀C vs,L0.g C vs (rB n) c.enc
 val:F0 c=W
 sm:G4 c
def Bt.of {C:Ctx}{vs:List Nat}{n:Nat}{c:s5}(h:L0.g C vs (rB n) c.enc)(hp:L0.np (rB n)=W)(hc:L0.cl (rB n)=W)(hv:F0 c=W)(hs:G4 c):Bt n c:=have _:Inhabited vK:=inferInstance;⟨λ_ _=>L0.dG _ hc (L0.cx _ hp h),hv,hs⟩
def bb9 (n:Nat):L0.np (rB n)=W:=by rfl
def bb8 (n:Nat):L0.cl (rB n)=W:=by rfl
section
variable {n:Nat} {c:s5} (h:Bt n c)
include h
theorem Bt.k9:1<=O c.k9/\O c.k9<=3/\∀C vs a,a∈c.k9->L0.g C vs rT4 a.enc:=by
 have h1:∀C vs,(SD.slice K 1 3 rT4).g C vs (C6 jV.enc c.k9):=λC vs=>by
  have:=h.sh C vs
  grind [rB,s5.enc,sc]
 have h2:=Ks (h1 (ct [] c) []);exact ⟨h2.1,h2.2.1,λC vs a ha=>(Ks (h1 C vs)).2.2 a ha⟩
theorem Bt.views:O c.views<=n/\∀C vs a,a∈c.views->L0.g C vs rV1 a.enc:=by
 have h1:∀C vs,(SD.slice K 0 n rV1).g C vs (C6 Vw.enc c.views):=λC vs=>by
  have:=h.sh C vs
  grind [rB,s5.enc,sc]
 have h2:=Ks (h1 (ct [] c) []);exact ⟨h2.2.1,λC vs a ha=>(Ks (h1 C vs)).2.2 a ha⟩
end
def aE1:Sh.Sem:=λ_ f args H l=>match args,H with
 |[.agg (J 1) c],[]=>if u5 f 39&&qp l l0&&c.all isD then J [(.d (.slice K 1 7 [pS]),[])] else K
 |_,_=>K
def cd6 (c:s5)(hf:c.oW):Pf A 39 [cat c] (.d (C6 encS (s5.sn c))):=by
 have _:Inhabited vK:=inferInstance;obtain ⟨f0,f1,_⟩:=hf;refine Pf.gr 5 ?_;refine Ex.T9 (λk T H=>∃(i:Nat) (acc:List M3),T=[.any,.ptr 0 0,.any,D9 1 encS acc,.d (Z i),.any]/\H=[.cells (c.enc.map .d)]/\i+k=O c.k9/\acc=(c.k9.take i).map jV.name) ?_ (k:=O c.k9) ⟨0,[],rfl,rfl,U,U⟩;rintro k _ _ ⟨i,acc,rfl,rfl,hk,hacc⟩;have hl:O acc=i:=by rw [hacc];simp;omega
 repeat' (first|refine gy ?_|refine ft (λht=>?_) λht=>?_|refine ⟨_,rfl,?_⟩|fail)
 .have h1:=C4 ht
  refine kk ⟨i+1,acc++[(Y c.k9 i).name],rfl,rfl,V,?_⟩;rw [E2 V,hacc];simp
 have h1:=B5 ht;rw [z7 V] at hacc;clear ht h1 hk hl;subst hacc;refine Ex.T9 (λk T H=>∃(i:Nat) (acc:List M3),T=[.any,.ptr 0 0,.any,D9 1 encS acc,.any,.d (Z i)]/\H=[.cells (c.enc.map .d)]/\i+k=O c.views/\acc=c.k9.map jV.name++(c.views.take i).map Vw.name) ?_ (k:=O c.views) ⟨0,c.k9.map jV.name,rfl,rfl,U,U⟩;rintro k _ _ ⟨i,acc,rfl,rfl,hk,hacc⟩;have hl:O acc=O c.k9+i:=by rw [hacc];simp;omega
 repeat' (first|refine gy ?_|refine ft (λht=>?_) λht=>?_|refine ⟨_,rfl,?_⟩|fail)
 .have h1:=C4 ht
  refine kk ⟨i+1,acc++[(Y c.views i).name],rfl,rfl,V,?_⟩;rw [E2 V,hacc];simp
 have h1:=B5 ht;rw [z7 V] at hacc;clear ht h1 hk hl;subst hacc;simp [j3,C6,D9,s5.sn]
def Bt.name {n:Nat}{c:s5}(h:Bt n c){s:M3}(hs:s∈s5.sn c):O s<=2:=by
 unfold s5.sn at hs
 rcases D7.1 hs with hs|hs
 .obtain ⟨t,ht,rfl⟩:=J4.1 hs
  have:=h.k9.2.2 (ct [] c) [] t ht;unfold rT4 jV.enc at this;obtain ⟨x,y,e,h1,_⟩:=sc this;cases e;simp only [SD.g] at h1;obtain ⟨s,e,h2⟩:=h1;cases e;exact h2
 .obtain ⟨t,ht,rfl⟩:=J4.1 hs
  have:=h.views.2 (ct [] c) [] t ht;unfold rV1 Vw.enc at this;obtain ⟨x,y,e,h1,_⟩:=sc this;cases e;simp only [SD.g] at h1;obtain ⟨s,e,h2⟩:=h1;cases e;exact h2
def TF (xs:List Int){n:Nat}{g:s5}(hg:Bt n g)(hn:n<=4):ia (ct xs g) A aE1:=by
 intro i7 f args H l outs h vs hB az Hc ha hH;unfold aE1 at h;split at h
 next c=>
  split at h
  next hc=>
   simp only [c7] at hc;obtain ⟨⟨c1,c3⟩,c4⟩:=hc;have c1:=j5 c1;subst c1;cases h;rw [DB c3];simp only [z8.g] at ha;obtain ⟨a0,_,rfl,h0,rfl⟩:=ha;simp only [L4.g] at hH;subst hH;simp only [SV.g] at h0;obtain ⟨cs,rfl,h2,h3⟩:=h0;have h4:cs.map c8.K7=g.enc.map .d:=h3 1 rfl;rw [Yn h2 c4] at h4;subst h4;have ht:=hg.k9;have hw:=hg.views;have hl:=aK g;have pH:s5.ns g=O g.k9+O g.views:=rfl;refine ae4 (cd6 g hg.sm.sm.oW) ⟨_,q8.2 rfl,dJ (QY V V λs hs=>?_),by simp only [L4.g]⟩;simp only [L0.g,SD.g,encS,pS];exact ⟨_,_,rfl,⟨⟨s,rfl,hs⟩,s,rfl,hg.name hs⟩,rfl⟩
  .cases h
 .cases h
def ci8 (l:List Sh.Spec):Sh.Sem:=dm (dm bd3 aE1) (fC l)
section
variable {xs:List Int} (hx:O xs<=35184372088832) {g:s5} {n:Nat} (hg:Bt n g) (hn:n<=4)
include hx hg hn
def aE3 {l:List Sh.Spec}(h:tS (ct xs g) l):ia (ct xs g) A (ci8 l):=oo (oo (aE0 xs hg.sm hg.val) (TF xs hg hn)) (Ca hx h)
theorem o76:s76.ok (ct xs g) A :=
 xl (kp:=[]) (js:=[]) (fuel:=40) (aE3 hx hg hn (.cons (o35 hx g) (.cons (cb3 hx g) (.cons (ab1 hx g) (.cons (bs3 hx g) .nil))))) eG wJ rfl rfl (by kernel_rfl)
end
end Go.Proofs.YtibjocmpkoepoaaGreat
namespace Go.Proofs.YtibjocmpkoepoaaGreat
open Go.A1 Go.A1.S Go.A1.Sh
attribute [local irreducible] Rx Ry Rn Ex Pf
variable [Inhabited vK]
def bd4:Sh.Sem:=λi7 f args H l=>match args,H with
 |[.ptr 0 0,.agg (J 1) c,.d ns],[.pr 0]=>if u5 f 38&&qp l l1&&c.all isD&&SD.le i7 ns (.slice K 1 7 [pS]) then J [(vwV,[.pr 0])] else K
 |_,_=>K
def Bt.shG {n:Nat}{c:s5}(h:Bt n c)(hn:n<=4)(xs:List Int)(vs:List Nat):(cG 4).g (ct xs c) vs (cat c):=by
 obtain ⟨a1,a2,a3⟩:=h.k9;obtain ⟨b1,b2⟩:=h.views;have hs:=h.sh (ct xs c) vs;unfold rB s5.enc at hs;obtain ⟨_,_,e,_,hs⟩:=sc hs;cases e;obtain ⟨_,_,e,_,hs⟩:=sc hs;cases e;have h1:(SD.slice K 1 3 [pS,.slice K 2 4 rC4,iR 0 1,iR 0 40]).g (ct xs c) vs (C6 jV.enc c.k9):=QY a1 a2 λt ht=>by
  have:=a3 (ct xs c) vs t ht;unfold rT4 jV.enc at this;obtain ⟨_,_,e,g1,g2⟩:=sc this;cases e;rw [jV.enc,L0.g];refine ⟨_,_,rfl,?_,g2⟩;simp only [pS,SD.g] at g1 ⊢;exact ⟨⟨t.name,rfl,by unfold s5.sn;exact K8 _ (J4.2 ⟨t,ht,rfl⟩)⟩,g1⟩
 have h2:(SD.slice K 0 4 rV1).g (ct xs c) vs (C6 Vw.enc c.views):=QY (O0 _) V λt ht=>b2 (ct xs c) vs t ht
 have h3:L0.g (ct xs c) vs [.slice K 1 3 [pS,.slice K 2 4 rC4,iR 0 1,iR 0 40],.slice K 0 4 rV1,e1 r2,e1 r3,e1 r4,e1 r5,e1 r6,e1 r7] c.enc:=by
  rw [L0.g];refine ⟨_,_,rfl,h1,?_⟩;rw [L0.g];exact ⟨_,_,rfl,h2,hs⟩
 simp only [cG,SV.g];refine ⟨_,rfl,z8.QV h3,λk hk=>?_⟩;cases hk;show (c.enc.map c8.d).map c8.K7=c.enc.map c8.d
 rw [List.map_map];rfl
def aE4 {xs:List Int}(hx:O xs<=35184372088832){g:s5}{n:Nat}(hg:Bt n g)(hn:n<=4):ia (ct xs g) A bd4:=by
 intro i7 f args H l outs h vs hB az Hc ha hH;unfold bd4 at h;split at h
 next c ns=>
  split at h
  next hc=>
   simp only [c7] at hc;obtain ⟨⟨⟨c1,c3⟩,c4⟩,c5⟩:=hc;have c1:=j5 c1;subst c1;cases h;have hl:l=l1:=by
    simp only [qp,c7] at c3;have e1:=j5 c3.1.1.1;have e2:=j5 c3.1.1.2;have e3:=j5 c3.1.2;have e4:=j5 c3.2;cases l;simp only [l1] at e1 e2 e3 e4;subst e1 e2 e3 e4;rfl
   subst hl;simp only [z8.g] at ha;obtain ⟨a0,_,rfl,h0,a1,_,rfl,h1,a2,_,rfl,h2,rfl⟩:=ha;simp only [SV.g] at h1;obtain ⟨cs,rfl,h3,h4⟩:=h1;have h4:cs.map c8.K7=g.enc.map .d:=h4 1 rfl;rw [Yn h3 c4] at h4;subst h4;obtain ⟨d,rfl,h5⟩:=cw h2;have h6:=SD.dM hB _ c5 h5;obtain ⟨_,hk⟩:=o76 hx hg hn;obtain ⟨v,H1,⟨o,o1,o2,o3⟩,hm⟩:=hk [a0,cat g,.d d] Hc (by
    simp only [s76,z8.g];exact ⟨_,_,rfl,h0,_,_,rfl,hg.shG hn xs [],_,_,rfl,dJ (SD.dG _ (by rfl) h6),rfl⟩) (L4.dG _ (by rfl) hH)
   have:=q8.1 o1;subst this;exact ⟨v,H1,⟨_,q8.2 rfl,SV.dG _ (by rfl) o2,L4.dG _ (by rfl) o3⟩,hm⟩
  .cases h
 .cases h
def bB9:Sh.Sem:=dm (dm bd4 aE1) Cb
def aE2 {xs:List Int}(hx:O xs<=35184372088832){g:s5}{n:Nat}(hg:Bt n g)(hn:n<=4):ia (ct xs g) A bB9:=oo (oo (aE4 hx hg hn) (TF xs hg hn)) (Ek xs hx g)
def vT (n i:Nat)(w:SV):List SV:=[.ptr 0 0,w,.d (.lit (.int .i64 n)),.ptr 1 0,.ptr 2 0,.d (.lit (.int .i64 i)),w]
def vH (t i:Nat):List SO:=[.pr 0,.cells (J t) ((rB i).map .d),zC]
def Qh:q7:=match a13.body with
 | .seq _ (.seq (.seq _ (.block _ (.loop _ b))) _)=>b
 |_=> .bad
def EY (n i:Nat):Bool:=match dn A bB9 Zr [] l1 1 40 Qh ⟨vT n i .any,vH 1 i,[]⟩ with
 |some outs=>outs.all λo=>match o.1 with
  | .normal=>Nat.blt i n&&z8.le W5 o.2.i7 o.2.T (vT n (i+1) .top)&&(L4.le W5 o.2.i7 (o.2.H.take 3) (vH 0 (i+1))||L4.le W5 o.2.i7 (o.2.H.take 3) (vH 1 (i+1)))
  | .exit e=>u5 e 0&&u5 i n&&z8.le W5 o.2.i7 o.2.T (vT n i .top)&&L4.le W5 o.2.i7 o.2.H (vH 1 i)
  | .ret=>F
 |none=>F
theorem TV:EY 3 0=W/\EY 3 1=W/\EY 3 2=W/\EY 3 3=W:=have _:Inhabited vK:=inferInstance;⟨by kernel_rfl,by kernel_rfl,by kernel_rfl,by kernel_rfl⟩
theorem Oi:EY 4 0=W/\EY 4 1=W/\EY 4 2=W/\EY 4 3=W/\EY 4 4=W:=have _:Inhabited vK:=inferInstance;⟨by kernel_rfl,by kernel_rfl,by kernel_rfl,by kernel_rfl,by kernel_rfl⟩
def al5 {n i:Nat}(hn:n=3\/n=4)(hi:i<=n):EY n i=W:=by
 rcases hn with rfl|rfl
 .match i,hi with
  |0,_=>exact TV.1
  |1,_=>exact TV.2.1
  |2,_=>exact TV.2.2.1
  |3,_=>exact TV.2.2.2
 .match i,hi with
  |0,_=>exact Oi.1
  |1,_=>exact Oi.2.1
  |2,_=>exact Oi.2.2.1
  |3,_=>exact Oi.2.2.2.1
  |4,_=>exact Oi.2.2.2.2
def zO:y6:= .cells [.own 4 0 [],.own 9 0 [],.own 3 0 [],.own 6 0 [],.own 4 0 [],.own 3 0 [],.own 2 0 [],.own 3 0 []]
def be7 (xs:List Int)(n:Nat)(k:Nat)(s:St):Prop:=∃(i:Nat) (c:s5) (q:Nat) (w1 w6:c8) (tl:q6),i+k=n/\Bt i c/\q<=4 * O xs/\s=⟨[.ptr 0 0,w1,.d (Z (n:Int)),.ptr 1 0,.ptr 2 0,.d (Z (i:Int)),w6],tp xs q:: .cells (c.enc.map .d)::zO::tl⟩
def Aq {C:Ctx}{vs:List Nat}{n:Nat}{v:c8}(h:(Ht n).g C vs v):v= .own n 0 []:=by
 have _:Inhabited vK:=inferInstance;simp only [Ht,SV.g,SD.g] at h;obtain ⟨len,cells,rfl,e⟩:=h;cases e;rfl
def bD2 {C:Ctx}{vs:List Nat}{o:y6}(h:zC.g C vs o):o=zO:=by
 obtain ⟨cs,rfl,h,_⟩:=h;simp only [z8.g] at h;obtain ⟨a0,_,rfl,h0,a1,_,rfl,h1,a2,_,rfl,h2,a3,_,rfl,h3,a4,_,rfl,h4,a5,_,rfl,h5,a6,_,rfl,h6,a7,_,rfl,h7,rfl⟩:=h;rw [Aq h0,Aq h1,Aq h2,Aq h3,Aq h4,Aq h5,Aq h6,Aq h7];rfl
def bD1 {C:Ctx}{vs:List Nat}:zC.g C vs zO:=by
 have _:Inhabited vK:=inferInstance;refine ⟨_,rfl,?_,λk h=>by cases h⟩;show z8.g C vs [Ht 4,Ht 9,Ht 3,Ht 6,Ht 4,Ht 3,Ht 2,Ht 3] [.own 4 0 [],.own 9 0 [],.own 3 0 [],.own 6 0 [],.own 4 0 [],.own 3 0 [],.own 2 0 [],.own 3 0 []]
 have o:∀n,(Ht n).g C vs (.own n 0 []):=λn=>by
  unfold Ht Sh.SV.g;exact ⟨0,[],rfl,by unfold Sh.SD.g;rfl⟩
 exact ⟨_,_,rfl,o 4,_,_,rfl,o 9,_,_,rfl,o 3,_,_,rfl,o 6,_,_,rfl,o 4,_,_,rfl,o 3,_,_,rfl,o 2,_,_,rfl,o 3,rfl⟩
def QU {C:Ctx}{vs:List Nat}{x:A1.Data}{v:c8}(h:(SV.d (.lit x)).g C vs v):v= .d x:=by
 have _:Inhabited vK:=inferInstance;obtain ⟨d,rfl,h2⟩:=cw h;simp only [SD.g] at h2;rw [h2]
def aI2 {xs:List Int}{g:s5}{vs:List Nat}{t i:Nat}{o:y6}(ht:t=0\/(t=1/\F0 g=W/\G4 g))(h:(SO.cells (J t) ((rB i).map .d)).g (ct xs g) vs o):∃c,o= .cells (c.enc.map .d)/\Bt i c:=by
 obtain ⟨cs,rfl,h1,h2⟩:=h;obtain ⟨ds,rfl,h3⟩:=YR h1;have e:(ds.map c8.d).map c8.K7=ds.map c8.d:=by rw [List.map_map];rfl
 have inj:∀{a b:List A1.Data},a.map c8.d=b.map c8.d->a=b:=by
  intro a
  induction a with
  |nil=>intro b h;cases b with|nil=>rfl|cons=>simp at h
  |cons x a ih=>intro b h;cases b with|nil=>simp at h|cons y b=>simp at h;rw [h.1,ih (by simpa using h.2)]
 rcases ht with rfl|⟨rfl,hv,hs⟩
 .obtain ⟨c,h4,h5,h6⟩:=h2 0 rfl
  rw [e] at h4;have:=inj h4;subst this;exact ⟨c,rfl,Bt.of h3 (bb9 i) (bb8 i) h5 h6⟩
 .have h4:(ds.map c8.d).map c8.K7=g.enc.map .d:=h2 1 rfl
  rw [e] at h4;have:=inj h4;subst this;exact ⟨g,rfl,Bt.of h3 (bb9 i) (bb8 i) hv hs⟩
def s32 (n:Nat):Sh.Spec:=⟨13,[.ptr 0 0,Yt,.d (.lit (.int .i64 n))],[.pr 0],l1,[(.agg (J 0) ((rB n).map .d),[.pr 0])]⟩
section
variable {xs:List Int} (hx:O xs<=35184372088832)
include hx
def bt8 (n:Nat)(hn:n=3\/n=4)(k:Nat)(s:St)(h:be7 xs n k s):Ex A l1 1 Qh (clean [W,F,W,W,W,W,F] 1 3 s) (yM (λx s=>x= .exit 0/\∃(c:s5) (q:Nat) (w1 w6:c8),Bt n c/\q<=4 * O xs/\s=⟨[.ptr 0 0,w1,.d (Z (n:Int)),.ptr 1 0,.ptr 2 0,.d (Z (n:Int)),w6],[tp xs q,.cells (c.enc.map .d),zO]⟩) λs' =>∃k',k' <k/\be7 xs n k' s'):=by
 obtain ⟨i,c,q,w1,w6,tl,hk,hc,hq,rfl⟩:=h;have hcl:clean [W,F,W,W,W,W,F] 1 3 ⟨[.ptr 0 0,w1,.d (Z (n:Int)),.ptr 1 0,.ptr 2 0,.d (Z (i:Int)),w6],tp xs q:: .cells (c.enc.map .d)::zO::tl⟩=⟨[.ptr 0 0,.any,.d (Z (n:Int)),.ptr 1 0,.ptr 2 0,.d (Z (i:Int)),.any],[tp xs q,.cells (c.enc.map .d),zO]⟩:=by
  unfold clean;rw [if_pos ⟨Nat.le_of_eq rfl,O0 _⟩];rfl
 rw [hcl];have hv:=al5 (n:=n) (i:=i) hn V;unfold EY at hv;split at hv
 next outs hx2=>
  have h0:CS.g (ct xs c) [] ⟨vT n i .any,vH 1 i,[]⟩ ⟨[.ptr 0 0,.any,.d (Z (n:Int)),.ptr 1 0,.ptr 2 0,.d (Z (i:Int)),.any],[tp xs q,.cells (c.enc.map .d),zO]⟩:=by
   refine ⟨by simp [vT,z8.g,SV.g,SD.g,Z],?_,rfl,λi lo hi h=>by simp at h⟩;simp only [vH,L4.g];refine ⟨_,_,rfl,⟨q,hq,rfl⟩,_,_,rfl,⟨_,rfl,z8.QV (hc.sh _ _),λk hk=>?_⟩,_,_,rfl,bD1,rfl⟩;cases hk;show (c.enc.map c8.d).map c8.K7=c.enc.map c8.d
   rw [List.map_map];rfl
  refine (jb (aE2 hx hc V) (Mi xs c l1 1) Qh h0 hx2).mono ?_;rintro x st ⟨o,o1,rfl,ws,_,g1,g2,g3⟩;have hv:=M1.1 hv o o1;have hT:∀{j:Nat},z8.le W5 o.2.i7 o.2.T (vT n j .top)=W->∃u1 u6,st.T=[.ptr 0 0,u1,.d (Z (n:Int)),.ptr 1 0,.ptr 2 0,.d (Z (j:Int)),u6]:=λ{j} h=>by
   have:=z8.dM g3 eG (C:=ct xs c) _ h g1;simp only [vT,z8.g] at this;obtain ⟨a0,_,e,h0,a1,_,rfl,_,a2,_,rfl,h2,a3,_,rfl,h3,a4,_,rfl,h4,a5,_,rfl,h5,a6,_,rfl,_,rfl⟩:=this;rw [e,di h0,QU h2,di h3,di h4,QU h5];exact ⟨a1,a6,rfl⟩
  have hH:∀{t j:Nat} {H:q6},t=0\/t=1->L4.g (ct xs c) ws (vH t j) H->∃c' q',Bt j c' /\q' <=4 * O xs/\H=[tp xs q',.cells (c'.enc.map .d),zO]:=λ{t j H} ht h=>by
   simp only [vH,L4.g] at h;obtain ⟨a0,_,rfl,⟨q',hq',rfl⟩,a1,_,rfl,h1,a2,_,rfl,h2,rfl⟩:=h;obtain ⟨c',rfl,h3⟩:=aI2 (ht.imp id λe=>⟨e,hc.val,hc.sm⟩) h1;rw [bD2 h2];exact ⟨c',q',h3,hq',rfl⟩
  cases he:o.1 with
  |ret=>rw [he] at hv;cases hv
  |normal =>
   rw [he] at hv;simp only [c7,Bool.or_eq_true] at hv;obtain ⟨⟨v1,v2⟩,v3⟩:=hv;have v1:i<n:=j9 v1;obtain ⟨u1,u6,eT⟩:=hT v2;have hH3:∃t,(t=0\/t=1)/\L4.g (ct xs c) ws (vH t (i+1)) (st.H.take 3):=by
    rcases v3 with v3|v3
    .exact ⟨0,.inl rfl,L4.dM g3 eG v3 (L4.take g2 3)⟩
    .exact ⟨1,.inr rfl,L4.dM g3 eG v3 (L4.take g2 3)⟩
   obtain ⟨t,ht,h4⟩:=hH3;obtain ⟨c',q',h5,h6,h7⟩:=hH ht h4;refine kk ⟨i+1,c',q',u1,u6,st.H.drop 3,V,h5,h6,?_⟩;have e:st.H=st.H.take 3++st.H.drop 3:=(List.take_append_drop 3 st.H).symm;cases st;simp only at eT e h7;rw [h7] at e;rw [eT,e];simp
  |exit e =>
   rw [he] at hv;simp only [c7] at hv;obtain ⟨⟨⟨v1,v2⟩,v3⟩,v4⟩:=hv;have v1:=j5 v1;have v2:=j5 v2;subst v1 v2;obtain ⟨u1,u6,eT⟩:=hT v3;obtain ⟨c',q',h5,h6,h7⟩:=hH (.inr rfl) (L4.dM g3 eG v4 g2);refine ⟨rfl,c',q',u1,u6,h5,h6,?_⟩;cases st;simp only at eT h7;rw [eT,h7]
 .cases hv
theorem o32 (g:s5)(n:Nat)(hn:n=3\/n=4):(s32 n).ok (ct xs g) A:=by
 refine ⟨by rcases hn with rfl|rfl<;>kernel_rfl,λaz Hc ha hH=>?_⟩;simp only [s32,z8.g] at ha;obtain ⟨a0,_,rfl,h0,a1,_,rfl,h1,a2,_,rfl,h2,rfl⟩:=ha;simp only [s32,L4.g] at hH;obtain ⟨_,_,rfl,⟨q,hq,rfl⟩,rfl⟩:=hH;have h0:=di h0;have h2:=QU h2;subst h0 h2;have hB:Bg [] []:=⟨rfl,λi lo hi h=>by simp at h⟩;simp only [Yt,SV.g] at h1;obtain ⟨cs,rfl,h3,h4⟩:=h1;have h5:z8.g (ct xs g) [] ((rB 0).map .d) cs:=z8.dM hB (fact:=W5) eG _ (by kernel_rfl) h3;obtain ⟨c,e,hc⟩:=aI2 (xs:=xs) (g:=g) (vs:=[]) (t:=0) (i:=0) (o:= .cells cs) (.inl rfl) ⟨cs,rfl,h5,h4⟩;cases e;refine Pq.run (b:=1) [.ptr 0 0,cat c,.d (Z (n:Int)),.any,.any,.any,.any] rfl rfl rfl rfl rfl ?_;unfold tp;refine gr ?_;refine Ex.loop (be7 xs n) (λk s hs=>(bt8 hx n hn k s hs).mono ?_) (k:=n) ⟨0,c,q,_,_,[],V,hc,hq,rfl⟩;rintro x s h;cases x with
 |normal=>exact h
 |ret=>exact absurd h.1 U
 |exit e =>
  obtain ⟨e,c',q',w1,w6,h5,h6,rfl⟩:=h;cases e;unfold tp zO;show Ex _ _ _ _ _ _
  refine gr ?_;refine ⟨_,_,rfl,_,q8.2 rfl,?_,?_⟩
  .simp only [SV.g]
   refine ⟨_,rfl,z8.QV (h5.sh _ _),λk hk=>?_⟩;cases hk;exact ⟨c',rfl,h5.val,h5.sm⟩
  .simp only [L4.g]
   exact ⟨_,_,rfl,⟨q',h6,rfl⟩,rfl⟩
end
end Go.Proofs.YtibjocmpkoepoaaGreat
namespace Go.Proofs.YtibjocmpkoepoaaGreat
open Go.A1 Go.A1.S Go.A1.Sh
attribute [local irreducible] Rx Ry Rn Ex Pf
section
variable [Inhabited vK]
def cg3 (xs:List Int)(h:O xs<=17592186043904):Pq A 12 [.d (ints xs)] [] W8 λv H1=>v= .ptr 0 0/\H1=[tp xs 0]:=by
 have _:Inhabited vK:=inferInstance;refine Pq.go 1 ?_;have e:ints xs=C6 (λn=>[Z n]) xs:=by simp [ints,C6,List.flatMap_singleton']
 rw [e];refine gr ?_;refine Ry.pure (v:= .own 1 0 []) (rs:=[]) rfl (by rfl) ?_;refine gr ?_;exact ⟨_,_,rfl,rfl,by simp [splice,tp,rq,opw,lk];exact ⟨rfl,rfl⟩⟩
end
def noC:s5:=⟨[],[],[],[],[],[],[],[]⟩
def bk4 {xs:List Int}{g:s5}{vs:List Nat}{l:List SD}{v:c8}(h:(SV.agg (J 0) (l.map .d)).g (ct xs g) vs v):∃c,v=cat c/\F0 c=W/\G4 c/\L0.g (ct xs g) vs l c.enc:=by
 simp only [Sh.SV.g] at h;obtain ⟨cs,rfl,h0,h⟩:=h;obtain ⟨ds,rfl,h3⟩:=YR h0;obtain ⟨c,hc,h1,h2⟩:=h 0 rfl;have e:(ds.map c8.d).map c8.K7=ds.map c8.d:=by simp [c8.K7]
 rw [e] at hc;have e2:ds=c.enc:=(List.map_inj_right (λ_ _ h=>by cases h;rfl)).1 hc;subst e2;exact ⟨c,rfl,h1,h2,h3⟩
def aR8 {xs:List Int}(hx:O xs<=17592186043904){n:Nat}(hn:n=3\/n=4):∃(c0 c:s5) (q0 q:Nat),Bt n c/\Pm A 12 [.d (ints xs)] [] W8 (.ptr 0 0) [tp xs 0]/\Pm A 14 [.ptr 0 0,.d (Z 3)] [tp xs 0] l1 (cat c0) [tp xs q0] /\
  Pm A 13 [.ptr 0 0,cat c0,.d (Z (n:Int))] [tp xs q0] l1 (cat c) [tp xs q]/\q<=4 * O xs:=by
 obtain ⟨v,H1,⟨rfl,rfl⟩,p12⟩:=cg3 xs hx;obtain ⟨v,H1,⟨o,o1,o2,o3⟩,p14⟩:=(o33 V noC:(s33 3).ok (ct xs noC) A).2 [.ptr 0 0,.d (Z 3)] [tp xs 0] (by
  simp only [s33,Sh.z8.g];exact ⟨_,_,rfl,rfl,_,_,rfl,dJ (by simp only [Sh.SD.g];rfl),rfl⟩) (by
  simp only [s33,Sh.L4.g];exact ⟨_,_,rfl,⟨0,O0 _,rfl⟩,rfl⟩)
 have:=q8.1 o1;subst this;simp only [Sh.L4.g] at o3;obtain ⟨_,_,rfl,⟨q0,hq0,rfl⟩,rfl⟩:=o3;obtain ⟨c0,rfl,_,_,_⟩:=bk4 (l:=[.slice K 1 3 rT4,.slice K 0 0 (c9 9 .top),.slice K 0 0 (c9 3 .top),.slice K 0 0 (c9 6 .top),.slice K 0 0 (c9 4 .top),.slice K 0 0 (c9 3 .top),.slice K 0 0 (c9 2 .top),.slice K 0 0 (c9 3 .top)]) o2;obtain ⟨v,H1,⟨o,o1,o4,o3⟩,p13⟩:=(o32 V noC n hn:(s32 n).ok (ct xs noC) A).2 [.ptr 0 0,cat c0,.d (Z (n:Int))] [tp xs q0] (by
  simp only [s32,Sh.z8.g];exact ⟨_,_,rfl,rfl,_,_,rfl,o2,_,_,rfl,dJ (by simp only [Sh.SD.g];rfl),rfl⟩) (by
  simp only [s32,Sh.L4.g];exact ⟨_,_,rfl,⟨q0,hq0,rfl⟩,rfl⟩)
 have:=q8.1 o1;subst this;simp only [Sh.L4.g] at o3;obtain ⟨_,_,rfl,⟨q,hq,rfl⟩,rfl⟩:=o3;obtain ⟨c,rfl,hv,hs,h3⟩:=bk4 o4;exact ⟨c0,c,q0,q,Bt.of h3 (bb9 n) (bb8 n) hv hs,p12,p14,p13,hq⟩
end Go.Proofs.YtibjocmpkoepoaaGreat


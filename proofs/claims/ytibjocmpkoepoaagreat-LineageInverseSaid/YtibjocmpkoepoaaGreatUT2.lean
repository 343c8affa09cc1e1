import Derived.Test.YtibjocmpkoepoaaGreatUT0
set_option linter.all false
open Bool renaming and_eq_true → c7, false_eq_true → j3, not_eq_false' → C7, not_eq_true' → n5, or_eq_false_iff → F3
open List renaming all_eq_true → L9, length_map → B0, map_cons → F4, mem_append → M4, mem_append_left → E0, mem_append_right → E7, mem_cons → B4, mem_map → F5, mem_singleton → q6, replicate → c9, take_of_length_le → B5
open Nat renaming beq → s7, eq_of_beq_eq_true → j4, le_of_ble_eq_true → j5, lt_or_ge → y4, zero_le → I7
namespace Go.Proofs.YtibjocmpkoepoaaGreat
open Go.x9 Go.x9.S
attribute [local irreducible] Rx Ry Rn Ex Pf
def Bu {e:List Y6}{ty:List Int}(h:s8 (G7 e ty).2 0=true):good (G7 e ty).1:=by
 unfold G7 at h ⊢;split at h
 .simp [o6] at h
 .rename_i a ha
  split at h
  .have hwf:a.wf:=by
    unfold fK at ha;split at ha
    .split at ha
     .rename_i b hb
      cases ha;exact (T1 16 _ _ _ hb).2.1
     .cases ha
    .cases ha
   simp_all [JM]
  grind [o6]
theorem aa3 {c:y5}{n:Nat}:∀ (k i:Nat),fO c n k i=0->∀ j,i<=j->j<i+k->cr c n j=0
 |0,i,_,j,h1,h2=>by omega
 |k+1,i,h,j,h1,h2=>by
  unfold fO at h;cases he:s8 (cr c n i) 0 with
  |false =>
   simp_all [Bool.not_false,if_true,o6]
  |true =>
   rw [he] at h
   by_cases hj:j=i
   .grind [aQ]
   .exact aa3 k (i+1) h j (by omega) (by omega)
def VO {c:y5}{k:Nat}(h:fH c k=0):1<=(nth c.k9 k).p8.length/\(nth c.k9 k).p8.length<=8/\∀ x,x ∈ (nth c.k9 k).p8->good x.type:=by
 unfold fH at h;cases hc:(!y7 (nth c.k9 k).p8.length 1 8|| !y7 (nth c.k9 k).erase 0 1|| !y7 (nth c.k9 k).aA 0 1048576) with
 |true=>simp_all
 |false =>
  rw [hc] at h;simp [F3,C7,y7,c7,s9,decide_eq_true_eq] at hc;refine ⟨by omega,by omega,fun x hx=> ?_⟩;obtain ⟨j,hj,rfl⟩:=List.getElem_of_mem hx;have h1:=aa3 _ _ h j (by omega) (by omega);rw [<- I9 hj];unfold cr at h1
  by_cases hg:good (nth (nth c.k9 k).p8 j).type
  .exact hg
  .have ht:(!s8 (nth (nth c.k9 k).p8 j).type 1&& !s8 (nth (nth c.k9 k).p8 j).type 2)=true:=by
    unfold good at hg;simp [o6,c7,n5,beq_eq_false_iff_ne];omega
   grind
theorem qZ {ty:List Int}:∀ (l:List yP) (seen:List L3),V7 ty seen l=0->∀ e,e ∈ l->(e.agg&&s8 e.f 0)=true\/s8 (G7 e.expr ty).2 0=true
 |[],_,_,e,he=>by cases he
 |a::l,seen,h,e,he=>by
  unfold V7 at h;split at h
  .omega
  .split at h
   .omega
   .split at h
    .omega
    .split at h
     .rename_i h0
      rcases B4.1 he with rfl|he
      .exact .inl h0
      .exact qZ l _ h e he
     .split at h
      .simp_all [o6]
      .split at h
       .omega
       .rcases B4.1 he with rfl|he
        .simp_all
        .exact qZ l _ h e he
theorem bT {c:y5}(hv:K1 c=true):∀ (n k:Nat),k<n->k<y5.ns c->1<=(P4 c k).length/\(P4 c k).length<=8/\∀ x,x ∈ P4 c k->good x
 |0,k,h,_=>by omega
 |n+1,k,h,hk=>by
  obtain ⟨h1,_,h3⟩:=BB hv;have hnl:=bg c;have he:=h1 k (by omega)
  rcases y4 k c.k9.length with ht|ht
  .obtain ⟨a1,a2,a3⟩:=VO (ia he ht)
   simp_all [P4,nth,aG.type,gq,if_pos,F5]
  .have wN:=iJ he ht hk
   unfold V9 at wN;split at wN
   .omega
   .split at wN
    .omega
    .rename_i hl
     split at wN
     .omega
     .rename_i hsh
      simp only [Bool.not_eq_true,C7,n5,Bool.not_eq_false] at hsh;have hf:=M7 c (X0 c k).left k;split at wN
      .rename_i h2
       have e:P4 c k=P4 c (J1 c (X0 c k).left k).toNat:=by
        have h0:0<=J1 c (X0 c k).left k:=by
         simp_all [Bool.or_eq_true,y3,decide_eq_true_eq,not_or]
        conv=>lhs;unfold P4 gq
        rw [if_neg (by omega),show (nth c.views (k - c.k9.length))=X0 c k from rfl,if_pos h2,V2 c (by omega)]
       have h0:0<=J1 c (X0 c k).left k:=by
        simp_all [Bool.or_eq_true,y3,decide_eq_true_eq,not_or]
       rw [e];exact bT hv n _ (by omega) (by omega)
      .rename_i h2
       split at wN
       .simp_all [o6]
       .split at wN
        .simp_all [o6]
        .split at wN
         .omega
         .have e:P4 c k=W9 (X0 c k) (ins c k):=by
           unfold P4 gq;rw [if_neg (by omega),show (nth c.views (k - c.k9.length))=X0 c k from rfl,if_neg h2];rfl
          have hlen:1<=(X0 c k).items.length+(X0 c k).D4.length/\(X0 c k).items.length+(X0 c k).D4.length<=8:=by
           unfold bH jW at hsh;rw [if_neg h2] at hsh;split at hsh<;>simp only [c7,n5,F3,o6,beq_eq_false_iff_ne,s9,decide_eq_true_eq] at hsh<;>omega
          have hg:=qZ _ _ wN;rw [e];refine ⟨by grind [W9],by grind [W9],fun x hx=> ?_⟩;simp only [W9,M4,F5] at hx
          rcases hx with ⟨y,hy,rfl⟩|⟨y,hy,rfl⟩
          .rcases hg ⟨false,y.name, -1,y.expr⟩ (E0 _ (F5.2 ⟨y,hy,rfl⟩)) with h|h
           all_goals simp_all [Bu]
          .unfold sr
           split
           .exact .inl rfl
           .rename_i h0
            rcases hg ⟨true,y.name,y.func,y.expr⟩ (E7 _ (F5.2 ⟨y,hy,rfl⟩)) with h|h
            all_goals simp_all [Bool.true_and,Bu]
theorem Ib {s:L3}:∀ (l:List L3) (i:Nat),s ∈ l->(i:Int)<=J6 s l i/\J6 s l i<i+l.length
 |[],_,h=>by cases h
 |x::r,i,h=>by
  simp only [J6];split
  .simp;omega
  .rename_i hx
   rcases B4.1 h with rfl|h
   .simp [H7] at hx
   .have:=Ib r (i+1) h
    simp at this ⊢;omega
def XT {c:y5}(hv:K1 c=true){s:L3}(h:s ∈ y5.sn c):∃ i:Nat,zS c s=(i:Int)/\i<y5.ns c:=by
 have hl:=jX c;have h1:=Ib (y5.sn c) 0 h;have e:zS c s=J6 s (y5.sn c) 0:=by
  unfold zS J1;rw [hv,if_pos rfl,B5 (by omega)]
 rw [e];refine ⟨(J6 s (y5.sn c) 0).toNat,by omega,by omega⟩
def TV {c:y5}(hv:K1 c=true){i:Nat}(hi:i<y5.ns c):aS c i=true:=by
 unfold aS;rw [hv];simp [s9,y3];omega
end Go.Proofs.YtibjocmpkoepoaaGreat
namespace Go.x9.Sh
mutual
def SD.np:SD->Bool
 | .slice _ _ _ row=>L1.np row
 | .pr _ _=>false
 |_=>true
def L1.np:List SD->Bool
 |[]=>true
 |x::xs=>x.np&&L1.np xs
end
mutual
theorem SD.cx {C C' :Ctx}{vs:List Nat}:∀ (x:SD) {d:Data},x.np=true->x.g C vs d->x.g C' vs d
 | .top,_,_,_=>by simp [SD.g]
 | .lit _,_,_,h=>by simp_all [SD.g]
 | .bool _,_,_,h=>by simp_all [SD.g]
 | .int ..,_,_,h=>by simp_all [SD.g]
 | .anyI _,_,_,h=>by simp_all [SD.g]
 | .str _,_,_,h=>by simp_all [SD.g]
 | .slice v lo hi row,_,hp,h=>by
  obtain ⟨rows,h1,h2,h3,h4,h5⟩:=h;exact ⟨rows,h1,h2,h3,h4,fun r hr=>L1.cx row hp (h5 r hr)⟩
 | .pr _ _,_,hp,_=>by simp [SD.np] at hp
theorem L1.cx {C C' :Ctx}{vs:List Nat}:∀ (x:List SD) {d:List Data},L1.np x=true->L1.g C vs x d->L1.g C' vs x d
 |[],_,_,h=>by simp_all [L1.g]
 |x::xs,_,hp,h=>by
  simp [L1.np,c7] at hp;obtain ⟨d,ds,h1,h2,h3⟩:=h;exact ⟨d,ds,h1,SD.cx x hp.1 h2,L1.cx xs hp.2 h3⟩
end
end Go.x9.Sh
namespace Go.Proofs.YtibjocmpkoepoaaGreat
open Go.x9 Go.x9.S Go.x9.Sh
attribute [local irreducible] Rx Ry Rn Ex Pf
variable [Inhabited si]
def pS:SD:= .pr 0 (.str 2)
def rV1:List SD:=[.str 2,iR 0 2,.str 2,.str 2,.slice none 0 1 [iR 0 23,iR 0 23],.slice none 0 13 rTm,.slice none 0 3 [.str 2,.slice none 1 4 rTm],.bool .uy,.slice none 0 3 [.str 2,iR 0 4,.slice none 0 4 rTm]]
def r2:List SD:=[.str 2,.str 2,iR 0 2]
def r3:List SD:=[.str 2,.str 2,iR 0 2,iR 0 2,iR 0 16,iR 0 3]
def r4:List SD:=[.str 2,.str 2,iR 0 2,iR 0 9]
def r5:List SD:=[.str 2,.str 2,iR 0 3]
def r6:List SD:=[.str 2,.str 2]
def r7:List SD:=[.str 2,.slice none 0 1 [.str 2],iR 0 30]
def e1 (r:List SD):SD:= .slice none 0 0 r
def rB (n:Nat):List SD:=[.slice none 1 3 Xu,.slice none 0 n rV1,e1 r2,e1 r3,e1 r4,e1 r5,e1 r6,e1 r7]
def cG (n:Nat):SV:= .agg (some 1) [.d (.slice none 1 3 [pS,.slice none 2 4 rC4,iR 0 1,iR 0 40]),.d (.slice none 0 n rV1),.d (e1 r2),.d (e1 r3),.d (e1 r4),.d (e1 r5),.d (e1 r6),.d (e1 r7)]
def vwV:SV:= .agg none (rV1.map .d)
def s76:Sh.Spec:=⟨38,[.ptr 0 0,cG 4,.d (.slice none 1 7 [pS])],[.pr 0],l1,[(vwV,[.pr 0])]⟩
def isD:SV->Bool
 | .d _=>true
 |_=>false
def as7:Sh.Sem:=fun _ f args H l=>match args,H with
 |[.agg (some 1) c,.d (.pr k (.str m))],[]=>if s7 f 86&&s7 k 0&&sY l l0&&c.all isD then some [(.d (.pr 1 (iR 0 2000)),[])] else none
 |[.agg (some 1) c,.d (.pr k (.int _ _ _ _))],[]=>if s7 f 20&&s7 k 1&&sY l l0&&c.all isD then some [(.d (.slice none 1 8 [iR 1 2]),[])] else none
 |_,_=>none
theorem Su {C:Ctx}{vs:List Nat}:∀ {l:List SV} {cs:List c8},y8.g C vs l cs->l.all isD=true->cs.map c8.J2=cs
 |[],_,h,_=>by simp_all [inferInstance,y8.g]
 |x::xs,_,h,hd=>by
  obtain ⟨a,b,rfl,h1,h2⟩:=h;simp only [List.all_cons,c7] at hd;cases x<;>simp only [isD,j3,false_and] at hd;obtain ⟨d,rfl,_⟩:=aL h1;simp [F4,c8.J2];rw [Su h2 hd.2]
def Ad {l:F2}(h:sY l l0=true):l=S8:=by
 simp only [sY,c7] at h;have e1:=j4 h.1.1.1;have e2:=j4 h.1.1.2;have e3:=j4 h.1.2;have e4:=j4 h.2;cases l;subst e1 e2 e3 e4;rfl
def UW {f:FuncId}{args:List c8}{v:c8}{P:c8->o9->Prop}(h:Pf A f args v)(hP:P v []):Pq A f args [] S8 P:=have _:Inhabited si:=inferInstance;⟨v,[],hP,by unfold Pf at h;exact h⟩
def Zo (xs:List Int){g:y5}(hs:O4 g)(hv:K1 g=true):gO (cA xs g) A as7:=by
 intro B f args H l outs h vs hB az Hc ha hH;have eV:y5.ns g<=1000+1000:=by obtain ⟨f0,f1,_⟩:=hs.sm.qy;grind [y5.ns]
 unfold as7 at h;split at h
 .split at h
  .rename_i hc
   simp only [c7] at hc;obtain ⟨⟨⟨c1,c2⟩,c3⟩,c4⟩:=hc;have c1:=j4 c1;have c2:=j4 c2;subst c1 c2;cases h;rw [Ad c3];obtain ⟨a0,_,rfl,h0,a1,_,rfl,h1,rfl⟩:=ha;subst hH;obtain ⟨cs,rfl,h2,h3⟩:=h0;have h4:cs.map c8.J2=g.enc.map .d:=h3 1 rfl;rw [Su h2 c4] at h4;subst h4;obtain ⟨d,rfl,h5⟩:=aL h1;obtain ⟨s,rfl,hm⟩:=h5.1;obtain ⟨i,e,hi⟩:=XT hv hm;have p:=bm1 g hs s;rw [e] at p;refine UW p ⟨_,q6.2 rfl,bE ?_,by rfl⟩;exact ⟨⟨i,rfl,hi⟩,(i:Int),rfl,by omega,by omega,trivial⟩
  .cases h
 .split at h
  .rename_i hc
   simp only [c7] at hc;obtain ⟨⟨⟨c1,c2⟩,c3⟩,c4⟩:=hc;have c1:=j4 c1;have c2:=j4 c2;subst c1 c2;cases h;rw [Ad c3];obtain ⟨a0,_,rfl,h0,a1,_,rfl,h1,rfl⟩:=ha;subst hH;obtain ⟨cs,rfl,h2,h3⟩:=h0;have h4:cs.map c8.J2=g.enc.map .d:=h3 1 rfl;rw [Su h2 c4] at h4;subst h4;obtain ⟨d,rfl,h5⟩:=aL h1;obtain ⟨i,rfl,hi⟩:=h5.1;have p:=UN g hs i (TV hv hi);obtain ⟨g1,g2,g3⟩:=bT hv (i+1) i (by omega) hi;refine UW p ⟨_,q6.2 rfl,bE ?_,by rfl⟩;refine ⟨(P4 g i).map fun t=>[num t],?_,by simp_all,by simp_all,(fun i h=>by cases h),fun r hr=> ?_⟩
   .simp [B0]
    congr 1
   .obtain ⟨t,ht,rfl⟩:=F5.1 hr
    refine ⟨num t,[],rfl,⟨t,rfl,?_,?_,trivial⟩,rfl⟩
    .rcases g3 t ht with h|h<;>omega
    .rcases g3 t ht with h|h<;>omega
  .cases h
 .cases h
theorem chunk {α:Type}{enc:α->List x9.Data}{sz:Nat}(hs:∀ a,(enc a).length=sz):∀ (rows:List (List x9.Data)) (l:List α),rows.length=l.length->(∀ r,r ∈ rows->r.length=sz)->rows.flatten=l.flatMap enc->rows=l.map enc
 |[],[],_,_,_=>rfl
 |[],_::_,h,_,_=>by simp_all
 |_::_,[],h,_,_=>by simp at h
 |r::rows,a::l,h,hr,e=>by
  have h1:=List.append_inj e (by simp_all);rw [h1.1,chunk hs rows l (by simpa using h) (fun r hr' =>hr r (by simp [hr'])) h1.2];rfl
section
variable {C:Ctx} {vs:List Nat} {α:Type} {enc:α->List x9.Data}
def Ga {v:Option Nat}{lo hi:Nat}{row:List SD}{l:List α}(h:(SD.slice v lo hi row).g C vs (z8 enc l))(hs:∀ a,(enc a).length=row.length:=by intro;rfl):lo<=l.length/\l.length<=hi/\∀ a,a ∈ l->L1.g C vs row (enc a):=by
 obtain ⟨rows,h1,h2,h3,_,h5⟩:=h;injection h1 with e1 e2
 have:=chunk hs rows l e1.symm (fun r hr=>L1.len (h5 r hr)) e2.symm
 grind
def Mo {lo hi:Nat}{row:List SD}{l:List α}(h1:lo<=l.length)(h2:l.length<=hi)(h3:∀ a,a ∈ l->L1.g C vs row (enc a)):(SD.slice none lo hi row).g C vs (z8 enc l):=by
 simp_all [inferInstance,SD.g,z8,List.flatMap]<;>grind
end
structure Bt (n:Nat)(c:y5):Prop where
 sh:∀ C vs,L1.g C vs (rB n) c.enc
 val:K1 c=true
 sm:O4 c
def Bt.of {C:Ctx}{vs:List Nat}{n:Nat}{c:y5}(h:L1.g C vs (rB n) c.enc)(hp:L1.np (rB n)=true)(hc:L1.cl (rB n)=true)(hv:K1 c=true)(hs:O4 c):Bt n c:=have _:Inhabited si:=inferInstance;⟨fun _ _=>L1.cZ _ hc (L1.cx _ hp h),hv,hs⟩
def YZ (n:Nat):L1.np (rB n)=true:=by rfl
def YY (n:Nat):L1.cl (rB n)=true:=by rfl
section
variable {n:Nat} {c:y5} (h:Bt n c)
include h
theorem Bt.k9:1<=c.k9.length/\c.k9.length<=3/\∀ C vs a,a ∈ c.k9->L1.g C vs Xu a.enc:=by
 have h1:∀ C vs,(SD.slice none 1 3 Xu).g C vs (z8 mO.enc c.k9):=fun C vs=>by
  have:=h.sh C vs
  grind [rB,y5.enc,sc]
 have h2:=Ga (h1 (cA [] c) []);exact ⟨h2.1,h2.2.1,fun C vs a ha=>(Ga (h1 C vs)).2.2 a ha⟩
theorem Bt.views:c.views.length<=n/\∀ C vs a,a ∈ c.views->L1.g C vs rV1 a.enc:=by
 have h1:∀ C vs,(SD.slice none 0 n rV1).g C vs (z8 Vw.enc c.views):=fun C vs=>by
  have:=h.sh C vs
  grind [rB,y5.enc,sc]
 have h2:=Ga (h1 (cA [] c) []);exact ⟨h2.2.1,fun C vs a ha=>(Ga (h1 C vs)).2.2 a ha⟩
end
def Zp:Sh.Sem:=fun _ f args H l=>match args,H with
 |[.agg (some 1) c],[]=>if s7 f 39&&sY l l0&&c.all isD then some [(.d (.slice none 1 7 [pS]),[])] else none
 |_,_=>none
def bm0 (c:y5)(hf:c.qy):Pf A 39 [cat c] (.d (z8 encS (y5.sn c))):=by
 have _:Inhabited si:=inferInstance;obtain ⟨f0,f1,_⟩:=hf;refine Pf.run [cat c,.any,.any,.any,.any,.any] rfl rfl rfl rfl ?_;refine gr ?_;refine Ex.M5 (fun k T H=>∃ (i:Nat) (acc:List L3) (v0 v2 w5:c8),T=[v0,.ptr 0 0,v2,C4 1 encS acc,.d (num i),w5]/\H=[.cells (c.enc.map .d)]/\i+k=c.k9.length/\acc=(c.k9.take i).map mO.name) (by simp_all) ?_ (k:=c.k9.length) ⟨0,[],_,_,_,rfl,rfl,by simp,by simp⟩;rintro k _ _ ⟨i,acc,v0,v2,w5,rfl,rfl,hk,hacc⟩;have hl:acc.length=i:=by grind
 refine Ex.nT ?_
 repeat' (first|refine gx ?_|refine Ex.O6 ?_|refine Ex.P0 ?_|refine Ex.cond rfl (fun ht=> ?_) (fun ht=> ?_)|refine Ex.test (Rn.text ?_)|refine Ex.test (Rn.draw ?_)|refine ⟨_,rfl,fun ht=> ?_,fun ht=> ?_⟩|refine ⟨_,rfl,?_⟩|fail)
 .have h1:=A9 ht
  refine ⟨k - 1,by omega,i+1,acc++[(nth c.k9 i).name],_,_,_,rfl,rfl,by omega,?_⟩;simp_all [J3]
 have h1:=B8 ht;rw [B5 (by omega)] at hacc;clear ht h1 hk hl;subst hacc;refine Ex.M5 (fun k T H=>∃ (i:Nat) (acc:List L3) (v0 v2 w4:c8),T=[v0,.ptr 0 0,v2,C4 1 encS acc,w4,.d (num i)]/\H=[.cells (c.enc.map .d)]/\i+k=c.views.length/\acc=c.k9.map mO.name++(c.views.take i).map Vw.name) (by simp_all) ?_ (k:=c.views.length) ⟨0,c.k9.map mO.name,_,_,_,rfl,rfl,by simp,by simp⟩;rintro k _ _ ⟨i,acc,v0,v2,w4,rfl,rfl,hk,hacc⟩;have hl:acc.length=c.k9.length+i:=by grind
 refine Ex.nT ?_
 repeat' (first|refine gx ?_|refine Ex.O6 ?_|refine Ex.P0 ?_|refine Ex.cond rfl (fun ht=> ?_) (fun ht=> ?_)|refine Ex.test (Rn.text ?_)|refine Ex.test (Rn.draw ?_)|refine ⟨_,rfl,fun ht=> ?_,fun ht=> ?_⟩|refine ⟨_,rfl,?_⟩|fail)
 .have h1:=A9 ht
  refine ⟨k - 1,by omega,i+1,acc++[(nth c.views i).name],_,_,_,rfl,rfl,by omega,?_⟩;simp_all [J3]
 have h1:=B8 ht;simp_all [B5,j7,z8,C4,y5.sn]
def Bt.name {n:Nat}{c:y5}(h:Bt n c){s:L3}(hs:s ∈ y5.sn c):s.length<=2:=by
 unfold y5.sn at hs
 rcases M4.1 hs with hs|hs
 .obtain ⟨t,ht,rfl⟩:=F5.1 hs
  have:=h.k9.2.2 (cA [] c) [] t ht;unfold Xu mO.enc at this;obtain ⟨x,y,e,h1,_⟩:=sc this;cases e;simp only [SD.g] at h1;obtain ⟨s,e,h2⟩:=h1;cases e;exact h2
 .obtain ⟨t,ht,rfl⟩:=F5.1 hs
  have:=h.views.2 (cA [] c) [] t ht;unfold rV1 Vw.enc at this;obtain ⟨x,y,e,h1,_⟩:=sc this;cases e;simp only [SD.g] at h1;obtain ⟨s,e,h2⟩:=h1;cases e;exact h2
def Ot (xs:List Int){n:Nat}{g:y5}(hg:Bt n g)(hn:n<=4):gO (cA xs g) A Zp:=by
 intro B f args H l outs h vs hB az Hc ha hH;unfold Zp at h;split at h
 .rename_i c
  split at h
  .rename_i hc
   simp only [c7] at hc;obtain ⟨⟨c1,c3⟩,c4⟩:=hc;have c1:=j4 c1;subst c1;cases h;rw [Ad c3];simp only [y8.g] at ha;obtain ⟨a0,_,rfl,h0,rfl⟩:=ha;simp only [K4.g] at hH;subst hH;simp only [SV.g] at h0;obtain ⟨cs,rfl,h2,h3⟩:=h0;have h4:cs.map c8.J2=g.enc.map .d:=h3 1 rfl;rw [Su h2 c4] at h4;subst h4;have ht:=hg.k9;have hw:=hg.views;have hl:=jX g;have mY:y5.ns g=g.k9.length+g.views.length:=rfl;refine UW (bm0 g hg.sm.sm.qy) ⟨_,q6.2 rfl,bE (Mo (by omega) (by omega) fun s hs=> ?_),by simp only [K4.g]⟩;simp only [L1.g,SD.g,encS,pS];exact ⟨_,_,rfl,⟨⟨s,rfl,hs⟩,s,rfl,hg.name hs⟩,rfl⟩
  .cases h
 .cases h
def bo8 (l:List Sh.Spec):Sh.Sem:=AO (AO as7 Zp) (as8 l)
section
variable {xs:List Int} (hx:xs.length<=35184372088832) {g:y5} {n:Nat} (hg:Bt n g) (hn:n<=4)
include hx hg hn
def Zr {l:List Sh.Spec}(h:nr (cA xs g) l):gO (cA xs g) A (bo8 l):=oD (oD (Zo xs hg.sm hg.val) (Ot xs hg hn)) (yA hx h)
theorem o76:s76.ok (cA xs g) A :=
 yz (kp:=[]) (js:=[]) (fuel:=40) (Zr hx hg hn (.cons (o35 hx g) (.cons (bk3 hx g) (.cons (Uw hx g) (.cons (aF4 hx g) .nil))))) gb HW rfl rfl (by kernel_rfl)
end
end Go.Proofs.YtibjocmpkoepoaaGreat
namespace Go.Proofs.YtibjocmpkoepoaaGreat
open Go.x9 Go.x9.S Go.x9.Sh
attribute [local irreducible] Rx Ry Rn Ex Pf
variable [Inhabited si]
def as9:Sh.Sem:=fun B f args H l=>match args,H with
 |[.ptr 0 0,.agg (some 1) c,.d ns],[.pr 0]=>if s7 f 38&&sY l l1&&c.all isD&&SD.le B ns (.slice none 1 7 [pS]) then some [(vwV,[.pr 0])] else none
 |_,_=>none
def Bt.shG {n:Nat}{c:y5}(h:Bt n c)(hn:n<=4)(xs:List Int)(vs:List Nat):(cG 4).g (cA xs c) vs (cat c):=by
 obtain ⟨a1,a2,a3⟩:=h.k9;obtain ⟨b1,b2⟩:=h.views;have hs:=h.sh (cA xs c) vs;unfold rB y5.enc at hs;obtain ⟨_,_,e,_,hs⟩:=sc hs;cases e;obtain ⟨_,_,e,_,hs⟩:=sc hs;cases e;have h1:(SD.slice none 1 3 [pS,.slice none 2 4 rC4,iR 0 1,iR 0 40]).g (cA xs c) vs (z8 mO.enc c.k9):=Mo a1 a2 fun t ht=>by
  have:=a3 (cA xs c) vs t ht;unfold Xu mO.enc at this;obtain ⟨_,_,e,g1,g2⟩:=sc this;cases e;rw [mO.enc,L1.g];refine ⟨_,_,rfl,?_,g2⟩;simp only [pS,SD.g] at g1 ⊢;exact ⟨⟨t.name,rfl,by unfold y5.sn;exact E0 _ (F5.2 ⟨t,ht,rfl⟩)⟩,g1⟩
 have h2:(SD.slice none 0 4 rV1).g (cA xs c) vs (z8 Vw.enc c.views):=Mo (I7 _) (by omega) fun t ht=>b2 (cA xs c) vs t ht
 have h3:L1.g (cA xs c) vs [.slice none 1 3 [pS,.slice none 2 4 rC4,iR 0 1,iR 0 40],.slice none 0 4 rV1,e1 r2,e1 r3,e1 r4,e1 r5,e1 r6,e1 r7] c.enc:=by
  rw [L1.g];refine ⟨_,_,rfl,h1,?_⟩;rw [L1.g];exact ⟨_,_,rfl,h2,hs⟩
 simp only [cG,SV.g];refine ⟨_,rfl,y8.Ra h3,fun k hk=> ?_⟩;cases hk;show (c.enc.map c8.d).map c8.J2=c.enc.map c8.d
 rw [List.map_map];rfl
def Zs {xs:List Int}(hx:xs.length<=35184372088832){g:y5}{n:Nat}(hg:Bt n g)(hn:n<=4):gO (cA xs g) A as9:=by
 intro B f args H l outs h vs hB az Hc ha hH;unfold as9 at h;split at h
 .rename_i c ns
  split at h
  .rename_i hc
   simp only [c7] at hc;obtain ⟨⟨⟨c1,c3⟩,c4⟩,c5⟩:=hc;have c1:=j4 c1;subst c1;cases h;have hl:l=l1:=by
    simp only [sY,c7] at c3;have e1:=j4 c3.1.1.1;have e2:=j4 c3.1.1.2;have e3:=j4 c3.1.2;have e4:=j4 c3.2;cases l;simp only [l1] at e1 e2 e3 e4;subst e1 e2 e3 e4;rfl
   subst hl;simp only [y8.g] at ha;obtain ⟨a0,_,rfl,h0,a1,_,rfl,h1,a2,_,rfl,h2,rfl⟩:=ha;simp only [SV.g] at h1;obtain ⟨cs,rfl,h3,h4⟩:=h1;have h4:cs.map c8.J2=g.enc.map .d:=h4 1 rfl;rw [Su h3 c4] at h4;subst h4;obtain ⟨d,rfl,h5⟩:=aL h2;have h6:=SD.ct hB _ c5 h5;obtain ⟨_,hk⟩:=o76 hx hg hn;obtain ⟨v,H1,⟨o,o1,o2,o3⟩,hm⟩:=hk [a0,cat g,.d d] Hc (by
    simp only [s76,y8.g];exact ⟨_,_,rfl,h0,_,_,rfl,hg.shG hn xs [],_,_,rfl,bE (SD.cZ _ (by rfl) h6),rfl⟩) (K4.cZ _ (by rfl) hH)
   have:=q6.1 o1;subst this;exact ⟨v,H1,⟨_,q6.2 rfl,SV.cZ _ (by rfl) o2,K4.cZ _ (by rfl) o3⟩,hm⟩
  .cases h
 .cases h
def aM2:Sh.Sem:=AO (AO as9 Zp) yB
def Zq {xs:List Int}(hx:xs.length<=35184372088832){g:y5}{n:Nat}(hg:Bt n g)(hn:n<=4):gO (cA xs g) A aM2:=oD (oD (Zs hx hg hn) (Ot xs hg hn)) (AN xs hx g)
def vT (n i:Nat)(w:SV):List SV:=[.ptr 0 0,w,.d (.lit (.int .i64 n)),.ptr 1 0,.ptr 2 0,.d (.lit (.int .i64 i)),w]
def vH (t i:Nat):List SO:=[.pr 0,.cells (some t) ((rB i).map .d),zC]
def Lz:q9:=match a13.body with
 | .seq _ (.seq (.seq _ (.block _ (.loop _ b))) _)=>b
 |_=> .bad
def BC (n i:Nat):Bool:=match bX A aM2 TE [] l1 1 40 Lz ⟨vT n i .any,vH 1 i,[]⟩ with
 |some outs=>outs.all fun o=>match o.1 with
  | .normal=>Nat.blt i n&&y8.le qx o.2.B o.2.T (vT n (i+1) .top)&&(K4.le qx o.2.B (o.2.H.take 3) (vH 0 (i+1))||K4.le qx o.2.B (o.2.H.take 3) (vH 1 (i+1)))
  | .exit e=>s7 e 0&&s7 i n&&y8.le qx o.2.B o.2.T (vT n i .top)&&K4.le qx o.2.B o.2.H (vH 1 i)
  | .ret=>false
 |none=>false
theorem OF:BC 3 0=true/\BC 3 1=true/\BC 3 2=true/\BC 3 3=true:=have _:Inhabited si:=inferInstance;⟨by kernel_rfl,by kernel_rfl,by kernel_rfl,by kernel_rfl⟩
theorem JR:BC 4 0=true/\BC 4 1=true/\BC 4 2=true/\BC 4 3=true/\BC 4 4=true:=have _:Inhabited si:=inferInstance;⟨by kernel_rfl,by kernel_rfl,by kernel_rfl,by kernel_rfl,by kernel_rfl⟩
def VZ {n i:Nat}(hn:n=3\/n=4)(hi:i<=n):BC n i=true:=by
 rcases hn with rfl|rfl
 .match i,hi with
  |0,_=>exact OF.1
  |1,_=>exact OF.2.1
  |2,_=>exact OF.2.2.1
  |3,_=>exact OF.2.2.2
 .match i,hi with
  |0,_=>exact JR.1
  |1,_=>exact JR.2.1
  |2,_=>exact JR.2.2.1
  |3,_=>exact JR.2.2.2.1
  |4,_=>exact JR.2.2.2.2
def zO:u0:= .cells [.own 4 0 [],.own 9 0 [],.own 3 0 [],.own 6 0 [],.own 4 0 [],.own 3 0 [],.own 2 0 [],.own 3 0 []]
def au0 (xs:List Int)(n:Nat)(k:Nat)(s:St):Prop:=∃ (i:Nat) (c:y5) (q:Nat) (w1 w6:c8) (tl:o9),i+k=n/\Bt i c/\q<=4 * xs.length/\s=⟨[.ptr 0 0,w1,.d (num (n:Int)),.ptr 1 0,.ptr 2 0,.d (num (i:Int)),w6],tp xs q:: .cells (c.enc.map .d)::zO::tl⟩
def wT {C:Ctx}{vs:List Nat}{n:Nat}{v:c8}(h:(Ds n).g C vs v):v= .own n 0 []:=by
 have _:Inhabited si:=inferInstance;simp only [Ds,SV.g,SD.g] at h;obtain ⟨len,cells,rfl,e⟩:=h;cases e;rfl
def aN8 {C:Ctx}{vs:List Nat}{o:u0}(h:zC.g C vs o):o=zO:=by
 obtain ⟨cs,rfl,h,_⟩:=h;simp only [y8.g] at h;obtain ⟨a0,_,rfl,h0,a1,_,rfl,h1,a2,_,rfl,h2,a3,_,rfl,h3,a4,_,rfl,h4,a5,_,rfl,h5,a6,_,rfl,h6,a7,_,rfl,h7,rfl⟩:=h;rw [wT h0,wT h1,wT h2,wT h3,wT h4,wT h5,wT h6,wT h7];rfl
def aN7 {C:Ctx}{vs:List Nat}:zC.g C vs zO:=by
 have _:Inhabited si:=inferInstance;refine ⟨_,rfl,?_,fun k h=>by cases h⟩;show y8.g C vs [Ds 4,Ds 9,Ds 3,Ds 6,Ds 4,Ds 3,Ds 2,Ds 3] [.own 4 0 [],.own 9 0 [],.own 3 0 [],.own 6 0 [],.own 4 0 [],.own 3 0 [],.own 2 0 [],.own 3 0 []]
 have o:∀ n,(Ds n).g C vs (.own n 0 []):=fun n=>by
  unfold Ds Sh.SV.g;exact ⟨0,[],rfl,by unfold Sh.SD.g;rfl⟩
 exact ⟨_,_,rfl,o 4,_,_,rfl,o 9,_,_,rfl,o 3,_,_,rfl,o 6,_,_,rfl,o 4,_,_,rfl,o 3,_,_,rfl,o 2,_,_,rfl,o 3,rfl⟩
def Ml {C:Ctx}{vs:List Nat}{x:x9.Data}{v:c8}(h:(SV.d (.lit x)).g C vs v):v= .d x:=by
 have _:Inhabited si:=inferInstance;obtain ⟨d,rfl,h2⟩:=aL h;simp only [SD.g] at h2;rw [h2]
def aa0 {xs:List Int}{g:y5}{vs:List Nat}{t i:Nat}{o:u0}(ht:t=0\/(t=1/\K1 g=true/\O4 g))(h:(SO.cells (some t) ((rB i).map .d)).g (cA xs g) vs o):∃ c,o= .cells (c.enc.map .d)/\Bt i c:=by
 obtain ⟨cs,rfl,h1,h2⟩:=h;obtain ⟨ds,rfl,h3⟩:=XP h1;have e:(ds.map c8.d).map c8.J2=ds.map c8.d:=by rw [List.map_map];rfl
 have inj:∀ {a b:List x9.Data},a.map c8.d=b.map c8.d->a=b:=by
  intro a
  induction a with
  |nil=>intro b h;cases b with|nil=>rfl|cons=>simp at h
  |cons x a ih=>intro b h;cases b with|nil=>simp at h|cons y b=>simp at h;rw [h.1,ih (by simpa using h.2)]
 rcases ht with rfl|⟨rfl,hv,hs⟩
 .obtain ⟨c,h4,h5,h6⟩:=h2 0 rfl
  rw [e] at h4;have:=inj h4;subst this;exact ⟨c,rfl,Bt.of h3 (YZ i) (YY i) h5 h6⟩
 .have h4:(ds.map c8.d).map c8.J2=g.enc.map .d:=h2 1 rfl
  rw [e] at h4;have:=inj h4;subst this;exact ⟨g,rfl,Bt.of h3 (YZ i) (YY i) hv hs⟩
def Zh (n:Nat):Sh.Spec:=⟨13,[.ptr 0 0,Sx,.d (.lit (.int .i64 n))],[.pr 0],l1,[(.agg (some 0) ((rB n).map .d),[.pr 0])]⟩
section
variable {xs:List Int} (hx:xs.length<=35184372088832)
include hx
def aG4 (n:Nat)(hn:n=3\/n=4)(k:Nat)(s:St)(h:au0 xs n k s):Ex A l1 1 Lz (clean [true,false,true,true,true,true,false] 1 3 s) (zV (fun x s=>x= .exit 0/\∃ (c:y5) (q:Nat) (w1 w6:c8),Bt n c/\q<=4 * xs.length/\s=⟨[.ptr 0 0,w1,.d (num (n:Int)),.ptr 1 0,.ptr 2 0,.d (num (n:Int)),w6],[tp xs q,.cells (c.enc.map .d),zO]⟩) fun s' =>∃ k',k' <k/\au0 xs n k' s'):=by
 obtain ⟨i,c,q,w1,w6,tl,hk,hc,hq,rfl⟩:=h;have hcl:clean [true,false,true,true,true,true,false] 1 3 ⟨[.ptr 0 0,w1,.d (num (n:Int)),.ptr 1 0,.ptr 2 0,.d (num (i:Int)),w6],tp xs q:: .cells (c.enc.map .d)::zO::tl⟩=⟨[.ptr 0 0,.any,.d (num (n:Int)),.ptr 1 0,.ptr 2 0,.d (num (i:Int)),.any],[tp xs q,.cells (c.enc.map .d),zO]⟩:=by
  unfold clean;rw [if_pos ⟨Nat.le_of_eq rfl,I7 _⟩];rfl
 rw [hcl];have hv:=VZ (n:=n) (i:=i) hn (by omega);unfold BC at hv;split at hv
 .rename_i outs hx2
  have h0:CS.g (cA xs c) [] ⟨vT n i .any,vH 1 i,[]⟩ ⟨[.ptr 0 0,.any,.d (num (n:Int)),.ptr 1 0,.ptr 2 0,.d (num (i:Int)),.any],[tp xs q,.cells (c.enc.map .d),zO]⟩:=by
   refine ⟨by simp [vT,y8.g,SV.g,SD.g,num],?_,rfl,fun i lo hi h=>by simp at h⟩;simp only [vH,K4.g];refine ⟨_,_,rfl,⟨q,hq,rfl⟩,_,_,rfl,⟨_,rfl,y8.Ra (hc.sh _ _),fun k hk=> ?_⟩,_,_,rfl,aN7,rfl⟩;cases hk;show (c.enc.map c8.d).map c8.J2=c.enc.map c8.d
   rw [List.map_map];rfl
  refine (fS (Zq hx hc (by omega)) (zY xs c l1 1) Lz h0 hx2).mono ?_;rintro x st ⟨o,o1,rfl,ws,_,g1,g2,g3⟩;have hv:=L9.1 hv o o1;have hT:∀ {j:Nat},y8.le qx o.2.B o.2.T (vT n j .top)=true->∃ u1 u6,st.T=[.ptr 0 0,u1,.d (num (n:Int)),.ptr 1 0,.ptr 2 0,.d (num (j:Int)),u6]:=fun {j} h=>by
   have:=y8.ct g3 gb (C:=cA xs c) _ h g1;simp only [vT,y8.g] at this;obtain ⟨a0,_,e,h0,a1,_,rfl,_,a2,_,rfl,h2,a3,_,rfl,h3,a4,_,rfl,h4,a5,_,rfl,h5,a6,_,rfl,_,rfl⟩:=this;rw [e,bu h0,Ml h2,bu h3,bu h4,Ml h5];exact ⟨a1,a6,rfl⟩
  have hH:∀ {t j:Nat} {H:o9},t=0\/t=1->K4.g (cA xs c) ws (vH t j) H->∃ c' q',Bt j c' /\q' <=4 * xs.length/\H=[tp xs q',.cells (c'.enc.map .d),zO]:=fun {t j H} ht h=>by
   simp only [vH,K4.g] at h;obtain ⟨a0,_,rfl,⟨q',hq',rfl⟩,a1,_,rfl,h1,a2,_,rfl,h2,rfl⟩:=h;obtain ⟨c',rfl,h3⟩:=aa0 (ht.imp id fun e=>⟨e,hc.val,hc.sm⟩) h1;rw [aN8 h2];exact ⟨c',q',h3,hq',rfl⟩
  cases he:o.1 with
  |ret=>rw [he] at hv;cases hv
  |normal =>
   rw [he] at hv;simp only [c7,Bool.or_eq_true] at hv;obtain ⟨⟨v1,v2⟩,v3⟩:=hv;have v1:i<n:=j5 v1;obtain ⟨u1,u6,eT⟩:=hT v2;have hH3:∃ t,(t=0\/t=1)/\K4.g (cA xs c) ws (vH t (i+1)) (st.H.take 3):=by
    rcases v3 with v3|v3
    .exact ⟨0,.inl rfl,K4.ct g3 gb v3 (K4.take g2 3)⟩
    .exact ⟨1,.inr rfl,K4.ct g3 gb v3 (K4.take g2 3)⟩
   obtain ⟨t,ht,h4⟩:=hH3;obtain ⟨c',q',h5,h6,h7⟩:=hH ht h4;refine ⟨k - 1,by omega,i+1,c',q',u1,u6,st.H.drop 3,by omega,h5,h6,?_⟩;have e:st.H=st.H.take 3++st.H.drop 3:=(List.take_append_drop 3 st.H).symm;cases st;simp only at eT e h7;rw [h7] at e;rw [eT,e];simp
  |exit e =>
   rw [he] at hv;simp only [c7] at hv;obtain ⟨⟨⟨v1,v2⟩,v3⟩,v4⟩:=hv;have v1:=j4 v1;have v2:=j4 v2;subst v1 v2;obtain ⟨u1,u6,eT⟩:=hT v3;obtain ⟨c',q',h5,h6,h7⟩:=hH (.inr rfl) (K4.ct g3 gb v4 g2);refine ⟨rfl,c',q',u1,u6,h5,h6,?_⟩;cases st;simp only at eT h7;rw [eT,h7]
 .cases hv
theorem o32 (g:y5)(n:Nat)(hn:n=3\/n=4):(Zh n).ok (cA xs g) A:=by
 refine ⟨by rcases hn with rfl|rfl<;>kernel_rfl,fun az Hc ha hH=> ?_⟩;simp only [Zh,y8.g] at ha;obtain ⟨a0,_,rfl,h0,a1,_,rfl,h1,a2,_,rfl,h2,rfl⟩:=ha;simp only [Zh,K4.g] at hH;obtain ⟨_,_,rfl,⟨q,hq,rfl⟩,rfl⟩:=hH;have h0:=bu h0;have h2:=Ml h2;subst h0 h2;have hB:Bg [] []:=⟨rfl,fun i lo hi h=>by simp at h⟩;simp only [Sx,SV.g] at h1;obtain ⟨cs,rfl,h3,h4⟩:=h1;have h5:y8.g (cA xs g) [] ((rB 0).map .d) cs:=y8.ct hB (fact:=qx) gb _ (by kernel_rfl) h3;obtain ⟨c,e,hc⟩:=aa0 (xs:=xs) (g:=g) (vs:=[]) (t:=0) (i:=0) (o:= .cells cs) (.inl rfl) ⟨cs,rfl,h5,h4⟩;cases e;refine Pq.run (b:=1) [.ptr 0 0,cat c,.d (num (n:Int)),.any,.any,.any,.any] rfl rfl rfl rfl rfl ?_;unfold tp;refine gr ?_;refine Ex.loop (au0 xs n) (fun k s hs=>(aG4 hx n hn k s hs).mono ?_) (k:=n) ⟨0,c,q,_,_,[],by omega,hc,hq,rfl⟩;rintro x s h;cases x with
 |normal=>exact h
 |ret=>exact absurd h.1 (by simp)
 |exit e =>
  obtain ⟨e,c',q',w1,w6,h5,h6,rfl⟩:=h;cases e;unfold tp zO;show Ex _ _ _ _ _ _
  refine gr ?_;refine ⟨_,_,rfl,_,q6.2 rfl,?_,?_⟩
  .simp only [SV.g]
   refine ⟨_,rfl,y8.Ra (h5.sh _ _),fun k hk=> ?_⟩;cases hk;exact ⟨c',rfl,h5.val,h5.sm⟩
  .simp only [K4.g]
   exact ⟨_,_,rfl,⟨q',h6,rfl⟩,rfl⟩
end
end Go.Proofs.YtibjocmpkoepoaaGreat
namespace Go.Proofs.YtibjocmpkoepoaaGreat
open Go.x9 Go.x9.S Go.x9.Sh
attribute [local irreducible] Rx Ry Rn Ex Pf
section
variable [Inhabited si]
def aJ9 (xs:List Int)(h:xs.length<=17592186043904):Pq A 12 [.d (ints xs)] [] S8 fun v H1=>v= .ptr 0 0/\H1=[tp xs 0]:=by
 have _:Inhabited si:=inferInstance;refine Pq.run (b:=0) [.d (ints xs),.any] rfl rfl rfl rfl rfl ?_;have e:ints xs=z8 (fun n=>[num n]) xs:=by simp [ints,z8,List.flatMap_singleton']
 rw [e];refine gr ?_;refine Ry.pure (v:= .own 1 0 []) (rs:=[]) rfl (by rfl) ?_;refine gr ?_;exact ⟨_,_,rfl,rfl,by simp [splice,tp,rq,opw,lk];exact ⟨rfl,rfl⟩⟩
end
def noC:y5:=⟨[],[],[],[],[],[],[],[]⟩
def XF {xs:List Int}{g:y5}{vs:List Nat}{l:List SD}{v:c8}(h:(SV.agg (some 0) (l.map .d)).g (cA xs g) vs v):∃ c,v=cat c/\K1 c=true/\O4 c/\L1.g (cA xs g) vs l c.enc:=by
 simp only [Sh.SV.g] at h;obtain ⟨cs,rfl,h0,h⟩:=h;obtain ⟨ds,rfl,h3⟩:=XP h0;obtain ⟨c,hc,h1,h2⟩:=h 0 rfl;have e:(ds.map c8.d).map c8.J2=ds.map c8.d:=by simp [c8.J2]
 rw [e] at hc;have e2:ds=c.enc:=(List.map_inj_right (fun _ _ h=>by cases h;rfl)).1 hc;subst e2;exact ⟨c,rfl,h1,h2,h3⟩
def ai0 {xs:List Int}(hx:xs.length<=17592186043904){n:Nat}(hn:n=3\/n=4):∃ (c0 c:y5) (q0 q:Nat),Bt n c/\Pm A 12 [.d (ints xs)] [] S8 (.ptr 0 0) [tp xs 0]/\Pm A 14 [.ptr 0 0,.d (num 3)] [tp xs 0] l1 (cat c0) [tp xs q0] /\
  Pm A 13 [.ptr 0 0,cat c0,.d (num (n:Int))] [tp xs q0] l1 (cat c) [tp xs q]/\q<=4 * xs.length:=by
 obtain ⟨v,H1,⟨rfl,rfl⟩,p12⟩:=aJ9 xs hx;obtain ⟨v,H1,⟨o,o1,o2,o3⟩,p14⟩:=(o33 (by omega) noC:(s33 3).ok (cA xs noC) A).2 [.ptr 0 0,.d (num 3)] [tp xs 0] (by
  simp only [s33,Sh.y8.g];exact ⟨_,_,rfl,rfl,_,_,rfl,bE (by simp only [Sh.SD.g];rfl),rfl⟩) (by
  simp only [s33,Sh.K4.g];exact ⟨_,_,rfl,⟨0,I7 _,rfl⟩,rfl⟩)
 have:=q6.1 o1;subst this;simp only [Sh.K4.g] at o3;obtain ⟨_,_,rfl,⟨q0,hq0,rfl⟩,rfl⟩:=o3;obtain ⟨c0,rfl,_,_,_⟩:=XF (l:=[.slice none 1 3 Xu,.slice none 0 0 (c9 9 .top),.slice none 0 0 (c9 3 .top),.slice none 0 0 (c9 6 .top),.slice none 0 0 (c9 4 .top),.slice none 0 0 (c9 3 .top),.slice none 0 0 (c9 2 .top),.slice none 0 0 (c9 3 .top)]) o2;obtain ⟨v,H1,⟨o,o1,o4,o3⟩,p13⟩:=(o32 (by omega) noC n hn:(Zh n).ok (cA xs noC) A).2 [.ptr 0 0,cat c0,.d (num (n:Int))] [tp xs q0] (by
  simp only [Zh,Sh.y8.g];exact ⟨_,_,rfl,rfl,_,_,rfl,o2,_,_,rfl,bE (by simp only [Sh.SD.g];rfl),rfl⟩) (by
  simp only [Zh,Sh.K4.g];exact ⟨_,_,rfl,⟨q0,hq0,rfl⟩,rfl⟩)
 have:=q6.1 o1;subst this;simp only [Sh.K4.g] at o3;obtain ⟨_,_,rfl,⟨q,hq,rfl⟩,rfl⟩:=o3;obtain ⟨c,rfl,hv,hs,h3⟩:=XF o4;exact ⟨c0,c,q0,q,Bt.of h3 (YZ n) (YY n) hv hs,p12,p14,p13,hq⟩
end Go.Proofs.YtibjocmpkoepoaaGreat


import Derived.Test.YtibjocmpkoepoaaGreatT0
set_option linter.all false
open Bool renaming and_eq_true → c7, false_eq_true → j4, not_eq_false' → C8, not_eq_true' → o7, or_eq_false_iff → G8
open List renaming all_eq_true → Q2, length_map → B9, map_cons → L8, mem_cons → B8, mem_map → L1, mem_singleton → s8, replicate → c9, take_of_length_le → y6
open Nat renaming beq → s7, eq_of_beq_eq_true → e8, le_of_ble_eq_true → j5, lt_or_ge → A5
namespace Go.Proofs.YtibjocmpkoepoaaGreat
open Go.A2 Go.A2.S
attribute [local irreducible] Rx Ry Rn Ex Pf
def Ct {e:List X0}{ty:List Int}(h:s9 (M5 e ty).2 0=true):good (M5 e ty).1:=by
 unfold M5 at h ⊢;split at h
 .simp [o8] at h
 .rename_i a ha
  split at h
  .have hwf:a.wf:=by
    unfold gR at ha;split at ha
    .split at ha
     .rename_i b hb
      cases ha;exact (U3 16 _ _ _ hb).2.1
     .cases ha
    .cases ha
   simp_all [Ln]
  grind [o8]
theorem am9 {c:r9}{n:Nat}:∀ (k i:Nat),gZ c n k i=0->∀ j,i<=j->j<i+k->dw c n j=0
 |0,i,_,j,h1,h2=>by omega
 |k+1,i,h,j,h1,h2=>by
  unfold gZ at h;cases he:s9 (dw c n i) 0 with
  |false =>
   simp_all [Bool.not_false,if_true,o8]
  |true =>
   rw [he] at h
   by_cases hj:j=i
   .grind [fH]
   .exact am9 k (i+1) h j (by omega) (by omega)
def Yk {c:r9}{k:Nat}(h:gN c k=0):1<=(nth c.j9 k).q7.length/\(nth c.j9 k).q7.length<=8/\∀ x,x ∈ (nth c.j9 k).q7->good x.type:=by
 unfold gN at h;cases hc:(!q8 (nth c.j9 k).q7.length 1 8|| !q8 (nth c.j9 k).erase 0 1|| !q8 (nth c.j9 k).bW 0 1048576) with
 |true=>simp_all
 |false =>
  rw [hc] at h;simp [G8,C8,q8,c7,s6,decide_eq_true_eq] at hc;refine ⟨by omega,by omega,fun x hx=> ?_⟩;obtain ⟨j,hj,rfl⟩:=List.getElem_of_mem hx;have h1:=am9 _ _ h j (by omega) (by omega);rw [<- F2 hj];unfold dw at h1
  by_cases hg:good (nth (nth c.j9 k).q7 j).type
  .exact hg
  .have ht:(!s9 (nth (nth c.j9 k).q7 j).type 1&& !s9 (nth (nth c.j9 k).q7 j).type 2)=true:=by
    unfold good at hg;simp [o8,c7,o7,beq_eq_false_iff_ne];omega
   grind
theorem sZ {ty:List Int}:∀ (l:List DW) (seen:List K4),aa ty seen l=0->∀ e,e ∈ l->(e.agg&&s9 e.f 0)=true\/s9 (M5 e.expr ty).2 0=true
 |[],_,_,e,he=>by cases he
 |a::l,seen,h,e,he=>by
  unfold aa at h;split at h
  .omega
  .split at h
   .omega
   .split at h
    .omega
    .split at h
     .rename_i h0
      rcases B8.1 he with rfl|he
      .exact .inl h0
      .exact sZ l _ h e he
     .split at h
      .simp_all [o8]
      .split at h
       .omega
       .rcases B8.1 he with rfl|he
        .simp_all
        .exact sZ l _ h e he
theorem aQ {c:r9}(hv:L6 c=true):∀ (n k:Nat),k<n->k<r9.ns c->1<=(R6 c k).length/\(R6 c k).length<=8/\∀ x,x ∈ R6 c k->good x
 |0,k,h,_=>by omega
 |n+1,k,h,hk=>by
  obtain ⟨h1,_,h3⟩:=uY hv;have hnl:=gK c;have he:=h1 k (by omega)
  rcases A5 k c.j9.length with ht|ht
  .obtain ⟨a1,a2,a3⟩:=Yk (mA he ht)
   simp_all [R6,nth,ek.type,ja,if_pos,L1]
  .have yf:=eo he ht hk
   unfold W8 at yf;split at yf
   .omega
   .split at yf
    .omega
    .rename_i hl
     split at yf
     .omega
     .rename_i hsh
      simp only [Bool.not_eq_true,C8,o7,Bool.not_eq_false] at hsh;have hf:=K6 c (X2 c k).left k;split at yf
      .rename_i h2
       have e:R6 c k=R6 c (F1 c (X2 c k).left k).toNat:=by
        have h0:0<=F1 c (X2 c k).left k:=by
         simp_all [Bool.or_eq_true,u0,decide_eq_true_eq,not_or]
        conv=>lhs;unfold R6 ja
        rw [if_neg (by omega),show (nth c.views (k - c.j9.length))=X2 c k from rfl,if_pos h2,W1 c (by omega)]
       have h0:0<=F1 c (X2 c k).left k:=by
        simp_all [Bool.or_eq_true,u0,decide_eq_true_eq,not_or]
       rw [e];exact aQ hv n _ (by omega) (by omega)
      .rename_i h2
       split at yf
       .simp_all [o8]
       .split at yf
        .simp_all [o8]
        .split at yf
         .omega
         .have e:R6 c k=aL (X2 c k) (ins c k):=by
           unfold R6 ja;rw [if_neg (by omega),show (nth c.views (k - c.j9.length))=X2 c k from rfl,if_neg h2];rfl
          have hlen:1<=(X2 c k).items.length+(X2 c k).D5.length/\(X2 c k).items.length+(X2 c k).D5.length<=8:=by
           unfold bC lM at hsh;rw [if_neg h2] at hsh;split at hsh<;>simp only [c7,o7,G8,o8,beq_eq_false_iff_ne,s6,decide_eq_true_eq] at hsh<;>omega
          have hg:=sZ _ _ yf;rw [e];refine ⟨by grind [aL],by grind [aL],fun x hx=> ?_⟩;simp only [aL,List.mem_append,L1] at hx
          rcases hx with ⟨y,hy,rfl⟩|⟨y,hy,rfl⟩
          .rcases hg ⟨false,y.name, -1,y.expr⟩ (List.mem_append_left _ (L1.2 ⟨y,hy,rfl⟩)) with h|h
           all_goals simp_all [Ct]
          .unfold xK
           split
           .exact .inl rfl
           .rename_i h0
            rcases hg ⟨true,y.name,y.func,y.expr⟩ (List.mem_append_right _ (L1.2 ⟨y,hy,rfl⟩)) with h|h
            all_goals simp_all [Bool.true_and,Ct]
theorem JI {s:K4}:∀ (l:List K4) (i:Nat),s ∈ l->(i:Int)<=I9 s l i/\I9 s l i<i+l.length
 |[],_,h=>by cases h
 |x::r,i,h=>by
  simp only [I9];split
  .simp;omega
  .rename_i hx
   rcases B8.1 h with rfl|h
   .simp [E5] at hx
   .have:=JI r (i+1) h
    simp at this ⊢;omega
def ab1 {c:r9}(hv:L6 c=true){s:K4}(h:s ∈ r9.sn c):∃ i:Nat,Bc c s=(i:Int)/\i<r9.ns c:=by
 have hl:=Z5 c;have h1:=JI (r9.sn c) 0 h;have e:Bc c s=I9 s (r9.sn c) 0:=by
  unfold Bc F1;rw [hv,if_pos rfl,y6 (by omega)]
 rw [e];refine ⟨(I9 s (r9.sn c) 0).toNat,by omega,by omega⟩
def Wf {c:r9}(hv:L6 c=true){i:Nat}(hi:i<r9.ns c):bp c i=true:=by
 unfold bp;rw [hv];simp [s6,u0];omega
end Go.Proofs.YtibjocmpkoepoaaGreat
namespace Go.A2.Sh
mutual
def SD.np:SD->Bool
 | .slice _ _ _ row=>J1.np row
 | .pr _ _=>false
 |_=>true
def J1.np:List SD->Bool
 |[]=>true
 |x::xs=>x.np&&J1.np xs
end
mutual
theorem SD.cx {C C' :Ctx}{vs:List Nat}:∀ (x:SD) {d:Data},x.np=true->x.g C vs d->x.g C' vs d
 | .top,_,_,_=>by simp [SD.g]
 | .lit _,_,_,h=>by simp_all [SD.g]
 | .bool _,_,_,h=>by simp_all [SD.g]
 | .int ..,_,_,h=>by simp_all [SD.g]
 | .anyI _,_,_,h=>by simp_all [SD.g]
 | .str _,_,_,h=>by simp_all [SD.g]
 | .slice v lo hi row,_,hp,h=>by
  obtain ⟨rows,h1,h2,h3,h4,h5⟩:=h;exact ⟨rows,h1,h2,h3,h4,fun r hr=>J1.cx row hp (h5 r hr)⟩
 | .pr _ _,_,hp,_=>by simp [SD.np] at hp
theorem J1.cx {C C' :Ctx}{vs:List Nat}:∀ (x:List SD) {d:List Data},J1.np x=true->J1.g C vs x d->J1.g C' vs x d
 |[],_,_,h=>by simp_all [J1.g]
 |x::xs,_,hp,h=>by
  simp [J1.np,c7] at hp;obtain ⟨d,ds,h1,h2,h3⟩:=h;exact ⟨d,ds,h1,SD.cx x hp.1 h2,J1.cx xs hp.2 h3⟩
end
end Go.A2.Sh
namespace Go.Proofs.YtibjocmpkoepoaaGreat
open Go.A2 Go.A2.S Go.A2.Sh
attribute [local irreducible] Rx Ry Rn Ex Pf
variable [Inhabited tO]
def pS:SD:= .pr 0 (.str 2)
def ZO:List SD:=[.str 2,iR 0 2,.str 2,.str 2,.slice none 0 1 [iR 0 23,iR 0 23],.slice none 0 13 Xt,.slice none 0 3 [.str 2,.slice none 1 4 Xt],.bool .tT,.slice none 0 3 [.str 2,iR 0 4,.slice none 0 4 Xt]]
def r2:List SD:=[.str 2,.str 2,iR 0 2]
def r3:List SD:=[.str 2,.str 2,iR 0 2,iR 0 2,iR 0 16,iR 0 3]
def r4:List SD:=[.str 2,.str 2,iR 0 2,iR 0 9]
def r5:List SD:=[.str 2,.str 2,iR 0 3]
def r6:List SD:=[.str 2,.str 2]
def r7:List SD:=[.str 2,.slice none 0 1 [.str 2],iR 0 30]
def e1 (r:List SD):SD:= .slice none 0 0 r
def rB (n:Nat):List SD:=[.slice none 1 3 ZN,.slice none 0 n ZO,e1 r2,e1 r3,e1 r4,e1 r5,e1 r6,e1 r7]
def cG (n:Nat):SV:= .agg (some 1) [.d (.slice none 1 3 [pS,.slice none 2 4 rC4,iR 0 1,iR 0 40]),.d (.slice none 0 n ZO),.d (e1 r2),.d (e1 r3),.d (e1 r4),.d (e1 r5),.d (e1 r6),.d (e1 r7)]
def vwV:SV:= .agg none (ZO.map .d)
def s76:Sh.Spec:=⟨38,[.ptr 0 0,cG 4,.d (.slice none 1 7 [pS])],[.pr 0],l1,[(vwV,[.pr 0])]⟩
def isD:SV->Bool
 | .d _=>true
 |_=>false
def aG7:Sh.Sem:=fun _ f args H l=>match args,H with
 |[.agg (some 1) c,.d (.pr k (.str m))],[]=>if s7 f 86&&s7 k 0&&oD l l0&&c.all isD then some [(.d (.pr 1 (iR 0 2000)),[])] else none
 |[.agg (some 1) c,.d (.pr k (.int _ _ _ _))],[]=>if s7 f 20&&s7 k 1&&oD l l0&&c.all isD then some [(.d (.slice none 1 8 [iR 1 2]),[])] else none
 |_,_=>none
theorem UQ {C:Ctx}{vs:List Nat}:∀ {l:List SV} {cs:List c8},y7.g C vs l cs->l.all isD=true->cs.map c8.J3=cs
 |[],_,h,_=>by simp_all [inferInstance,y7.g]
 |x::xs,_,h,hd=>by
  obtain ⟨a,b,rfl,h1,h2⟩:=h;simp only [List.all_cons,c7] at hd;cases x<;>simp only [isD,j4,false_and] at hd;obtain ⟨d,rfl,_⟩:=bG h1;simp [L8,c8.J3];rw [UQ h2 hd.2]
def Br {l:H7}(h:oD l l0=true):l=an:=by
 simp only [oD,c7] at h;have e1:=e8 h.1.1.1;have e2:=e8 h.1.1.2;have e3:=e8 h.1.2;have e4:=e8 h.2;cases l;subst e1 e2 e3 e4;rfl
def Xk {f:FuncId}{args:List c8}{v:c8}{P:c8->p9->Prop}(h:Pf A f args v)(hP:P v []):Pq A f args [] an P:=have _:Inhabited tO:=inferInstance;⟨v,[],hP,by unfold Pf at h;exact h⟩
def ai5 (xs:List Int){g:r9}(hs:J7 g)(hv:L6 g=true):gq (bE xs g) A aG7:=by
 intro B f args H l outs h vs hB az Hc ha hH;have gw:r9.ns g<=1000+1000:=by obtain ⟨f0,f1,_⟩:=hs.sm.oB;grind [r9.ns]
 unfold aG7 at h;split at h
 .split at h
  .rename_i hc
   simp only [c7] at hc;obtain ⟨⟨⟨c1,c2⟩,c3⟩,c4⟩:=hc;have c1:=e8 c1;have c2:=e8 c2;subst c1 c2;cases h;rw [Br c3];obtain ⟨a0,_,rfl,h0,a1,_,rfl,h1,rfl⟩:=ha;subst hH;obtain ⟨cs,rfl,h2,h3⟩:=h0;have h4:cs.map c8.J3=g.enc.map .d:=h3 1 rfl;rw [UQ h2 c4] at h4;subst h4;obtain ⟨d,rfl,h5⟩:=bG h1;obtain ⟨s,rfl,hm⟩:=h5.1;obtain ⟨i,e,hi⟩:=ab1 hv hm;have p:=aD8 g hs s;rw [e] at p;refine Xk p ⟨_,s8.2 rfl,cK ?_,by rfl⟩;exact ⟨⟨i,rfl,hi⟩,(i:Int),rfl,by omega,by omega,trivial⟩
  .cases h
 .split at h
  .rename_i hc
   simp only [c7] at hc;obtain ⟨⟨⟨c1,c2⟩,c3⟩,c4⟩:=hc;have c1:=e8 c1;have c2:=e8 c2;subst c1 c2;cases h;rw [Br c3];obtain ⟨a0,_,rfl,h0,a1,_,rfl,h1,rfl⟩:=ha;subst hH;obtain ⟨cs,rfl,h2,h3⟩:=h0;have h4:cs.map c8.J3=g.enc.map .d:=h3 1 rfl;rw [UQ h2 c4] at h4;subst h4;obtain ⟨d,rfl,h5⟩:=bG h1;obtain ⟨i,rfl,hi⟩:=h5.1;have p:=ar3 g hs i (Wf hv hi);obtain ⟨g1,g2,g3⟩:=aQ hv (i+1) i (by omega) hi;refine Xk p ⟨_,s8.2 rfl,cK ?_,by rfl⟩;refine ⟨(R6 g i).map fun t=>[num t],?_,by simp_all,by simp_all,(fun i h=>by cases h),fun r hr=> ?_⟩
   .simp [B9]
    congr 1
   .obtain ⟨t,ht,rfl⟩:=L1.1 hr
    refine ⟨num t,[],rfl,⟨t,rfl,?_,?_,trivial⟩,rfl⟩
    .rcases g3 t ht with h|h<;>omega
    .rcases g3 t ht with h|h<;>omega
  .cases h
 .cases h
theorem chunk {α:Type}{enc:α->List A2.Data}{sz:Nat}(hs:∀ a,(enc a).length=sz):∀ (rows:List (List A2.Data)) (l:List α),rows.length=l.length->(∀ r,r ∈ rows->r.length=sz)->rows.flatten=l.flatMap enc->rows=l.map enc
 |[],[],_,_,_=>rfl
 |[],_::_,h,_,_=>by simp_all
 |_::_,[],h,_,_=>by simp at h
 |r::rows,a::l,h,hr,e=>by
  have h1:=List.append_inj e (by simp_all);rw [h1.1,chunk hs rows l (by simpa using h) (fun r hr' =>hr r (by simp [hr'])) h1.2];rfl
section
variable {C:Ctx} {vs:List Nat} {α:Type} {enc:α->List A2.Data}
def HK {v:Option Nat}{lo hi:Nat}{row:List SD}{l:List α}(h:(SD.slice v lo hi row).g C vs (B0 enc l))(hs:∀ a,(enc a).length=row.length:=by intro;rfl):lo<=l.length/\l.length<=hi/\∀ a,a ∈ l->J1.g C vs row (enc a):=by
 obtain ⟨rows,h1,h2,h3,_,h5⟩:=h;injection h1 with e1 e2
 have:=chunk hs rows l e1.symm (fun r hr=>J1.len (h5 r hr)) e2.symm
 grind
def NS {lo hi:Nat}{row:List SD}{l:List α}(h1:lo<=l.length)(h2:l.length<=hi)(h3:∀ a,a ∈ l->J1.g C vs row (enc a)):(SD.slice none lo hi row).g C vs (B0 enc l):=by
 simp_all [inferInstance,SD.g,B0,List.flatMap]<;>grind
end
structure Bt (n:Nat)(c:r9):Prop where
 sh:∀ C vs,J1.g C vs (rB n) c.enc
 val:L6 c=true
 sm:J7 c
def Bt.of {C:Ctx}{vs:List Nat}{n:Nat}{c:r9}(h:J1.g C vs (rB n) c.enc)(hp:J1.np (rB n)=true)(hc:J1.cl (rB n)=true)(hv:L6 c=true)(hs:J7 c):Bt n c:=have _:Inhabited tO:=inferInstance;⟨fun _ _=>J1.cH _ hc (J1.cx _ hp h),hv,hs⟩
def aF3 (n:Nat):J1.np (rB n)=true:=by rfl
def aF2 (n:Nat):J1.cl (rB n)=true:=by rfl
section
variable {n:Nat} {c:r9} (h:Bt n c)
include h
theorem Bt.j9:1<=c.j9.length/\c.j9.length<=3/\∀ C vs a,a ∈ c.j9->J1.g C vs ZN a.enc:=by
 have h1:∀ C vs,(SD.slice none 1 3 ZN).g C vs (B0 jj.enc c.j9):=fun C vs=>by
  have:=h.sh C vs
  grind [rB,r9.enc,sc]
 have h2:=HK (h1 (bE [] c) []);exact ⟨h2.1,h2.2.1,fun C vs a ha=>(HK (h1 C vs)).2.2 a ha⟩
theorem Bt.views:c.views.length<=n/\∀ C vs a,a ∈ c.views->J1.g C vs ZO a.enc:=by
 have h1:∀ C vs,(SD.slice none 0 n ZO).g C vs (B0 Vw.enc c.views):=fun C vs=>by
  have:=h.sh C vs
  grind [rB,r9.enc,sc]
 have h2:=HK (h1 (bE [] c) []);exact ⟨h2.2.1,fun C vs a ha=>(HK (h1 C vs)).2.2 a ha⟩
end
def ai6:Sh.Sem:=fun _ f args H l=>match args,H with
 |[.agg (some 1) c],[]=>if s7 f 39&&oD l l0&&c.all isD then some [(.d (.slice none 1 7 [pS]),[])] else none
 |_,_=>none
def bD4 (c:r9)(hf:c.oB):Pf A 39 [cat c] (.d (B0 encS (r9.sn c))):=by
 have _:Inhabited tO:=inferInstance;obtain ⟨f0,f1,_⟩:=hf;refine Pf.run [cat c,.any,.any,.any,.any,.any] rfl rfl rfl rfl ?_;refine gr ?_;refine Ex.I7 (fun k T H=>∃ (i:Nat) (acc:List K4) (v0 v2 w5:c8),T=[v0,.ptr 0 0,v2,E7 1 encS acc,.d (num i),w5]/\H=[.cells (c.enc.map .d)]/\i+k=c.j9.length/\acc=(c.j9.take i).map jj.name) (by simp_all) ?_ (k:=c.j9.length) ⟨0,[],_,_,_,rfl,rfl,by simp,by simp⟩;rintro k _ _ ⟨i,acc,v0,v2,w5,rfl,rfl,hk,hacc⟩;have hl:acc.length=i:=by grind
 refine Ex.nT ?_
 repeat' (first|refine gx ?_|refine Ex.M8 ?_|refine Ex.N6 ?_|refine Ex.cond rfl (fun ht=> ?_) (fun ht=> ?_)|refine Ex.test (Rn.text ?_)|refine Ex.test (Rn.draw ?_)|refine ⟨_,rfl,fun ht=> ?_,fun ht=> ?_⟩|refine ⟨_,rfl,?_⟩|fail)
 .have h1:=A6 ht
  refine ⟨k - 1,by omega,i+1,acc++[(nth c.j9 i).name],_,_,_,rfl,rfl,by omega,?_⟩;simp_all [H9]
 have h1:=A3 ht;rw [y6 (by omega)] at hacc;clear ht h1 hk hl;subst hacc;refine Ex.I7 (fun k T H=>∃ (i:Nat) (acc:List K4) (v0 v2 w4:c8),T=[v0,.ptr 0 0,v2,E7 1 encS acc,w4,.d (num i)]/\H=[.cells (c.enc.map .d)]/\i+k=c.views.length/\acc=c.j9.map jj.name++(c.views.take i).map Vw.name) (by simp_all) ?_ (k:=c.views.length) ⟨0,c.j9.map jj.name,_,_,_,rfl,rfl,by simp,by simp⟩;rintro k _ _ ⟨i,acc,v0,v2,w4,rfl,rfl,hk,hacc⟩;have hl:acc.length=c.j9.length+i:=by grind
 refine Ex.nT ?_
 repeat' (first|refine gx ?_|refine Ex.M8 ?_|refine Ex.N6 ?_|refine Ex.cond rfl (fun ht=> ?_) (fun ht=> ?_)|refine Ex.test (Rn.text ?_)|refine Ex.test (Rn.draw ?_)|refine ⟨_,rfl,fun ht=> ?_,fun ht=> ?_⟩|refine ⟨_,rfl,?_⟩|fail)
 .have h1:=A6 ht
  refine ⟨k - 1,by omega,i+1,acc++[(nth c.views i).name],_,_,_,rfl,rfl,by omega,?_⟩;simp_all [H9]
 have h1:=A3 ht;simp_all [y6,j3,B0,E7,r9.sn]
def Bt.name {n:Nat}{c:r9}(h:Bt n c){s:K4}(hs:s ∈ r9.sn c):s.length<=2:=by
 unfold r9.sn at hs
 rcases List.mem_append.1 hs with hs|hs
 .obtain ⟨t,ht,rfl⟩:=L1.1 hs
  have:=h.j9.2.2 (bE [] c) [] t ht;unfold ZN jj.enc at this;obtain ⟨x,y,e,h1,_⟩:=sc this;cases e;simp only [SD.g] at h1;obtain ⟨s,e,h2⟩:=h1;cases e;exact h2
 .obtain ⟨t,ht,rfl⟩:=L1.1 hs
  have:=h.views.2 (bE [] c) [] t ht;unfold ZO Vw.enc at this;obtain ⟨x,y,e,h1,_⟩:=sc this;cases e;simp only [SD.g] at h1;obtain ⟨s,e,h2⟩:=h1;cases e;exact h2
def Qc (xs:List Int){n:Nat}{g:r9}(hg:Bt n g)(hn:n<=4):gq (bE xs g) A ai6:=by
 intro B f args H l outs h vs hB az Hc ha hH;unfold ai6 at h;split at h
 .rename_i c
  split at h
  .rename_i hc
   simp only [c7] at hc;obtain ⟨⟨c1,c3⟩,c4⟩:=hc;have c1:=e8 c1;subst c1;cases h;rw [Br c3];simp only [y7.g] at ha;obtain ⟨a0,_,rfl,h0,rfl⟩:=ha;simp only [J6.g] at hH;subst hH;simp only [SV.g] at h0;obtain ⟨cs,rfl,h2,h3⟩:=h0;have h4:cs.map c8.J3=g.enc.map .d:=h3 1 rfl;rw [UQ h2 c4] at h4;subst h4;have ht:=hg.j9;have hw:=hg.views;have hl:=Z5 g;have qU:r9.ns g=g.j9.length+g.views.length:=rfl;refine Xk (bD4 g hg.sm.sm.oB) ⟨_,s8.2 rfl,cK (NS (by omega) (by omega) fun s hs=> ?_),by simp only [J6.g]⟩;simp only [J1.g,SD.g,encS,pS];exact ⟨_,_,rfl,⟨⟨s,rfl,hs⟩,s,rfl,hg.name hs⟩,rfl⟩
  .cases h
 .cases h
def bI4 (l:List Sh.Spec):Sh.Sem:=cz (cz aG7 ai6) (ey l)
section
variable {xs:List Int} (hx:xs.length<=35184372088832) {g:r9} {n:Nat} (hg:Bt n g) (hn:n<=4)
include hx hg hn
def ai8 {l:List Sh.Spec}(h:rN (bE xs g) l):gq (bE xs g) A (bI4 l):=mS (mS (ai5 xs hg.sm hg.val) (Qc xs hg hn)) (zZ hx h)
theorem o76:s76.ok (bE xs g) A :=
 uO (kp:=[]) (js:=[]) (fuel:=40) (ai8 hx hg hn (.cons (o35 hx g) (.cons (bB1 hx g) (.cons (WG hx g) (.cons (aU8 hx g) .nil))))) dM uz rfl rfl (by kernel_rfl)
end
end Go.Proofs.YtibjocmpkoepoaaGreat
namespace Go.Proofs.YtibjocmpkoepoaaGreat
open Go.A2 Go.A2.S Go.A2.Sh
attribute [local irreducible] Rx Ry Rn Ex Pf
variable [Inhabited tO]
def aG8:Sh.Sem:=fun B f args H l=>match args,H with
 |[.ptr 0 0,.agg (some 1) c,.d ns],[.pr 0]=>if s7 f 38&&oD l l1&&c.all isD&&SD.le B ns (.slice none 1 7 [pS]) then some [(vwV,[.pr 0])] else none
 |_,_=>none
def Bt.shG {n:Nat}{c:r9}(h:Bt n c)(hn:n<=4)(xs:List Int)(vs:List Nat):(cG 4).g (bE xs c) vs (cat c):=by
 obtain ⟨a1,a2,a3⟩:=h.j9;obtain ⟨b1,b2⟩:=h.views;have hs:=h.sh (bE xs c) vs;unfold rB r9.enc at hs;obtain ⟨_,_,e,_,hs⟩:=sc hs;cases e;obtain ⟨_,_,e,_,hs⟩:=sc hs;cases e;have h1:(SD.slice none 1 3 [pS,.slice none 2 4 rC4,iR 0 1,iR 0 40]).g (bE xs c) vs (B0 jj.enc c.j9):=NS a1 a2 fun t ht=>by
  have:=a3 (bE xs c) vs t ht;unfold ZN jj.enc at this;obtain ⟨_,_,e,g1,g2⟩:=sc this;cases e;rw [jj.enc,J1.g];refine ⟨_,_,rfl,?_,g2⟩;simp only [pS,SD.g] at g1 ⊢;exact ⟨⟨t.name,rfl,by unfold r9.sn;exact List.mem_append_left _ (L1.2 ⟨t,ht,rfl⟩)⟩,g1⟩
 have h2:(SD.slice none 0 4 ZO).g (bE xs c) vs (B0 Vw.enc c.views):=NS (Nat.zero_le _) (by omega) fun t ht=>b2 (bE xs c) vs t ht
 have h3:J1.g (bE xs c) vs [.slice none 1 3 [pS,.slice none 2 4 rC4,iR 0 1,iR 0 40],.slice none 0 4 ZO,e1 r2,e1 r3,e1 r4,e1 r5,e1 r6,e1 r7] c.enc:=by
  rw [J1.g];refine ⟨_,_,rfl,h1,?_⟩;rw [J1.g];exact ⟨_,_,rfl,h2,hs⟩
 simp only [cG,SV.g];refine ⟨_,rfl,y7.NP h3,fun k hk=> ?_⟩;cases hk;show (c.enc.map c8.d).map c8.J3=c.enc.map c8.d
 rw [List.map_map];rfl
def ai9 {xs:List Int}(hx:xs.length<=35184372088832){g:r9}{n:Nat}(hg:Bt n g)(hn:n<=4):gq (bE xs g) A aG8:=by
 intro B f args H l outs h vs hB az Hc ha hH;unfold aG8 at h;split at h
 .rename_i c ns
  split at h
  .rename_i hc
   simp only [c7] at hc;obtain ⟨⟨⟨c1,c3⟩,c4⟩,c5⟩:=hc;have c1:=e8 c1;subst c1;cases h;have hl:l=l1:=by
    simp only [oD,c7] at c3;have e1:=e8 c3.1.1.1;have e2:=e8 c3.1.1.2;have e3:=e8 c3.1.2;have e4:=e8 c3.2;cases l;simp only [l1] at e1 e2 e3 e4;subst e1 e2 e3 e4;rfl
   subst hl;simp only [y7.g] at ha;obtain ⟨a0,_,rfl,h0,a1,_,rfl,h1,a2,_,rfl,h2,rfl⟩:=ha;simp only [SV.g] at h1;obtain ⟨cs,rfl,h3,h4⟩:=h1;have h4:cs.map c8.J3=g.enc.map .d:=h4 1 rfl;rw [UQ h3 c4] at h4;subst h4;obtain ⟨d,rfl,h5⟩:=bG h2;have h6:=SD.cO hB _ c5 h5;obtain ⟨_,hk⟩:=o76 hx hg hn;obtain ⟨v,H1,⟨o,o1,o2,o3⟩,hm⟩:=hk [a0,cat g,.d d] Hc (by
    simp only [s76,y7.g];exact ⟨_,_,rfl,h0,_,_,rfl,hg.shG hn xs [],_,_,rfl,cK (SD.cH _ (by rfl) h6),rfl⟩) (J6.cH _ (by rfl) hH)
   have:=s8.1 o1;subst this;exact ⟨v,H1,⟨_,s8.2 rfl,SV.cH _ (by rfl) o2,J6.cH _ (by rfl) o3⟩,hm⟩
  .cases h
 .cases h
def bd4:Sh.Sem:=cz (cz aG8 ai6) Aa
def ai7 {xs:List Int}(hx:xs.length<=35184372088832){g:r9}{n:Nat}(hg:Bt n g)(hn:n<=4):gq (bE xs g) A bd4:=mS (mS (ai9 hx hg hn) (Qc xs hg hn)) (BQ xs hx g)
def vT (n i:Nat)(w:SV):List SV:=[.ptr 0 0,w,.d (.lit (.int .i64 n)),.ptr 1 0,.ptr 2 0,.d (.lit (.int .i64 i)),w]
def vH (t i:Nat):List SO:=[.pr 0,.cells (some t) ((rB i).map .d),zC]
def MX:q6:=match a13.body with
 | .seq _ (.seq (.seq _ (.block _ (.loop _ b))) _)=>b
 |_=> .bad
def CB (n i:Nat):Bool:=match cA A bd4 VT [] l1 1 40 MX ⟨vT n i .any,vH 1 i,[]⟩ with
 |some outs=>outs.all fun o=>match o.1 with
  | .normal=>Nat.blt i n&&y7.le V0 o.2.B o.2.T (vT n (i+1) .top)&&(J6.le V0 o.2.B (o.2.H.take 3) (vH 0 (i+1))||J6.le V0 o.2.B (o.2.H.take 3) (vH 1 (i+1)))
  | .exit e=>s7 e 0&&s7 i n&&y7.le V0 o.2.B o.2.T (vT n i .top)&&J6.le V0 o.2.B o.2.H (vH 1 i)
  | .ret=>false
 |none=>false
theorem Qr:CB 3 0=true/\CB 3 1=true/\CB 3 2=true/\CB 3 3=true:=have _:Inhabited tO:=inferInstance;⟨by kernel_rfl,by kernel_rfl,by kernel_rfl,by kernel_rfl⟩
theorem Lr:CB 4 0=true/\CB 4 1=true/\CB 4 2=true/\CB 4 3=true/\CB 4 4=true:=have _:Inhabited tO:=inferInstance;⟨by kernel_rfl,by kernel_rfl,by kernel_rfl,by kernel_rfl,by kernel_rfl⟩
def Yw {n i:Nat}(hn:n=3\/n=4)(hi:i<=n):CB n i=true:=by
 rcases hn with rfl|rfl
 .match i,hi with
  |0,_=>exact Qr.1
  |1,_=>exact Qr.2.1
  |2,_=>exact Qr.2.2.1
  |3,_=>exact Qr.2.2.2
 .match i,hi with
  |0,_=>exact Lr.1
  |1,_=>exact Lr.2.1
  |2,_=>exact Lr.2.2.1
  |3,_=>exact Lr.2.2.2.1
  |4,_=>exact Lr.2.2.2.2
def zO:A1:= .cells [.own 4 0 [],.own 9 0 [],.own 3 0 [],.own 6 0 [],.own 4 0 [],.own 3 0 [],.own 2 0 [],.own 3 0 []]
def aH9 (xs:List Int)(n:Nat)(k:Nat)(s:St):Prop:=∃ (i:Nat) (c:r9) (q:Nat) (w1 w6:c8) (tl:p9),i+k=n/\Bt i c/\q<=4 * xs.length/\s=⟨[.ptr 0 0,w1,.d (num (n:Int)),.ptr 1 0,.ptr 2 0,.d (num (i:Int)),w6],tp xs q:: .cells (c.enc.map .d)::zO::tl⟩
def yo {C:Ctx}{vs:List Nat}{n:Nat}{v:c8}(h:(EG n).g C vs v):v= .own n 0 []:=by
 have _:Inhabited tO:=inferInstance;simp only [EG,SV.g,SD.g] at h;obtain ⟨len,cells,rfl,e⟩:=h;cases e;rfl
def be8 {C:Ctx}{vs:List Nat}{o:A1}(h:zC.g C vs o):o=zO:=by
 obtain ⟨cs,rfl,h,_⟩:=h;simp only [y7.g] at h;obtain ⟨a0,_,rfl,h0,a1,_,rfl,h1,a2,_,rfl,h2,a3,_,rfl,h3,a4,_,rfl,h4,a5,_,rfl,h5,a6,_,rfl,h6,a7,_,rfl,h7,rfl⟩:=h;rw [yo h0,yo h1,yo h2,yo h3,yo h4,yo h5,yo h6,yo h7];rfl
def be7 {C:Ctx}{vs:List Nat}:zC.g C vs zO:=by
 have _:Inhabited tO:=inferInstance;refine ⟨_,rfl,?_,fun k h=>by cases h⟩;show y7.g C vs [EG 4,EG 9,EG 3,EG 6,EG 4,EG 3,EG 2,EG 3] [.own 4 0 [],.own 9 0 [],.own 3 0 [],.own 6 0 [],.own 4 0 [],.own 3 0 [],.own 2 0 [],.own 3 0 []]
 have o:∀ n,(EG n).g C vs (.own n 0 []):=fun n=>by
  unfold EG Sh.SV.g;exact ⟨0,[],rfl,by unfold Sh.SD.g;rfl⟩
 exact ⟨_,_,rfl,o 4,_,_,rfl,o 9,_,_,rfl,o 3,_,_,rfl,o 6,_,_,rfl,o 4,_,_,rfl,o 3,_,_,rfl,o 2,_,_,rfl,o 3,rfl⟩
def NO {C:Ctx}{vs:List Nat}{x:A2.Data}{v:c8}(h:(SV.d (.lit x)).g C vs v):v= .d x:=by
 have _:Inhabited tO:=inferInstance;obtain ⟨d,rfl,h2⟩:=bG h;simp only [SD.g] at h2;rw [h2]
def am6 {xs:List Int}{g:r9}{vs:List Nat}{t i:Nat}{o:A1}(ht:t=0\/(t=1/\L6 g=true/\J7 g))(h:(SO.cells (some t) ((rB i).map .d)).g (bE xs g) vs o):∃ c,o= .cells (c.enc.map .d)/\Bt i c:=by
 obtain ⟨cs,rfl,h1,h2⟩:=h;obtain ⟨ds,rfl,h3⟩:=Vn h1;have e:(ds.map c8.d).map c8.J3=ds.map c8.d:=by rw [List.map_map];rfl
 have inj:∀ {a b:List A2.Data},a.map c8.d=b.map c8.d->a=b:=by
  intro a
  induction a with
  |nil=>intro b h;cases b with|nil=>rfl|cons=>simp at h
  |cons x a ih=>intro b h;cases b with|nil=>simp at h|cons y b=>simp at h;rw [h.1,ih (by simpa using h.2)]
 rcases ht with rfl|⟨rfl,hv,hs⟩
 .obtain ⟨c,h4,h5,h6⟩:=h2 0 rfl
  rw [e] at h4;have:=inj h4;subst this;exact ⟨c,rfl,Bt.of h3 (aF3 i) (aF2 i) h5 h6⟩
 .have h4:(ds.map c8.d).map c8.J3=g.enc.map .d:=h2 1 rfl
  rw [e] at h4;have:=inj h4;subst this;exact ⟨g,rfl,Bt.of h3 (aF3 i) (aF2 i) hv hs⟩
def s32 (n:Nat):Sh.Spec:=⟨13,[.ptr 0 0,UU,.d (.lit (.int .i64 n))],[.pr 0],l1,[(.agg (some 0) ((rB n).map .d),[.pr 0])]⟩
section
variable {xs:List Int} (hx:xs.length<=35184372088832)
include hx
def pass (n:Nat)(hn:n=3\/n=4)(k:Nat)(s:St)(h:aH9 xs n k s):Ex A l1 1 MX (clean [true,false,true,true,true,true,false] 1 3 s) (Bf (fun x s=>x= .exit 0/\∃ (c:r9) (q:Nat) (w1 w6:c8),Bt n c/\q<=4 * xs.length/\s=⟨[.ptr 0 0,w1,.d (num (n:Int)),.ptr 1 0,.ptr 2 0,.d (num (n:Int)),w6],[tp xs q,.cells (c.enc.map .d),zO]⟩) fun s' =>∃ k',k' <k/\aH9 xs n k' s'):=by
 obtain ⟨i,c,q,w1,w6,tl,hk,hc,hq,rfl⟩:=h;have hcl:clean [true,false,true,true,true,true,false] 1 3 ⟨[.ptr 0 0,w1,.d (num (n:Int)),.ptr 1 0,.ptr 2 0,.d (num (i:Int)),w6],tp xs q:: .cells (c.enc.map .d)::zO::tl⟩=⟨[.ptr 0 0,.any,.d (num (n:Int)),.ptr 1 0,.ptr 2 0,.d (num (i:Int)),.any],[tp xs q,.cells (c.enc.map .d),zO]⟩:=by
  unfold clean;rw [if_pos ⟨Nat.le_of_eq rfl,Nat.zero_le _⟩];rfl
 rw [hcl];have hv:=Yw (n:=n) (i:=i) hn (by omega);unfold CB at hv;split at hv
 .rename_i outs hx2
  have h0:CS.g (bE xs c) [] ⟨vT n i .any,vH 1 i,[]⟩ ⟨[.ptr 0 0,.any,.d (num (n:Int)),.ptr 1 0,.ptr 2 0,.d (num (i:Int)),.any],[tp xs q,.cells (c.enc.map .d),zO]⟩:=by
   refine ⟨by simp [vT,y7.g,SV.g,SD.g,num],?_,rfl,fun i lo hi h=>by simp at h⟩;simp only [vH,J6.g];refine ⟨_,_,rfl,⟨q,hq,rfl⟩,_,_,rfl,⟨_,rfl,y7.NP (hc.sh _ _),fun k hk=> ?_⟩,_,_,rfl,be7,rfl⟩;cases hk;show (c.enc.map c8.d).map c8.J3=c.enc.map c8.d
   rw [List.map_map];rfl
  refine (ij (ai7 hx hc (by omega)) (JF xs c l1 1) MX h0 hx2).mono ?_;rintro x st ⟨o,o1,rfl,ws,_,g1,g2,g3⟩;have hv:=Q2.1 hv o o1;have hT:∀ {j:Nat},y7.le V0 o.2.B o.2.T (vT n j .top)=true->∃ u1 u6,st.T=[.ptr 0 0,u1,.d (num (n:Int)),.ptr 1 0,.ptr 2 0,.d (num (j:Int)),u6]:=fun {j} h=>by
   have:=y7.cO g3 dM (C:=bE xs c) _ h g1;simp only [vT,y7.g] at this;obtain ⟨a0,_,e,h0,a1,_,rfl,_,a2,_,rfl,h2,a3,_,rfl,h3,a4,_,rfl,h4,a5,_,rfl,h5,a6,_,rfl,_,rfl⟩:=this;rw [e,cw h0,NO h2,cw h3,cw h4,NO h5];exact ⟨a1,a6,rfl⟩
  have hH:∀ {t j:Nat} {H:p9},t=0\/t=1->J6.g (bE xs c) ws (vH t j) H->∃ c' q',Bt j c' /\q' <=4 * xs.length/\H=[tp xs q',.cells (c'.enc.map .d),zO]:=fun {t j H} ht h=>by
   simp only [vH,J6.g] at h;obtain ⟨a0,_,rfl,⟨q',hq',rfl⟩,a1,_,rfl,h1,a2,_,rfl,h2,rfl⟩:=h;obtain ⟨c',rfl,h3⟩:=am6 (ht.imp id fun e=>⟨e,hc.val,hc.sm⟩) h1;rw [be8 h2];exact ⟨c',q',h3,hq',rfl⟩
  cases he:o.1 with
  |ret=>rw [he] at hv;cases hv
  |normal =>
   rw [he] at hv;simp only [c7,Bool.or_eq_true] at hv;obtain ⟨⟨v1,v2⟩,v3⟩:=hv;have v1:i<n:=j5 v1;obtain ⟨u1,u6,eT⟩:=hT v2;have hH3:∃ t,(t=0\/t=1)/\J6.g (bE xs c) ws (vH t (i+1)) (st.H.take 3):=by
    rcases v3 with v3|v3
    .exact ⟨0,.inl rfl,J6.cO g3 dM v3 (J6.take g2 3)⟩
    .exact ⟨1,.inr rfl,J6.cO g3 dM v3 (J6.take g2 3)⟩
   obtain ⟨t,ht,h4⟩:=hH3;obtain ⟨c',q',h5,h6,h7⟩:=hH ht h4;refine ⟨k - 1,by omega,i+1,c',q',u1,u6,st.H.drop 3,by omega,h5,h6,?_⟩;have e:st.H=st.H.take 3++st.H.drop 3:=(List.take_append_drop 3 st.H).symm;cases st;simp only at eT e h7;rw [h7] at e;rw [eT,e];simp
  |exit e =>
   rw [he] at hv;simp only [c7] at hv;obtain ⟨⟨⟨v1,v2⟩,v3⟩,v4⟩:=hv;have v1:=e8 v1;have v2:=e8 v2;subst v1 v2;obtain ⟨u1,u6,eT⟩:=hT v3;obtain ⟨c',q',h5,h6,h7⟩:=hH (.inr rfl) (J6.cO g3 dM v4 g2);refine ⟨rfl,c',q',u1,u6,h5,h6,?_⟩;cases st;simp only at eT h7;rw [eT,h7]
 .cases hv
theorem o32 (g:r9)(n:Nat)(hn:n=3\/n=4):(s32 n).ok (bE xs g) A:=by
 refine ⟨by rcases hn with rfl|rfl<;>kernel_rfl,fun az Hc ha hH=> ?_⟩;simp only [s32,y7.g] at ha;obtain ⟨a0,_,rfl,h0,a1,_,rfl,h1,a2,_,rfl,h2,rfl⟩:=ha;simp only [s32,J6.g] at hH;obtain ⟨_,_,rfl,⟨q,hq,rfl⟩,rfl⟩:=hH;have h0:=cw h0;have h2:=NO h2;subst h0 h2;have hB:Bg [] []:=⟨rfl,fun i lo hi h=>by simp at h⟩;simp only [UU,SV.g] at h1;obtain ⟨cs,rfl,h3,h4⟩:=h1;have h5:y7.g (bE xs g) [] ((rB 0).map .d) cs:=y7.cO hB (fact:=V0) dM _ (by kernel_rfl) h3;obtain ⟨c,e,hc⟩:=am6 (xs:=xs) (g:=g) (vs:=[]) (t:=0) (i:=0) (o:= .cells cs) (.inl rfl) ⟨cs,rfl,h5,h4⟩;cases e;refine Pq.run (b:=1) [.ptr 0 0,cat c,.d (num (n:Int)),.any,.any,.any,.any] rfl rfl rfl rfl rfl ?_;unfold tp;refine gr ?_;refine Ex.loop (aH9 xs n) (fun k s hs=>(pass hx n hn k s hs).mono ?_) (k:=n) ⟨0,c,q,_,_,[],by omega,hc,hq,rfl⟩;rintro x s h;cases x with
 |normal=>exact h
 |ret=>exact absurd h.1 (by simp)
 |exit e =>
  obtain ⟨e,c',q',w1,w6,h5,h6,rfl⟩:=h;cases e;unfold tp zO;show Ex _ _ _ _ _ _
  refine gr ?_;refine ⟨_,_,rfl,_,s8.2 rfl,?_,?_⟩
  .simp only [SV.g]
   refine ⟨_,rfl,y7.NP (h5.sh _ _),fun k hk=> ?_⟩;cases hk;exact ⟨c',rfl,h5.val,h5.sm⟩
  .simp only [J6.g]
   exact ⟨_,_,rfl,⟨q',h6,rfl⟩,rfl⟩
end
end Go.Proofs.YtibjocmpkoepoaaGreat
namespace Go.Proofs.YtibjocmpkoepoaaGreat
open Go.A2 Go.A2.S Go.A2.Sh
attribute [local irreducible] Rx Ry Rn Ex Pf
section
variable [Inhabited tO]
def bG1 (xs:List Int)(h:xs.length<=17592186043904):Pq A 12 [.d (ints xs)] [] an fun v H1=>v= .ptr 0 0/\H1=[tp xs 0]:=by
 have _:Inhabited tO:=inferInstance;refine Pq.run (b:=0) [.d (ints xs),.any] rfl rfl rfl rfl rfl ?_;have e:ints xs=B0 (fun n=>[num n]) xs:=by simp [ints,B0,List.flatMap_singleton']
 rw [e];refine gr ?_;refine Ry.pure (v:= .own 1 0 []) (rs:=[]) rfl (by rfl) ?_;refine gr ?_;exact ⟨_,_,rfl,rfl,by simp [splice,tp,rq,opw,lk];exact ⟨rfl,rfl⟩⟩
end
def noC:r9:=⟨[],[],[],[],[],[],[],[]⟩
def aO1 {xs:List Int}{g:r9}{vs:List Nat}{l:List SD}{v:c8}(h:(SV.agg (some 0) (l.map .d)).g (bE xs g) vs v):∃ c,v=cat c/\L6 c=true/\J7 c/\J1.g (bE xs g) vs l c.enc:=by
 simp only [Sh.SV.g] at h;obtain ⟨cs,rfl,h0,h⟩:=h;obtain ⟨ds,rfl,h3⟩:=Vn h0;obtain ⟨c,hc,h1,h2⟩:=h 0 rfl;have e:(ds.map c8.d).map c8.J3=ds.map c8.d:=by simp [c8.J3]
 rw [e] at hc;have e2:ds=c.enc:=(List.map_inj_right (fun _ _ h=>by cases h;rfl)).1 hc;subst e2;exact ⟨c,rfl,h1,h2,h3⟩
def av9 {xs:List Int}(hx:xs.length<=17592186043904){n:Nat}(hn:n=3\/n=4):∃ (c0 c:r9) (q0 q:Nat),Bt n c/\Pm A 12 [.d (ints xs)] [] an (.ptr 0 0) [tp xs 0]/\Pm A 14 [.ptr 0 0,.d (num 3)] [tp xs 0] l1 (cat c0) [tp xs q0] /\
  Pm A 13 [.ptr 0 0,cat c0,.d (num (n:Int))] [tp xs q0] l1 (cat c) [tp xs q]/\q<=4 * xs.length:=by
 obtain ⟨v,H1,⟨rfl,rfl⟩,p12⟩:=bG1 xs hx;obtain ⟨v,H1,⟨o,o1,o2,o3⟩,p14⟩:=(o33 (by omega) noC:(s33 3).ok (bE xs noC) A).2 [.ptr 0 0,.d (num 3)] [tp xs 0] (by
  simp only [s33,Sh.y7.g];exact ⟨_,_,rfl,rfl,_,_,rfl,cK (by simp only [Sh.SD.g];rfl),rfl⟩) (by
  simp only [s33,Sh.J6.g];exact ⟨_,_,rfl,⟨0,Nat.zero_le _,rfl⟩,rfl⟩)
 have:=s8.1 o1;subst this;simp only [Sh.J6.g] at o3;obtain ⟨_,_,rfl,⟨q0,hq0,rfl⟩,rfl⟩:=o3;obtain ⟨c0,rfl,_,_,_⟩:=aO1 (l:=[.slice none 1 3 ZN,.slice none 0 0 (c9 9 .top),.slice none 0 0 (c9 3 .top),.slice none 0 0 (c9 6 .top),.slice none 0 0 (c9 4 .top),.slice none 0 0 (c9 3 .top),.slice none 0 0 (c9 2 .top),.slice none 0 0 (c9 3 .top)]) o2;obtain ⟨v,H1,⟨o,o1,o4,o3⟩,p13⟩:=(o32 (by omega) noC n hn:(s32 n).ok (bE xs noC) A).2 [.ptr 0 0,cat c0,.d (num (n:Int))] [tp xs q0] (by
  simp only [s32,Sh.y7.g];exact ⟨_,_,rfl,rfl,_,_,rfl,o2,_,_,rfl,cK (by simp only [Sh.SD.g];rfl),rfl⟩) (by
  simp only [s32,Sh.J6.g];exact ⟨_,_,rfl,⟨q0,hq0,rfl⟩,rfl⟩)
 have:=s8.1 o1;subst this;simp only [Sh.J6.g] at o3;obtain ⟨_,_,rfl,⟨q,hq,rfl⟩,rfl⟩:=o3;obtain ⟨c,rfl,hv,hs,h3⟩:=aO1 o4;exact ⟨c0,c,q0,q,Bt.of h3 (aF3 n) (aF2 n) hv hs,p12,p14,p13,hq⟩
end Go.Proofs.YtibjocmpkoepoaaGreat


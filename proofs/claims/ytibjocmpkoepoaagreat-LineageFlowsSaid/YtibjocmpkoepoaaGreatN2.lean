import Derived.Test.YtibjocmpkoepoaaGreatN0
import Derived.Test.YtibjocmpkoepoaaGreatT2
set_option linter.all false
open Bool renaming and_eq_true → c7, false_eq_true → j4, not_eq_true' → o7, or_eq_false_iff → G8
open Int renaming toNat_natCast → P0
open List renaming append_assoc → D2, cons_append → F8, drop_of_length_le → l6, length_append → k9, length_cons → p8, length_map → B9, length_nil → y8, map_cons → L8, mem_cons → B8, mem_map → L1, mem_singleton → s8, nil_append → E0, set_cons_succ → s4, set_cons_zero → s5, take_of_length_le → y6
open Nat renaming add_assoc → M6, le_refl → n5, lt_or_ge → A5
namespace Go.Proofs.YtibjocmpkoepoaaGreat
open Go.A2 Go.A2.S
attribute [local irreducible] Rx Ry Rn Ex Pf
mutual
theorem Lm {ty:List Int}:∀ a:bg,a.wf->s9 (a.typ ty).2 0=true->∀ t,t ∈ a.flat->s9 t.op 2=true->0<=t.col/\t.col<ty.length
 | .node t l,hw,h,t',ht',h2=>by
  obtain ⟨hok,har,ZK⟩:=hw;simp [bg.typ] at h;split at h
  .rename_i h1
   simp [bg.flat,B8] at ht'
   rcases ht' with rfl|ht'
   .have e1:s9 t'.op 1=false:=by simp_all [o8]
    simp [Cr,e1,h2,if_true,j4,if_false] at h;split at h
    all_goals simp_all [o8,Bp,Bool.not_eq_true,zW,dY,if_true,j4,if_false,c7,rW]
   .exact Fh l ZK h1 t' ht' h2
  simp_all
theorem Fh {ty:List Int}:∀ l:List bg,ZQ l->s9 (iH ty l).2 0=true->∀ t,t ∈ N7 l->s9 t.op 2=true->0<=t.col/\t.col<ty.length
 |[],_,_,t,h,_=>by simp [N7] at h
 |a::l,hw,h,t,ht,h2=>by
  simp [iH] at h;split at h
  .rename_i h1
   simp [N7,List.mem_append] at ht
   rcases ht with ht|ht
   .exact Lm a hw.1 h1 t ht h2
   .exact Fh l hw.2 h t ht h2
  simp_all
end
theorem Pg {e:List X0}{ty:List Int}(h:s9 (M5 e ty).2 0=true):Gd e ty.length:=by
 unfold M5 at h;split at h
 .simp [o8] at h
 .rename_i a ha
  split at h
  .obtain ⟨e1,e2,e3⟩:=yJ ha
   have hb:X7 e=true:=by grind [gQ]
   refine ⟨?_,.inl hb,fun x hx=> ?_⟩
   .grind [X7,s6]
   .obtain ⟨t,ht,h1,rfl⟩:=TG hx
    rw [e1] at ht;exact Lm a e2 h t ht h1
  grind [o8]
theorem AV (n:Nat):Gd [] n:=⟨by simp,.inr rfl,fun x hx=>by simp_all [Ef]⟩
theorem Jd {ty:List Int}:∀ (l:List DW) (seen:List K4),aa ty seen l=0->∀ e,e ∈ l->Gd e.expr ty.length
 |[],_,_,e,he=>by cases he
 |a::l,seen,h,e,he=>by
  have ih:=Jd (ty:=ty) l (seen++[a.name]);unfold aa at h;split at h
  .omega
  .split at h
   .omega
   .split at h
    .omega
    .split at h
     .rcases B8.1 he with rfl|he
      all_goals simp_all [c7,Bool.true_and,Bool.or_eq_true,not_or,u0,decide_eq_true_eq,List.length_eq_zero_iff,AV]
     grind [o8,Pg]
theorem Kr {l r:List Int}:∀ (on:List (Int×Int)),P3 l r on=0->∀ i,i<on.length->0<=(nth on i).1/\(nth on i).1<l.length/\0<=(nth on i).2/\(nth on i).2<r.length
 |[],_,i,hi=>by simp at hi
 |p::ps,h,i,hi=>by
  unfold P3 at h;split at h
  .omega
  .rename_i h1
   split at h
   .omega
   .simp [q8,s6] at h1
    cases i with
    |zero =>
     grind [F2]
    |succ i =>
     have h2:i<ps.length:=by simp_all
     have:=Kr ps h i h2;simp_all [F2]
theorem GL {c:r9}(hv:L6 c=true){s:K4}{k:Nat}(h:0<=F1 c s k):bz c s=F1 c s k/\bp c (bz c s)=true:=by
 have e1:bz c s=Bc c s:=(VE c s).symm;have hl:=Z5 c;have e2:Bc c s=F1 c s k:=by
  unfold Bc
  grind [F1,y6,Ev]
 grind [K6,bp,s6,u0]
def plN (c:r9)(s:K4):List S8:=Dl (bz c s) (R6 c (bz c s).toNat).length
def zz (c:r9)(i:Nat):List S8:=plN c (nth c.views i).left
def oM (c:r9)(i:Nat):List S8:=if O1 (nth c.views i).right [] then [] else plN c (nth c.views i).right
def me (c:r9):List C4:=lP c c.j9.length++Lt c (zz c) (oM c) c.views.length
def Nl (c:r9):List C4:=cI (aX (me c)) (me c).length
def zX (c:r9)(s:K4):(plN c s).length=(R6 c (bz c s).toNat).length:=ee _ _
def Vg {v:Vw}{L R:List S8}(h:UN v L R):(Ng v L R).length<=600:=by
 have h1:=pK v.wh (L++R);have h2:=h.wh.len;have h3:=Hh v L R v.on.length;have h4:=h.on8;have h5:=h.q7;have h6:=th (D:=nG v (L++R) v.items.length) (fun d hd=>AL h.it h.ag d (List.mem_append_left _ hd))
 grind [nG,Ng,k9,p8,y8]
def Uo {v:Vw}{L R:List S8}(h:UN v L R)(s:Int):(qu s v L R).length<=6000:=by
 unfold qu;split
 .have:=Cy s L R L.length
  have:=h.l8;omega
 .have h1:=Vg h
  have h2:(uk v (L++R)).length<=8:=by have:=h.q7;grind [uk,nG,GA]
  have h3:=BI s (uk v (L++R)) (Ng v L R) (fun i hi=>AL h.it h.ag _ (S9 hi)) _ (n5 _);have h4:(uk v (L++R)).length * (64+(Ng v L R).length)<=8 * 664:=Nat.mul_le_mul h2 (by omega);omega
structure bj5 (c:r9)(i:Nat):Prop where
 ok:UN (nth c.views i) (zz c i) (oM c i)
 lf:bp c (bz c (nth c.views i).left)=true/\0<=bz c (nth c.views i).left/\bz c (nth c.views i).left<c.j9.length+i
 rt:O1 (nth c.views i).right []=false->bp c (bz c (nth c.views i).right)=true/\0<=bz c (nth c.views i).right/\bz c (nth c.views i).right<c.j9.length+i
 nu:s9 (nth c.views i).kind 2=false->(R6 c (c.j9.length+i)).length=(nth c.views i).items.length+(nth c.views i).D5.length
 un:s9 (nth c.views i).kind 2=true->(R6 c (c.j9.length+i)).length=(zz c i).length
def Qt {c:r9}(hv:L6 c=true){i:Nat}(hi:i<c.views.length):bj5 c i:=by
 obtain ⟨h1,_,h3⟩:=uY hv;have gw:r9.ns c=c.j9.length+c.views.length:=rfl;have hnl:=gK c;have yf:=eo (h1 (c.j9.length+i) (by omega)) (by omega) (by omega);obtain ⟨k,hk⟩:∃ k,c.j9.length+i=k:=⟨_,rfl⟩;have ev:X2 c k=nth c.views i:=by grind [X2,Nat.add_sub_cancel_left]
 have hg:∀ q,q<k->1<=(R6 c q).length/\(R6 c q).length<=8:=fun q hq=>by
  grind [aQ]
 rw [hk] at yf;unfold W8 lT rT at yf;rw [ev] at yf;obtain ⟨v,hvd⟩:∃ v,nth c.views i=v:=⟨_,rfl⟩;rw [hvd] at yf ev;split at yf
 .omega
 .split at yf
  .omega
  .rename_i hl
   split at yf
   .omega
   .rename_i hsh
    simp only [Bool.not_eq_true,G8] at hl;have f1:=A3 hl.1;have f2:O1 v.right []=false->0<=F1 c v.right k:=fun h=>by
     simp_all [Bool.not_false,Bool.true_and,A3]
    have b1:=K6 c v.left k;have b2:=K6 c v.right k;obtain ⟨g1,g2⟩:=GL hv f1;have hlf:bp c (bz c v.left)=true/\0<=bz c v.left/\bz c v.left<(c.j9.length:Int)+i:=⟨g2,by omega,by omega⟩;have hrt:O1 v.right []=false->bp c (bz c v.right)=true/\0<=bz c v.right/\bz c v.right<(c.j9.length:Int)+i:=fun h=>by
     grind [GL]
    have el:zz c i=plN c v.left:=by simp_all [zz]
    have er:oM c i=if O1 v.right [] then [] else plN c v.right:=by simp_all [oM]
    have ll:(zz c i).length=(R6 c (F1 c v.left k).toNat).length:=by rw [el,zX,g1]
    have lr:O1 v.right []=false->(oM c i).length=(R6 c (F1 c v.right k).toNat).length:=fun h=>by
     rw [er,h,if_neg (by simp),zX,(GL hv (f2 h)).1]
    have lr0:O1 v.right []=true->oM c i=[]:=fun h=>by simp_all
    have l1:=hg (F1 c v.left k).toNat (by omega);have r1:(oM c i).length<=8:=by
     grind
    have eL:nth (ot c k) (F1 c v.left k).toNat=R6 c (F1 c v.left k).toNat:=W1 c (by omega);have eR:(if O1 v.right [] then [] else nth (ot c k) (F1 c v.right k).toNat).length=(oM c i).length:=by
     cases h:O1 v.right [] with
     |true=>simp_all
     |false =>
      have:=f2 h;rw [lr h,if_neg (by simp),W1 c (by omega)]
    have hin:(ins c k).length=(zz c i++oM c i).length:=by
     unfold ins Bl;rw [show nth c.views (k - c.j9.length)=v from ev,k9,eL,eR,k9,ll]
    have ect:R6 c k=if s9 v.kind 2 then nth (ot c k) (F1 c v.left k).toNat else aL v (ins c k):=by
     grind [R6,ja,ins,nth]
    rw [<- hvd] at hlf hrt;rw [<- ll] at l1;have ht0:((nth (ot c k) (F1 c v.left k).toNat).length:Nat)=(zz c i).length:=by rw [eL,ll]
    obtain ⟨RT,hRT⟩:∃ RT,(if O1 v.right [] then [] else nth (ot c k) (F1 c v.right k).toNat)=RT:=⟨_,rfl⟩;rw [hRT] at yf eR
    by_cases h2:s9 v.kind 2=true
    .rw [if_pos h2] at yf
     have ad5:bC v=true:=by simp_all
     unfold bC at ad5;rw [if_pos h2] at ad5;simp only [c7,o7,o8,decide_eq_true_eq,beq_iff_eq] at ad5;have hon:v.on.length=0:=by omega
     have hit:v.items.length=0:=by omega
     have hag:v.D5.length=0:=by omega
     have tQ:(zz c i).length=(oM c i).length:=by
      rw [<- ht0,<- eR];refine Decidable.byContradiction fun hne=> ?_
      simp_all [ru]
     refine ⟨?_,hlf,hrt,?_,?_⟩
     .rw [hvd]
      refine ⟨by omega,l1.2,r1,by omega,by omega,fun j hj=>by omega,?_,fun j hj=>by omega,fun j hj=>by omega,fun _=>by omega⟩;simp_all [AV]
     all_goals simp_all
    .rw [if_neg h2] at yf
     have h2f:s9 v.kind 2=false:=by simp_all
     have ad5:bC v=true:=by simp_all
     have hR:lM v=true:=by
      grind [bC]
     unfold lM at hR;simp only [c7,s6,decide_eq_true_eq] at hR;obtain ⟨⟨_,ho8⟩,hc8⟩:=hR;split at yf
     .simp_all [o8]
     .rename_i h3
      have h3:P3 (nth (ot c k) (F1 c v.left k).toNat) RT v.on=0:=by simp_all [o8]
      have hpo:=Kr v.on h3;split at yf
      .simp_all
      .rename_i h4
       split at yf
       .omega
       .have hce:=Jd (cM v) [] yf
        rw [hin] at hce;have hwh:Gd v.wh (zz c i++oM c i).length:=by
         rcases Nat.eq_zero_or_pos v.wh.length with h0|h0
         all_goals grind [List.length_eq_zero_iff,AV,Pg,e0,E4,u0]
        refine ⟨?_,hlf,hrt,?_,?_⟩
        .rw [hvd]
         refine ⟨by omega,l1.2,r1,by omega,by omega,fun j hj=> ?_,hwh,fun j hj=> ?_,fun j hj=> ?_,fun h=>absurd h h2⟩
         .simp_all
         .have:=hce ⟨false,(nth v.items j).name, -1,(nth v.items j).expr⟩ (List.mem_append_left _ (L1.2 ⟨_,S9 hj,rfl⟩))
          exact this
         .have:=hce ⟨true,(nth v.D5 j).name,(nth v.D5 j).func,(nth v.D5 j).expr⟩ (List.mem_append_right _ (L1.2 ⟨_,S9 hj,rfl⟩))
          exact this
        all_goals simp_all [if_neg,aL,absurd]
def Nh (c:r9)(hv:L6 c=true){i:Nat}(hi:i<c.j9.length):(nth c.j9 i).q7.length<=8/\1<=(nth c.j9 i).q7.length:=by
 have h:=aQ hv (i+1) i (by omega) (by grind [r9.ns]);simp_all [R6,nth,ja,if_pos,B9]
def aH0 {c:r9}(hs:J7 c)(hv:L6 c=true){i:Nat}(hi:i<c.views.length):am0 c i (zz c i) (oM c i):=by
 obtain ⟨ok,⟨l1,l2,l3⟩,hr,_,_⟩:=Qt hv hi;have gw:r9.ns c=c.j9.length+c.views.length:=rfl;refine ⟨ok,?_,fun h=> ?_,fun h=> ?_,Uo ok⟩
 .have:=aQ hv ((bz c (nth c.views i).left).toNat+1) (bz c (nth c.views i).left).toNat (by omega) (by omega)
  exact aq7 c hs _ l1 (by omega)
 .obtain ⟨r1,r2,r3⟩:=hr h
  have:=aQ hv ((bz c (nth c.views i).right).toNat+1) (bz c (nth c.views i).right).toNat (by omega) (by omega);have e:oM c i=plN c (nth c.views i).right:=by simp_all [oM,if_neg]
  rw [e];exact aq7 c hs _ r1 (by omega)
 simp_all [oM,if_pos]
def cN (l:List C4):A2.Data:=B0 C4.enc l
def p47 (c:r9)(hs:J7 c)(hv:L6 c=true)(ht:c.j9.length<=8)(hw:c.views.length<=12):Pf A 47 [cat c] (.d (cN (Nl c))) :=
 bA5 c hs hv ht (fun _ hi=>(Nh c hv hi).1) hw (zz c) (oM c) fun _ hi=>aH0 hs hv hi
end Go.Proofs.YtibjocmpkoepoaaGreat
namespace Go.Proofs.YtibjocmpkoepoaaGreat
open Go.A2 Go.A2.S
def ai2 {a b:C4}(h:qd a b=true):a.src=b.src/\a.dst=b.dst:=by
 grind [qd]
theorem Jb {xs:List C4}{f:C4}:∀ k,k<=xs.length->f ∈ cI xs k->f ∈ xs
 |0,_,h=>by simp [cI] at h
 |k+1,hk,h=>by
  rw [cI,List.mem_append] at h
  rcases h with h|h
  .exact Jb k (by omega) h
  grind [s8,S9]
theorem AJ (xs:List C4):∀ k,∀ i,i<k->∃ g ∈ cI xs k,g.src=(nth xs i).src/\g.dst=(nth xs i).dst
 |0,i,h=>by omega
 |k+1,i,h=>by
  rcases A5 i k with h1|h1
  .obtain ⟨g,hg,e⟩:=AJ xs k i h1
   grind [cI,List.mem_append_left]
  .obtain rfl:i=k:=by omega
   rw [cI];split
   .rename_i hc
    simp [c7,decide_eq_true_eq] at hc;obtain ⟨e1,e2⟩:=ai2 hc.2;obtain ⟨g,hg,e3,e4⟩:=AJ xs i (i - 1) (by omega)
    grind
   simp_all
theorem Jh {c:r9}{f:C4}(h:f ∈ Nl c):f ∈ me c:=by
 have:=Jb _ (Nat.le_of_eq (gM (me c)).length_eq.symm) h
 grind [gM]
def Jf {c:r9}{f:C4}(h:f ∈ me c):∃ g ∈ Nl c,g.src=f.src/\g.dst=f.dst:=by
 have h1:=(gM (me c)).mem_iff.2 h;obtain ⟨i,hi,e⟩:=List.getElem_of_mem h1;have h2:i<(me c).length:=by rw [<- (gM (me c)).length_eq];exact hi
 obtain ⟨g,hg,e1,e2⟩:=AJ (aX (me c)) (me c).length i h2;rw [F2 hi,e] at e1 e2;exact ⟨g,hg,e1,e2⟩
def oK (a b:C4):Prop:=a.src.1<b.src.1\/(a.src.1=b.src.1/\(a.src.2<b.src.2\/(a.src.2=b.src.2/\(a.dst.1<b.dst.1\/(a.dst.1=b.dst.1/\a.dst.2<b.dst.2)))))
def zq (a b:C4):Prop:=a.src.1=b.src.1/\a.src.2=b.src.2/\a.dst.1=b.dst.1/\a.dst.2=b.dst.2
instance (a b:C4):Decidable (oK a b):=by unfold oK;infer_instance
instance (a b:C4):Decidable (zq a b):=by unfold zq;infer_instance
def jm (x:C4):List C4->List C4
 |[]=>[x]
 |y::l=>if oK y x then y::jm x l else if zq y x then ⟨y.src,y.dst,y.dat||x.dat⟩::l else x::y::l
def L9 (l:List C4):List C4->List C4
 |[]=>l
 |x::r=>L9 (jm x l) r
def Y0 (l:List C4):∀ xs ys:List C4,L9 l (xs++ys)=L9 (L9 l xs) ys:=by
 intro xs
 induction xs generalizing l with
 |nil=>intro ys;rfl
 |cons x xs ih=>intro ys;exact ih _ ys
theorem JK (x:C4):∀ l:List C4,(jm x l).length<=l.length+1
 |[]=>by simp [jm]
 |y::l=>by
  have:=JK x l
  grind [jm]
theorem Y1:∀ (xs l:List C4),(L9 l xs).length<=l.length+xs.length
 |[],l=>by simp [L9]
 |x::xs,l=>by
  have h1:=Y1 xs (jm x l)
  grind [JK,L9,p8]
def zx (l:List C4)(p q:S8):Prop:=∃ f ∈ l,f.src=p/\f.dst=q
theorem wV {a b:C4}:zq a b↔a.src=b.src/\a.dst=b.dst:=by
 grind [a3,b1,b2,b3,b4,b5,zq,Prod.mk.injEq]
theorem NG (x:C4)(p q:S8):∀ l:List C4,zx (jm x l) p q↔zx l p q\/(x.src=p/\x.dst=q)
 |[]=>by simp [zx,jm]
 |y::l=>by
  have ih:=NG x p q l;unfold zx at ih ⊢;unfold jm;split
  .grind
  .split
   .simp_all [wV,B8,exists_eq_or_imp]
   grind
theorem Wb (x:C4)(p q:S8):∀ l:List C4,(⟨p,q,true⟩:C4) ∈ jm x l↔(⟨p,q,true⟩:C4) ∈ l\/x=⟨p,q,true⟩
 |[]=>by grind [jm]
 |y::l=>by
  have ih:=Wb x p q l;unfold jm;split
  .grind
  .split
   .rename_i h
    have h:=wV.1 h;obtain ⟨xs,xd,xt⟩:=x;obtain ⟨ys,yd,yt⟩:=y;simp_all<;>grind
   grind
theorem ae0 (x:C4):∀ (l:List C4) {z:C4},z ∈ jm x l->(∃ w ∈ l,zq w z)\/zq x z:=by
 intro l z hz;have:=(NG x z.src z.dst l).1 ⟨z,hz,rfl,rfl⟩
 rcases this with ⟨w,hw,e⟩|e
 all_goals grind [wV]
theorem aU2 {a b c:C4}(h:oK a b)(k:zq b c):oK a c:=by simp_all [oK,zq]
theorem aq3 {a b c:C4}(h:oK a b)(k:oK b c):oK a c:=by grind [oK]
theorem aU3 {a b:C4}(h:¬ oK b a)(k:¬ zq b a):oK a b:=by grind [oK,zq]
theorem JX {a b:C4}(h:oK a b):¬ zq a b/\¬ zq b a/\¬ oK b a:=by grind [oK,zq]
theorem PB (x:C4):∀ l:List C4,l.Pairwise oK->(jm x l).Pairwise oK
 |[],_=>by simp [jm]
 |y::l,h=>by
  rw [List.pairwise_cons] at h;unfold jm;split
  .refine List.pairwise_cons.2 ⟨fun z hz=> ?_,PB x l h.2⟩
   grind [ae0,aU2]
  .split
   .exact List.pairwise_cons.2 ⟨fun z hz=>h.1 z hz,h.2⟩
   grind [aU3,List.pairwise_cons,aq3]
theorem IC:∀ (xs l:List C4),l.Pairwise oK->(L9 l xs).Pairwise oK
 |[],_,h=>h
 |x::xs,l,h=>IC xs _ (PB x l h)
theorem OP (p q:S8):∀ (xs l:List C4),zx (L9 l xs) p q↔zx l p q\/zx xs p q
 |[],l=>by simp [L9,zx]
 |x::xs,l=>by
  rw [L9,OP p q xs,NG]
  grind [zx]
theorem OO (p q:S8):∀ (xs l:List C4),(⟨p,q,true⟩:C4) ∈ L9 l xs↔(⟨p,q,true⟩:C4) ∈ l\/(⟨p,q,true⟩:C4) ∈ xs
 |[],l=>by simp [L9]
 |x::xs,l=>by
  rw [L9,OO p q xs,Wb]
  grind
theorem Xr {R:C4->C4->Prop}:∀ {l:List C4},l.Pairwise R->∀ {a b:C4},a ∈ l->b ∈ l->a=b\/R a b\/R b a
 |x::l,h,a,b,ha,hb=>by
  rw [List.pairwise_cons] at h
  rcases B8.1 ha with rfl|ha1<;>rcases B8.1 hb with rfl|hb1
  .exact .inl rfl
  .exact .inr (.inl (h.1 b hb1))
  .exact .inr (.inr (h.1 a ha1))
  .exact Xr h.2 ha1 hb1
theorem aC7 {l:List C4}(h:l.Pairwise oK)(f:C4):f ∈ l↔zx l f.src f.dst/\(f.dat=true↔(⟨f.src,f.dst,true⟩:C4) ∈ l):=by
 have un:∀ {a b:C4},a ∈ l->b ∈ l->a.src=b.src->a.dst=b.dst->a=b:=fun {a b} ha hb e1 e2=>by
  have hk:zq a b:=wV.2 ⟨e1,e2⟩
  grind [Xr,absurd,JX]
 obtain ⟨p,q,d⟩:=f;constructor
 .intro hf
  refine ⟨⟨_,hf,rfl,rfl⟩,fun hd=> ?_,fun ht=> ?_⟩
  all_goals grind
 .rintro ⟨⟨⟨p',q',d'⟩,hg,e1,e2⟩,hd⟩
  subst e1 e2;cases d with
  |true=>simp_all
  |false =>
   cases d' with
   |false=>exact hg
   |true=>simp_all
def aE9 {l m:List C4}(hl:l.Pairwise oK)(hm:m.Pairwise oK)(hK:∀ p q,zx l p q↔zx m p q)(hD:∀ p q,(⟨p,q,true⟩:C4) ∈ l↔(⟨p,q,true⟩:C4) ∈ m):l=m:=by
 have nd:∀ {l:List C4},l.Pairwise oK->l.Nodup:=fun {l} h=>h.imp fun {a b} h e=>by subst e;exact (JX h).1 ⟨rfl,rfl,rfl,rfl⟩
 have hp:l.Perm m:=(List.perm_ext_iff_of_nodup (nd hl) (nd hm)).2 fun f=>by grind [aC7]
 exact hp.eq_of_pairwise (fun a b _ _ h1 h2=>absurd h2 (JX h1).2.2) hl hm
theorem wA {a b:C4}:¬ IT b a<0↔oK a b\/(zq a b/\(b.dat=true->a.dat=true)):=by
 have h0:¬ ZF b.dat a.dat<0↔(b.dat=true->a.dat=true):=by cases b.dat<;>cases a.dat<;>simp [ZF]
 obtain ⟨z,hz⟩:∃ z,ZF b.dat a.dat=z:=⟨_,rfl⟩;rw [<- h0,hz];unfold IT wk kZ oK zq;rw [hz];split<;>(repeat' split)<;>omega
def XQ (l:List C4):(aX l).Pairwise fun a b=>¬ IT b a<0 :=
 uR (fun a b c h1 h2=>by
  rw [wA] at *
  grind [oK,zq]) (fun a b h=>by
  rw [wA];have h1:¬ (oK a b\/(zq a b/\(b.dat=true->a.dat=true))):=by rw [<- wA];omega
  grind [oK,zq]) l
theorem NU {R:C4->C4->Prop}{xs:List C4}(h:xs.Pairwise R){i j:Nat}(h1:i<j)(h2:j<xs.length):R (nth xs i) (nth xs j):=by
 grind [F2,List.pairwise_iff_getElem]
theorem OX {xs:List C4}(hs:xs.Pairwise fun a b=>¬ IT b a<0){k:Nat}(hk:k<xs.length)(hc:¬ (decide (0<k)&&qd (nth xs k) (nth xs (k - 1)))=true){j:Nat}(hj:j<k):oK (nth xs j) (nth xs k):=by
 have h1:=wA.1 (NU hs (show k - 1<k by omega) hk);have h2:oK (nth xs (k - 1)) (nth xs k):=by
  rcases h1 with h1|⟨h1,_⟩
  all_goals simp_all [wV,c7,decide_eq_true_eq,TY]
 grind [A5,wA,NU,aq3,oK,zq]
theorem sY {xs:List C4}(hs:xs.Pairwise fun a b=>¬ IT b a<0):∀ k,k<=xs.length->∀ f ∈ cI xs k,∃ i,i<k/\f=nth xs i/\∀ j,j<i->oK (nth xs j) f
 |0,_,f,h=>by simp [cI] at h
 |k+1,hk,f,h=>by
  rw [cI,List.mem_append] at h
  rcases h with h|h
  .obtain ⟨i,a,b,d⟩:=sY hs k (by omega) f h
   grind
  grind [s8,OX]
theorem OW {xs:List C4}(hs:xs.Pairwise fun a b=>¬ IT b a<0):∀ k,k<=xs.length->(cI xs k).Pairwise oK
 |0,_=>List.Pairwise.nil
 |k+1,hk=>by
  refine List.pairwise_append.2 ⟨OW hs k (by omega),?_,fun a ha b hb=> ?_⟩
  .split<;>simp
  .split at hb
   .cases hb
   .rw [s8] at hb
    obtain ⟨i,h1,rfl,_⟩:=sY hs k (by omega) a ha
    grind [OX]
def Jg {c:r9}{R:List C4}(h:∀ f,f ∈ me c↔f ∈ R):L9 [] R=Nl c:=by
 have hs:=XQ (me c);have hl:=rC (me c);refine aE9 (IC R [] List.Pairwise.nil) (OW hs _ (by omega)) (fun p q=> ?_) (fun p q=> ?_)
 .rw [OP]
  constructor
  .rintro (⟨_,h1,_⟩|⟨f,hf,e1,e2⟩)
   .cases h1
   .obtain ⟨g,hg,e3,e4⟩:=Jf ((h f).2 hf)
    exact ⟨g,hg,e3.trans e1,e4.trans e2⟩
  .rintro ⟨f,hf,e⟩
   exact .inr ⟨f,(h f).1 (Jh hf),e⟩
 .rw [OO]
  constructor
  .rintro (h1|h1)
   .cases h1
   .have h1:=(h _).2 h1
    obtain ⟨g,hg,e3,e4⟩:=Jf h1;obtain ⟨j,hj,ej⟩:=List.getElem_of_mem ((gM (me c)).mem_iff.2 h1);rw [<- F2 hj] at ej;obtain ⟨i,hi,rfl,hf⟩:=sY hs _ (by omega) g hg;have hk:zq (nth (aX (me c)) i) (nth (aX (me c)) j):=wV.2 (by simp_all)
    rcases Nat.lt_trichotomy i j with h2|h2|h2
    .rcases wA.1 (NU hs h2 hj) with h3|⟨_,h3⟩
     .grind [absurd,JX]
     .have:nth (aX (me c)) i=⟨p,q,true⟩:=by
       cases h5:nth (aX (me c)) i;simp_all
      simp_all
    all_goals grind [absurd,JX]
  grind [Jh]
attribute [local irreducible] Rx Ry Rn Ex Pf
def wK (p q:S8):Bool:=p.1==q.1&&(p.2==q.2&&true)
def lpB (a b:S8):Bool:=E4 a.1 b.1||(s9 a.1 b.1&&E4 a.2 b.2)
def aq0 (a b:S8):Pf A 107 [Xg a,Xg b] (.d (.bool (lpB a b))):=by
 refine Pf.run [Xg a,Xg b,.any,.any,.any] rfl rfl rfl rfl ?_;unfold Xg
 repeat' (first|refine gx ?_|refine fk (h1:=fun hw=> ?_) (h2:=fun hw=> ?_)|refine U1 (h1:=fun hw=> ?_) (h2:=fun hw=> ?_)|refine Ex.M8 ?_|refine Ex.N6 ?_|refine Ex.cond rfl (fun ht=> ?_) (fun ht=> ?_)|refine Ex.test (Rn.text ?_)|refine Ex.test (Rn.draw ?_)|refine ⟨_,rfl,fun ht=> ?_,fun ht=> ?_⟩|refine ⟨_,rfl,?_⟩|fail)
 all_goals simp_all [j3,lpB]
def GY (a b:C4):Bool:=lpB a.src b.src||(wK a.src b.src&&lpB a.dst b.dst)
def Bo (a b:C4):Bool:=wK a.src b.src&&wK a.dst b.dst
def JW (a b:C4):GY a b=true↔oK a b:=by
 simp only [GY,lpB,wK,oK,u0,o8,Bool.or_eq_true,c7,decide_eq_true_eq,beq_iff_eq,and_true];omega
def Wm (a b:C4):Bo a b=true↔zq a b:=by
 simp only [Bo,wK,zq,c7,beq_iff_eq,and_true];omega
theorem PA (x:C4):∀ l:List C4,∃ i,i<=l.length/\(∀ j,j<i->GY (nth l j) x=true)/\(i<l.length->GY (nth l i) x=false) /\
  jm x l=if i<l.length/\Bo (nth l i) x=true then l.take i++⟨(nth l i).src,(nth l i).dst,(nth l i).dat||x.dat⟩::l.drop (i+1) else l.take i++[x]++l.drop i
 |[]=>⟨0,by simp [jm]⟩
 |y::l=>by
  have h4:nth (y::l) 0=y:=F2 (by simp);have h0:∀ j,j<l.length->nth (y::l) (j+1)=nth l j:=fun j hj=>by rw [F2 (by simp;omega),F2 hj];simp
  by_cases hy:oK y x
  .obtain ⟨i,h1,h2,h3,h5⟩:=PA x l
   refine ⟨i+1,by simp;omega,fun j hj=> ?_,fun hi=> ?_,?_⟩
   .cases j with
    |zero=>rw [h4,JW];exact hy
    |succ j=>rw [h0 j (by omega)];exact h2 j (by omega)
   .simp at hi
    rw [h0 i hi];exact h3 hi
   .simp only [jm,if_pos hy,h5]
    by_cases hi:i<l.length
    .rw [h0 i hi]
     by_cases e:Bo (nth l i) x=true
     .simp [hi,e]
     .simp [e]
    .simp [hi]
  .refine ⟨0,by simp,fun j hj=>by omega,fun _=> ?_,?_⟩
   .rw [h4]
    have:=mt (JW y x).1 hy;simpa using this
   .simp only [jm,if_neg hy,h4,Wm]
    by_cases e:zq y x<;>simp [e]
def Uw (w:c8)(l:List C4):Prop:=w= .d (cN l)\/w=E7 5 C4.enc l
def Uw.as {w:c8}{l:List C4}(h:Uw w l):w.J3= .d (cN l):=by
 rcases h with rfl|rfl<;>rfl
set_option maxHeartbeats 8000000 in
def aT9 (l:List C4)(x:C4)(hl:l.length<=100000):∃ w,Uw w (jm x l)/\Pf A 50 [.d (cN l),flw x] w:=by
 obtain ⟨i,hi1,hi2,hi3,hi4⟩:=PA x l;have key:∀ w,w=(if i<l.length/\Bo (nth l i) x=true then c8.d (cN (l.take i++⟨(nth l i).src,(nth l i).dst,(nth l i).dat||x.dat⟩::l.drop (i+1))) else E7 5 C4.enc (l.take i++[x]++l.drop i))->Uw w (jm x l):=fun w hw=>by
  rw [hi4,hw];split
  .exact .inl rfl
  .exact .inr rfl
 refine ⟨_,key _ rfl,?_⟩;refine Pf.run [.d (cN l),flw x,.any,.any,.any,.any] rfl rfl rfl rfl ?_;unfold flw;refine gr ?_;refine Ex.I7 (fun k T H=>∃ (j:Nat) (w1 w3 w5:c8),T=[.d (cN l),w1,.ptr 0 0,w3,.d (num j),w5]/\H=[.cells (x.enc.map .d)]/\j+k=i) (by rintro _ _ _ ⟨_,_,_,_,_,rfl,_⟩;rfl) ?_ (k:=i) ⟨0,_,_,_,rfl,rfl,by simp⟩;rintro k _ _ ⟨j,w1,w3,w5,rfl,rfl,hk⟩;refine Ex.nT ?_;refine Ex.seq ?_;have hj:j<i\/j=i:=by omega
 have p1:=aq0 (nth l j).src x.src;have p2:=aq0 (nth l j).dst x.dst;refine tB (E4 j l.length&&GY (nth l j) x) ?_ (fun h1=> ?_) (fun h1=> ?_)
 .repeat' (first|refine cl (p1) ?_|refine cl (p2) ?_|refine le (cs:=Z4 (nth l j).src) ?_|refine le (cs:=Z4 (nth l j).dst) ?_|refine lqo ?_|refine gx ?_|refine fk (h1:=fun hw=> ?_) (h2:=fun hw=> ?_)|refine U1 (h1:=fun hw=> ?_) (h2:=fun hw=> ?_)|refine ⟨rfl,rfl,_,rfl,?_⟩|refine ⟨rfl,rfl⟩|fail)
  all_goals first|(simp [*,j3,GY,wK];done)|(simp_all [j3,GY,wK];done)|(simp_all [j3,GY,wK,u0,s6,o8,E5];done)|(simp_all [j3,GY,wK,u0,s6,o8,E5]<;>omega)
 .simp only [c7] at h1
  have h2:=A6 h1.1;refine gr ?_;refine ⟨k - 1,?_,j+1,_,_,_,rfl,rfl,?_⟩
  .rcases hj with h|rfl
   .omega
   .have:=hi3 (by omega);rw [this] at h1;cases h1.2
  .rcases hj with h|rfl
   .omega
   .have:=hi3 (by omega);rw [this] at h1;cases h1.2
 obtain rfl:j=i:=by
  rcases hj with h|h
  .have:=hi2 j h
   rw [this,Bool.and_true] at h1;have:=A3 h1;omega
  .exact h
 refine gr ?_;refine tB (E4 j l.length&&Bo (nth l j) x) ?_ (fun h4=> ?_) (fun h4=> ?_)
 .repeat' (first|refine cl (p1) ?_|refine cl (p2) ?_|refine le (cs:=Z4 (nth l j).src) ?_|refine le (cs:=Z4 (nth l j).dst) ?_|refine lqo ?_|refine gx ?_|refine fk (h1:=fun hw=> ?_) (h2:=fun hw=> ?_)|refine U1 (h1:=fun hw=> ?_) (h2:=fun hw=> ?_)|refine ⟨rfl,rfl,_,rfl,?_⟩|refine ⟨rfl,rfl⟩|fail)
  all_goals first|(simp [*,j3,Bo,wK];done)|(simp_all [j3,Bo,wK];done)|(simp_all [j3,Bo,wK,u0,s6,o8,E5];done)|(simp_all [j3,Bo,wK,u0,s6,o8,E5]<;>omega)
 .simp only [c7] at h4
  have h2:=A6 h4.1;rw [if_pos ⟨by omega,h4.2⟩]
  repeat' (first|refine ZE [] ?_|refine alE (enc:=C4.enc) (ys:=l) (h2:= ?_)|refine gx ?_|fail)
  refine Ex.fz (Pr (s:=5) rfl (by omega) rfl rfl (AZ (fun _=>rfl) _)) ?_;have hsp:l=l.take j++nth l j::l.drop (j+1):=by rw [<- D3 (by omega)];exact (List.take_append_drop j l).symm
  have e1:(nth l j::l.drop (j+1)).flatMap C4.enc=(nth l j).enc++(l.drop (j+1)).flatMap C4.enc:=rfl;have hjl:(S3 (l.take j)).length=j * 5:=by rw [S3,B9,aS (sz:=5) (fun _=>rfl),List.length_take,Nat.min_eq_left (by omega)]
  obtain ⟨f,hf⟩:∃ f,nth l j=f:=⟨_,rfl⟩;obtain ⟨X,hX⟩:∃ X,l.take j=X:=⟨_,rfl⟩;obtain ⟨Y,hY⟩:∃ Y,l.drop (j+1)=Y:=⟨_,rfl⟩;have VO:∀ t:Bool,l.length=(X++⟨f.src,f.dst,t⟩::Y).length:=fun t=>by rw [hsp,hf,hX,hY];simp
  rw [hf,hX,hY] at hsp;rw [hX] at hjl;rw [hf,hX,hY];have hE:(l.flatMap C4.enc).map c8.d=S3 X++(f.enc.map .d++S3 Y):=by rw [hsp];simp [S3,List.flatMap_append,List.flatMap_cons]
  have hrd:rd [.cells (x.enc.map .d),.cells (S3 X++(f.enc.map .d++S3 Y))] 1 (0+(j:Int).toNat * 5+4) 1=some [.d (.bool f.dat)]:=by
   simp only [rd,List.getElem?_cons_succ,List.getElem?_cons_zero,P0,Nat.zero_add];rw [if_pos (by simp [C4.enc,hjl];omega),<- List.drop_drop,<- hjl,List.drop_left];rfl
  have hwr:∀ t:Bool,wr [.cells (x.enc.map .d),.cells (S3 X++(f.enc.map .d++S3 Y))] 1 (0+(j:Int).toNat * 5+4) [.d (.bool t)]=some [.cells (x.enc.map .d),.cells (S3 (X++⟨f.src,f.dst,t⟩::Y)++[])]:=fun t=>by
   simp only [wr,List.getElem?_cons_succ,List.getElem?_cons_zero,splice,P0,Nat.zero_add];rw [if_pos (by simp [C4.enc,hjl];omega),<- hjl,List.take_length_add_append,M6,List.drop_length_add_append];simp [S3,C4.enc]
  simp only [R9,s4,s5,L8,List.map_nil,F8,E0,p8,y8,Nat.reduceAdd,hE];generalize (c8.d (cN l)).forget=w0;show Ex A an 0 _ ⟨[w0,.any,.ptr 0 0,.any,.d (num j),.B4 1 5 0 l.length],[.cells (x.enc.map .d),.cells (S3 X++(f.enc.map .d++S3 Y))]⟩ _
  have h6:0<=(j:Int)/\(j:Int)<l.length:=by omega
  cases hd:f.dat with
  |true =>
   rw [hd] at hrd
   repeat' (first|refine ixo h6 ?_|refine lpx hrd rfl ?_|refine sox (hwr true) (h2:= ?_)|refine gx ?_|fail)
   exact ⟨_,Vy (s:=3) (p:=1) (ds:=X++⟨f.src,f.dst,true⟩::Y) (by rw [<- VO true];rfl) rfl (by rw [<- VO true];omega),rfl⟩
  |false =>
   rw [hd] at hrd
   repeat' (first|refine ixo h6 ?_|refine lpx hrd rfl ?_|refine sox (hwr x.dat) (h2:= ?_)|refine gx ?_|fail)
   exact ⟨_,Vy (s:=3) (p:=1) (ds:=X++⟨f.src,f.dst,x.dat⟩::Y) (by rw [<- VO x.dat];rfl) rfl (by rw [<- VO x.dat];omega),rfl⟩
 .have e:¬ (j<l.length/\Bo (nth l j) x=true):=by
   rintro ⟨g1,g2⟩;rw [g2,Bool.and_true] at h4;have:=A3 h4;omega
  rw [if_neg e];have h5:(l.take j).length<=100000:=by simp;omega
  repeat' (first|refine ZE [] ?_|refine alE (enc:=C4.enc) (ys:=l.take j) (h2:= ?_)|refine oN (enc:=C4.enc) x ?_|refine alN (enc:=C4.enc) (xs:=l.take j) (ys:=[x]) (h2:= ?_)|refine alN (enc:=C4.enc) (xs:=l.take j++[x]) (ys:=l.drop j) (h2:= ?_)|refine gx ?_|fail)
  exact ⟨_,rfl,rfl⟩
end Go.Proofs.YtibjocmpkoepoaaGreat
namespace Go.Proofs.YtibjocmpkoepoaaGreat
open Go.A2 Go.A2.S
def si (ps qs:List S8)(d:Bool):List C4:=ps.flatMap fun p=>qs.map fun q=>⟨p,q,d⟩
def gu (e:List X0):Nat->List Int
 |0=>[]
 |i+1=>if s9 (nth e i).op 2 then sQ (gu e i) (nth e i).col else gu e i
def oL (e:List X0)(ps:List S8):List S8:=(gu e e.length).map fun x=>nth ps x.toNat
def SX (v:Vw)(L R:List S8):List S8:=[nth L 0]++(if O1 v.right [] then [] else [nth R 0])
def Yu (s:Int)(L R:List S8):Nat->List C4
 |0=>[]
 |k+1=>Yu s L R k++si [nth L k,nth R k] [(s,(k:Int))] true
def TK (v:Vw)(s:Int)(n:Nat)(L R:List S8):Nat->List C4
 |0=>[]
 |k+1=>TK v s n L R k++si [nth L (nth v.on k).1.toNat,nth R (nth v.on k).2.toNat] (Dl s n) false
def Ir (v:Vw)(s:Int)(n:Nat)(ps:List S8):Nat->List C4
 |0=>[]
 |k+1=>Ir v s n ps k++(si (oL (nth v.items k).expr ps) [(s,(k:Int))] true++(if v.distinct||s9 v.kind 1 then si (oL (nth v.items k).expr ps) (Dl s n) false else []))
def Ux (v:Vw)(s:Int)(ps:List S8):Nat->List C4
 |0=>[]
 |k+1=>Ux v s ps k++si (oL (nth v.D5 k).expr ps) [(s,(v.items.length:Int)+(k:Int))] true
def vwR (s:Int)(v:Vw)(n:Nat)(L R:List S8):List C4 :=
 si (SX v L R) (Dl s n) false++(if s9 v.kind 2 then Yu s L R n else TK v s n L R v.on.length++si (oL v.wh (L++R)) (Dl s n) false++Ir v s n (L++R) v.items.length++Ux v s (L++R) v.D5.length)
def uZ (c:r9):Nat->List C4
 |0=>[]
 |i+1=>uZ c i++vwR ((c.j9.length:Int)+(i:Int)) (nth c.views i) (R6 c (c.j9.length+i)).length (zz c i) (oM c i)
def ah3 (c:r9):List C4:=lP c c.j9.length++uZ c c.views.length
theorem jq {U g:Nat->List C4}(h0:U 0=[])(h:∀ k,U (k+1)=U k++g k)(f:C4):∀ k,f ∈ U k↔∃ i,i<k/\f ∈ g i
 |0=>by simp [h0]
 |k+1=>by
  rw [h,List.mem_append,jq h0 h f k]
  grind
def Wt {b:Bool}{l:List C4}{f:C4}:f ∈ (if b=true then l else [])↔b=true/\f ∈ l:=by simp_all
def Qp {ps qs:List S8}{d:Bool}{f:C4}:f ∈ si ps qs d↔f.src ∈ ps/\f.dst ∈ qs/\f.dat=d:=by
 obtain ⟨p,q,t⟩:=f
 grind [si,C4.mk.injEq]
def Pk {ps:List S8}{to:S8}{d:Bool}{f:C4}:f ∈ xX ps to d↔f.src ∈ ps/\f.dst=to/\f.dat=d:=by
 obtain ⟨p,q,t⟩:=f
 grind [xX,C4.mk.injEq]
theorem Hr {s:Int}{q:S8}:∀ {n},q ∈ Dl s n↔∃ i:Nat,i<n/\q=(s,(i:Int))
 |0=>by simp [Dl]
 |n+1=>by
  rw [Dl,List.mem_append,Hr (n:=n),s8]
  grind
theorem Hg {s:Int}:∀ {n i},i<n->nth (Dl s n) i=(s,(i:Int))
 |n+1,i,h=>by
  have hl:=ee s n
  rcases A5 i n with h1|h1
  .rw [<- Hg h1,Dl,F2 (by simp;omega),F2 (by omega),List.getElem_append_left (by omega)]
  grind [Dl,F2,List.getElem_append_right]
theorem IB (n x:Int):∀ l:List Int,x ∈ sQ l n↔x ∈ l\/x=n
 |[]=>by simp [sQ]
 |y::l=>by
  have:=IB n x l
  grind [sQ]
theorem wG (e:List X0)(x:Int):∀ i,x ∈ gu e i↔x ∈ iY e i
 |0=>by rfl
 |i+1=>by
  have:=wG e x i
  grind [gu,iY,IB]
def Wa {e:List X0}{ps:List S8}{q:S8}:q ∈ oL e ps↔q ∈ jP e ps:=by
 simp [oL,jP,iB,L1,uC,qX,wG]
def Kj {α β:Type} [Inhabited α] [Inhabited β] {g:α->β}{l:List α}{i:Nat}(h:i<l.length):nth (l.map g) i=g (nth l i):=by
 simp_all [F2]
theorem Vj {v:Vw}{ps:List S8}{i:Nat}(h:i<v.items.length+v.D5.length):nth (uk v ps) i=if i<v.items.length then jP (nth v.items i).expr ps else jP (nth v.D5 (i - v.items.length)).expr ps:=by
 unfold uk nG GA;rw [List.take_length,List.take_length,F2 (by simp;omega),List.getElem_append];split
 .rw [if_pos (by simp_all),<- F2,Kj (by simp_all)]
 .have h1:¬ i<v.items.length:=by simp_all
  rw [if_neg h1,<- F2,Kj (by simp;omega)];simp
def Vh {v:Vw}{L R:List S8}{q:S8}:q ∈ Ng v L R↔q ∈ jP v.wh (L++R)\/q=nth L 0\/(E4 0 R.length=true/\q=nth R 0)\/(∃ j,j<v.on.length/\(q=nth L (nth v.on j).1.toNat\/q=nth R (nth v.on j).2.toNat))\/((s9 v.kind 1||v.distinct)=true/\∃ j,j<v.items.length/\q ∈ jP (nth v.items j).expr (L++R)):=by
 have e1:q ∈ onP v L R v.on.length↔∃ j,j<v.on.length/\(q=nth L (nth v.on j).1.toNat\/q=nth R (nth v.on j).2.toNat):=by
  unfold onP;rw [List.take_length,List.mem_flatMap];constructor
  .rintro ⟨p,hp,h⟩
   obtain ⟨i,hi,rfl⟩:=List.getElem_of_mem hp;exact ⟨i,hi,by simp_all [F2]⟩
  grind [S9]
 have e2:q ∈ (nG v (L++R) v.items.length).flatten↔∃ j,j<v.items.length/\q ∈ jP (nth v.items j).expr (L++R):=by
  unfold nG;rw [List.take_length,List.mem_flatten];constructor
  .rintro ⟨d,hd,h⟩
   obtain ⟨x,hx,rfl⟩:=L1.1 hd;obtain ⟨i,hi,rfl⟩:=List.getElem_of_mem hx;exact ⟨i,hi,by simp_all [F2]⟩
  grind [S9]
 simp_all [Ng]
def Up {s:Int}{v:Vw}{L R:List S8}{n:Nat}(hr:O1 v.right []= !E4 0 R.length)(h0:s9 v.kind 2=true->E4 0 R.length=true)(hu:s9 v.kind 2=true->n=L.length)(hn:s9 v.kind 2=false->n=v.items.length+v.D5.length)(f:C4):f ∈ qu s v L R↔f ∈ vwR s v n L R:=by
 have r1:∀ k,f ∈ xD s L R k↔_:=jq (U:=xD s L R) rfl (fun _=>rfl) f;have r2:∀ ds cs k,f ∈ BH s ds cs k↔_:=fun ds cs=>jq (U:=BH s ds cs) rfl (fun _=>rfl) f
 have r3:∀ k,f ∈ Yu s L R k↔_:=jq (U:=Yu s L R) rfl (fun _=>rfl) f;have r4:∀ k,f ∈ TK v s n L R k↔_:=jq (U:=TK v s n L R) rfl (fun _=>rfl) f;have r5:∀ k,f ∈ Ir v s n (L++R) k↔_:=jq (U:=Ir v s n (L++R)) rfl (fun _=>rfl) f;have r6:∀ k,f ∈ Ux v s (L++R) k↔_:=jq (U:=Ux v s (L++R)) rfl (fun _=>rfl) f;have rc:∀ q,q ∈ SX v L R↔q=nth L 0\/(E4 0 R.length=true/\q=nth R 0):=fun q=>by
  grind [SX,E4]
 obtain ⟨p,q,d⟩:=f;unfold qu vwR;cases hk:s9 v.kind 2 with
 |true =>
  rw [if_pos rfl,if_pos rfl,List.mem_append,r1,r3,<- hu hk];simp only [List.mem_append,Qp,Pk,Hr,rc,h0 hk,or_false]
  grind
 |false =>
  have hdl:(uk v (L++R)).length=v.items.length+v.D5.length:=by simp [uk,nG,GA]
  rw [if_neg (by simp),if_neg (by simp),r2,hdl,<- hn hk];simp only [List.mem_append,r4,r5,r6,Wt,Qp,Pk,Hr,rc,Vh,Wa,B8,List.not_mem_nil,or_false];have hdn:∀ i,i<n->(p ∈ nth (uk v (L++R)) i↔if i<v.items.length then p ∈ jP (nth v.items i).expr (L++R) else p ∈ jP (nth v.D5 (i - v.items.length)).expr (L++R)):=fun i hi=>by
   grind [Vj]
  cases d
  .constructor
   .simp_all [S8]<;>grind
   grind
  .simp only [Bool.true_eq_false,and_false,or_false,false_or,and_true]
   constructor
   .grind
   .rintro (⟨i,hi,h,rfl⟩|⟨i,hi,h,rfl⟩)
    .grind
    .exact ⟨v.items.length+i,by simp_all,(hdn _ (by simp_all)).2 (by grind),by simp⟩
def KE {c:r9}(hv:L6 c=true)(f:C4):f ∈ me c↔f ∈ ah3 c:=by
 unfold me ah3;rw [List.mem_append,List.mem_append,jq (U:=Lt c (zz c) (oM c)) rfl (fun _=>rfl),jq (U:=uZ c) rfl (fun _=>rfl)];refine or_congr Iff.rfl (exists_congr fun i=>and_congr_right fun hi=> ?_);obtain ⟨ok,_,hr,nu,un⟩:=Qt hv hi;refine Up ?_ (fun h=> ?_) (fun h=>un h) (fun h=>nu h) f
 .cases h:O1 (nth c.views i).right [] with
  |true =>
   simp_all [oM,if_pos,u0]
  |false =>
   have hg:=aQ hv ((bz c (nth c.views i).right).toNat+1) (bz c (nth c.views i).right).toNat (by omega) (by grind [r9.ns]);have e:(oM c i).length=(R6 c (bz c (nth c.views i).right).toNat).length:=by simp_all [oM,if_neg,zX]
   grind [u0]
 .have:=ok.un h
  have:=ok.l0
  grind [u0]
attribute [local irreducible] Rx Ry Rn Ex Pf
theorem IA (n:Int):∀ l:List Int,(sQ l n).length<=l.length+1
 |[]=>by simp [sQ]
 |x::l=>by
  have:=IA n l
  grind [sQ]
theorem qO (e:List X0):∀ i,(gu e i).length<=i
 |0=>n5 _
 |i+1=>by
  have h1:=qO e i
  grind [gu,IA,nth]
def aa5 {e:List X0}{i:Nat}(h:s9 (nth e i).op 2=true):gu e (i+1)=sQ (gu e i) (nth e i).col:=by simp_all [gu]
def aa4 {e:List X0}{i:Nat}(h:s9 (nth e i).op 2=false):gu e (i+1)=gu e i:=by simp [gu,h]
def aT4 (e:List X0)(he:e.length<=800)(hv:X7 e=true\/e=[]):Pf A 168 [aD e] (.d (ints (gu e e.length))):=by
 have p1:=aq6 e (by omega);refine Pf.run [aD e,.any,.any,.any] rfl rfl rfl rfl ?_;refine gr ?_;refine Ex.I7 (fun k T H=>∃ (i:Nat) (w1 w2:c8),T=[aD e,w1,w2,.d (num i)]/\H=[]/\IsL w2 (gu e i)/\i+k=e.length) (by simp_all) ?_ (k:=e.length) ⟨0,_,_,rfl,rfl,.inr rfl,by simp⟩;rintro k _ _ ⟨i,w1,w2,rfl,rfl,hw,hk⟩;have NA:=hw.as;refine Ex.nT ?_;refine Ex.seq ?_;refine tB (E4 i e.length&&X7 e) ?_ (fun h2=> ?_) (fun h2=> ?_)
 .repeat' (first|refine cl (p1) ?_|refine gx ?_|refine fk (h1:=fun hw=> ?_) (h2:=fun hw=> ?_)|refine U1 (h1:=fun hw=> ?_) (h2:=fun hw=> ?_)|refine ⟨rfl,rfl,_,rfl,?_⟩|simp_all|fail)
  all_goals exact cc
 .simp only [c7] at h2
  have h3:=A6 h2.1;refine gr ?_;refine tb (s9 (nth e i).op 2) (fun h4=> ?_) (fun h4=> ?_)
  .have hl:=qO e i
   obtain ⟨w5,hw5,p88⟩:=bE0 (gu e i) (nth e i).col (by omega);rw [<- aa5 h4] at hw5
   rcases hw5 with rfl|rfl
   .repeat' (first|refine MK NA ?_|refine cl (p88) ?_|refine gx ?_|fail)
    exact ⟨k - 1,by omega,i+1,_,_,rfl,rfl,.inl rfl,by omega⟩
   .repeat' (first|refine MK NA ?_|refine cl (p88) ?_|refine gx ?_|fail)
    exact ⟨k - 1,by omega,i+1,_,_,rfl,rfl,.inr rfl,by omega⟩
  .refine gr ?_
   exact ⟨k - 1,by omega,i+1,_,_,rfl,rfl,by simp_all [aa4],by omega⟩
 .have h4:i=e.length:=by
   simp only [Bool.and_eq_false_iff] at h2
   rcases hv with hv|rfl
   .rcases h2 with h2|h2
    .have:=A3 h2;omega
    simp_all
   simp_all
  subst h4
  repeat' (first|refine MK NA ?_|refine gx ?_|fail)
  exact ⟨_,rfl,rfl⟩
def Wo (e:List X0)(ps:List S8)(he:e.length<=800)(hv:X7 e=true\/e=[])(hp:ps.length<=10000)(hc:∀ x,x ∈ iB e->0<=x/\x<ps.length):Pf A 109 [aD e,.d (O9 ps)] (.d (O9 (oL e ps))):=by
 have p1:=aT4 e he hv;have hcl:=qO e e.length;have hc:∀ x,x ∈ gu e e.length->0<=x/\x<ps.length:=fun x hx=>hc x (by simp_all [iB,uC,qX,wG])
 unfold oL;obtain ⟨cs,hcs⟩:∃ cs,gu e e.length=cs:=⟨_,rfl⟩;rw [hcs] at p1 hcl hc ⊢;refine Pf.run [aD e,.d (O9 ps),.any,.any,.any,.any] rfl rfl rfl rfl ?_
 repeat' (first|refine cl (p1) ?_|refine gx ?_|fail)
 refine Ex.I7 (fun k T H=>∃ (i:Nat) (acc:List S8) (w0 w2:c8),T=[w0,.d (O9 ps),w2,E7 2 Z4 acc,.d (ints cs),.d (num i)]/\H=[]/\i+k=cs.length/\acc=(cs.take i).map fun x=>nth ps x.toNat) (by simp_all) ?_ (k:=cs.length) ⟨0,[],_,_,rfl,rfl,by simp,by simp⟩;rintro k _ _ ⟨i,acc,w0,w2,rfl,rfl,hk,hacc⟩;have ya:acc.length<=10000:=by grind
 refine Ex.nT ?_;refine Ex.seq ?_;refine tb (E4 i cs.length) (fun h2=> ?_) (fun h2=> ?_)
 .have h3:=A6 h2
  have h4:=hc _ (S9 (l:=cs) (i:=i) (by omega))
  repeat' (first|refine oN (enc:=Z4) (nth ps (nth cs i).toNat) ?_|refine apN (ys:=[nth ps (nth cs i).toNat]) (h2:= ?_)|refine gx ?_|fail)
  exact ⟨k - 1,by omega,i+1,acc++[nth ps (nth cs i).toNat],_,_,rfl,rfl,by omega,by simp_all [H9]⟩
 .have h3:=A3 h2
  obtain rfl:i=cs.length:=by omega
  refine gr ?_;exact ⟨_,rfl,by simp_all [j3,O9,B0]⟩
def ae5 (c:r9)(hs:J7 c)(s:Int)(h:bp c s=true)(hl:(R6 c s.toNat).length<=2000):Pf A 48 [cat c,.d (num s)] (.d (O9 (Dl s (R6 c s.toNat).length))):=by
 have p2:=ar3 c hs _ h;obtain ⟨ty,tu⟩:∃ ty,R6 c s.toNat=ty:=⟨_,rfl⟩;rw [tu] at p2 hl ⊢;refine Pf.run [cat c,.d (num s),.any,.any,.any,.any] rfl rfl rfl rfl ?_;refine gr ?_;refine Ex.I7 (fun k T H=>∃ (i:Nat) (acc:List S8) (w0 w3:c8),T=[w0,.d (num s),.ptr 0 0,w3,E7 2 Z4 acc,.d (num i)]/\H=[.cells (c.enc.map .d)]/\i+k=ty.length/\acc=Dl s i) (by simp_all) ?_ (k:=ty.length) ⟨0,[],_,_,rfl,rfl,by simp,rfl⟩;rintro k _ _ ⟨i,acc,w0,w3,rfl,rfl,hk,hacc⟩;have ya:acc.length<=10000:=by grind [ee]
 refine Ex.nT ?_;refine Ex.seq ?_;refine tB (E4 i ty.length) ?_ (fun h2=> ?_) (fun h2=> ?_)
 .repeat' (first|refine cl (p2) ?_|refine gx ?_|refine fk (h1:=fun hw=> ?_) (h2:=fun hw=> ?_)|refine U1 (h1:=fun hw=> ?_) (h2:=fun hw=> ?_)|refine ⟨rfl,rfl,_,rfl,?_⟩|rfl|fail)
 .have h3:=A6 h2
  repeat' (first|refine Dv (cs:=(Z4 (s,(i:Int))).map .d) ?_|refine oN (enc:=Z4) (s,(i:Int)) ?_|refine apN (ys:=[(s,(i:Int))]) (h2:= ?_)|refine gx ?_|fail)
  exact ⟨k - 1,by omega,i+1,acc++[(s,(i:Int))],_,_,rfl,rfl,by omega,by rw [hacc];rfl⟩
 .have h3:=A3 h2
  obtain rfl:i=ty.length:=by omega
  refine gr ?_;exact ⟨_,rfl,by simp_all [j3,O9,B0]⟩
def fT (ps qs:List S8)(d:Bool):(si ps qs d).length=ps.length * qs.length:=by
 induction ps with
 |nil=>simp [si]
 |cons p ps ih =>
  grind [si,k9,B9,p8,Nat.succ_mul]
def Yr (ps qs:List S8)(d:Bool){i:Nat}(h:i<ps.length):si (ps.take (i+1)) qs d=si (ps.take i) qs d++qs.map fun q=>⟨nth ps i,q,d⟩:=by
 simp_all [si,H9]
set_option maxHeartbeats 8000000 in
def Bq (l:List C4)(ps qs:List S8)(d:Bool)(hl:l.length+ps.length * qs.length<=100000)(hp:ps.length<=1000)(hq:qs.length<=1000):Pf A 108 [.d (cN l),.d (O9 ps),.d (O9 qs),.d (.bool d)] (.d (cN (L9 l (si ps qs d)))):=by
 refine Pf.run [.d (cN l),.d (O9 ps),.d (O9 qs),.d (.bool d),.any,.any,.any] rfl rfl rfl rfl ?_;refine gr ?_;refine Ex.I7 (fun k T H=>∃ (i:Nat) (w0 w4 w6:c8),T=[w0,.d (O9 ps),.d (O9 qs),.d (.bool d),w4,.d (num i),w6]/\H=[]/\Uw w0 (L9 l (si (ps.take i) qs d))/\i+k=ps.length) (by simp_all) ?_ (k:=ps.length) ⟨0,_,_,_,rfl,rfl,.inl rfl,by simp⟩;rintro k _ _ ⟨i,w0,w4,w6,rfl,rfl,hw,hk⟩;refine Ex.nT ?_;refine Ex.seq ?_;refine tb (E4 i ps.length) (fun h2=> ?_) (fun h2=> ?_)
 .have h3:=A6 h2
  have e1:=Yr ps qs d (i:=i) (by omega);refine gr ?_;refine Ex.I7 (fun k T H=>∃ (j:Nat) (w0 w4:c8),T=[w0,.d (O9 ps),.d (O9 qs),.d (.bool d),w4,.d (num i),.d (num j)]/\H=[]/\Uw w0 (L9 (L9 l (si (ps.take i) qs d)) ((qs.take j).map fun q=>⟨nth ps i,q,d⟩))/\j+k=qs.length) (by simp_all) ?_ (k:=qs.length) ⟨0,_,_,rfl,rfl,hw,by simp⟩;clear hw;rintro m _ _ ⟨j,w0,w4,rfl,rfl,hw,hm⟩;refine Ex.nT ?_;refine Ex.seq ?_;refine tb (E4 j qs.length) (fun g2=> ?_) (fun g2=> ?_)
  .have g3:=A6 g2
   obtain ⟨L,hL⟩:∃ L,L9 (L9 l (si (ps.take i) qs d)) ((qs.take j).map fun q=>⟨nth ps i,q,d⟩)=L:=⟨_,rfl⟩;have hLl:L.length<=100000:=by
    have a1:=Y1 ((qs.take j).map fun q=>(⟨nth ps i,q,d⟩:C4)) (L9 l (si (ps.take i) qs d));have a2:=Y1 (si (ps.take i) qs d) l;rw [fT] at a2;rw [hL] at a1;have a3:((ps.take i).length+1) * qs.length<=ps.length * qs.length:=Nat.mul_le_mul_right _ (by simp;omega)
    grind
   have hLn:L9 (L9 l (si (ps.take i) qs d)) ((qs.take (j+1)).map fun q=>⟨nth ps i,q,d⟩)=jm ⟨nth ps i,nth qs j,d⟩ L:=by
    rw [H9 (by omega),List.map_append,Y0,hL];rfl
   rw [hL] at hw;have NA:=hw.as;obtain ⟨w5,hw5,p50⟩:=aT9 L ⟨nth ps i,nth qs j,d⟩ hLl;rw [<- hLn] at hw5
   rcases hw5 with rfl|rfl
   .repeat' (first|refine MK NA ?_|refine Dv (cs:=(C4.enc ⟨nth ps i,nth qs j,d⟩).map .d) ?_|refine cl (p50) ?_|refine gx ?_|fail)
    exact ⟨m - 1,by omega,j+1,_,_,rfl,rfl,.inl rfl,by omega⟩
   .repeat' (first|refine MK NA ?_|refine Dv (cs:=(C4.enc ⟨nth ps i,nth qs j,d⟩).map .d) ?_|refine cl (p50) ?_|refine gx ?_|fail)
    exact ⟨m - 1,by omega,j+1,_,_,rfl,rfl,.inr rfl,by omega⟩
  .have g3:=A3 g2
   obtain rfl:j=qs.length:=by omega
   rw [List.take_length,<- Y0,<- e1] at hw;refine gr ?_;exact ⟨k - 1,by omega,i+1,_,_,_,rfl,rfl,hw,by omega⟩
 .have h3:=A3 h2
  obtain rfl:i=ps.length:=by omega
  rw [List.take_length] at hw;have NA:=hw.as
  repeat' (first|refine MK NA ?_|refine gx ?_|fail)
  exact ⟨_,rfl,rfl⟩
def mH (e:List X0)(ps:List S8):(oL e ps).length<=e.length:=by
 have:=qO e e.length;simp [oL];omega
theorem Ic (s:Int)(L R:List S8):∀ k,(Yu s L R k).length=2 * k
 |0=>rfl
 |k+1=>by
  have:=Ic s L R k;simp only [Yu,k9,fT,this,p8,y8];omega
theorem Hi (v:Vw)(s:Int)(n:Nat)(L R:List S8)(hn:n<=8):∀ k,(TK v s n L R k).length<=16 * k
 |0=>by simp [TK]
 |k+1=>by
  have:=Hi v s n L R hn k;simp only [TK,k9,fT,ee,p8,y8];omega
theorem GU (v:Vw)(s:Int)(n:Nat)(ps:List S8)(hn:n<=8)(h:∀ i,i<v.items.length->(nth v.items i).expr.length<=64):∀ k,k<=v.items.length->(Ir v s n ps k).length<=576 * k
 |0,_=>by simp [Ir]
 |k+1,hk=>by
  have h1:=GU v s n ps hn h k (by omega);have h2:=mH (nth v.items k).expr ps;have h3:=h k (by omega);have h4:(oL (nth v.items k).expr ps).length * n<=64 * 8:=Nat.mul_le_mul (by omega) hn;simp only [Ir,k9,fT,p8,y8];split<;>simp only [fT,ee,y8]<;>omega
theorem Gl (v:Vw)(s:Int)(ps:List S8)(h:∀ i,i<v.D5.length->(nth v.D5 i).expr.length<=64):∀ k,k<=v.D5.length->(Ux v s ps k).length<=64 * k
 |0,_=>by simp [Ux]
 |k+1,hk=>by
  have h1:=Gl v s ps h k (by omega);have h2:=mH (nth v.D5 k).expr ps;have h3:=h k (by omega);simp only [Ux,k9,fT,p8,y8];omega
def OY (v:Vw)(L R:List S8):(SX v L R).length<=2:=by
 unfold SX;split<;>simp
def Qs {c:r9}(hv:L6 c=true){i:Nat}(hi:i<c.views.length):(vwR ((c.j9.length:Int)+(i:Int)) (nth c.views i) (R6 c (c.j9.length+i)).length (zz c i) (oM c i)).length<=6000:=by
 have gw:r9.ns c=c.j9.length+c.views.length:=rfl;obtain ⟨ok,_,_,_,_⟩:=Qt hv hi;have hg:=aQ hv (c.j9.length+i+1) (c.j9.length+i) (by omega) (by omega);obtain ⟨n,hn⟩:∃ n,(R6 c (c.j9.length+i)).length=n:=⟨_,rfl⟩;rw [hn] at hg ⊢;obtain ⟨l0,l8,r8,q7,on8,on,wh,it,ag,unl⟩:=ok;have h1:(SX (nth c.views i) (zz c i) (oM c i)).length * n<=2 * 8:=Nat.mul_le_mul (OY _ _ _) hg.2.1;have h2:=Hi (nth c.views i) ((c.j9.length:Int)+(i:Int)) n (zz c i) (oM c i) hg.2.1 (nth c.views i).on.length;have h3:=GU (nth c.views i) ((c.j9.length:Int)+(i:Int)) n (zz c i++oM c i) hg.2.1 (fun j hj=>(it j hj).len) _ (n5 _);have h4:=Gl (nth c.views i) ((c.j9.length:Int)+(i:Int)) (zz c i++oM c i) (fun j hj=>(ag j hj).len) _ (n5 _);have h5:=mH (nth c.views i).wh (zz c i++oM c i);have h6:(oL (nth c.views i).wh (zz c i++oM c i)).length * n<=64 * 8:=Nat.mul_le_mul (by have:=wh.len;omega) hg.2.1;have h7:=Ic ((c.j9.length:Int)+(i:Int)) (zz c i) (oM c i) n;unfold vwR;rw [k9,fT,ee];split
 .omega
 .simp only [k9,fT,ee]
  omega
def TL (s:Int){n i:Nat}(h:i<n):((Dl s n).take (i+1)).drop i=[(s,(i:Int))]:=by
 have hl:=ee s n;rw [H9 (by omega),List.drop_append_of_le_length (by simp;omega),l6 (by simp;omega),Hg h,E0]
set_option maxHeartbeats 32000000 in
def bA6 (c:r9)(hs:J7 c)(hv:L6 c=true)(l:List C4)(i:Nat)(hi:i<c.views.length)(hl:l.length<=80000) :
  Pf A 51 [.d (cN l),cat c,.d (num ((c.j9.length:Int)+(i:Int)))] (.d (cN (L9 l (vwR ((c.j9.length:Int)+(i:Int)) (nth c.views i) (R6 c (c.j9.length+i)).length (zz c i) (oM c i))))):=by
 have gw:r9.ns c=c.j9.length+c.views.length:=rfl;obtain ⟨f0,f1,_⟩:=id hs.sm.oB;obtain ⟨ok,⟨l1,l2,l3⟩,hr,nu,un⟩:=Qt hv hi;have hg:=aQ hv (c.j9.length+i+1) (c.j9.length+i) (by omega) (by omega);have hst:bp c ((c.j9.length:Int)+(i:Int))=true:=by simp only [bp,hv,Bool.true_and,s6,u0,c7,decide_eq_true_eq];omega
 have e0:((c.j9.length:Int)+(i:Int)).toNat=c.j9.length+i:=by omega
 have pA:=ae5 c hs _ hst (by rw [e0];omega);rw [e0] at pA;have pfL:=aD8 c hs (nth c.views i).left;have pfR:=aD8 c hs (nth c.views i).right;rw [VE] at pfL pfR;have gl:=aQ hv ((bz c (nth c.views i).left).toNat+1) (bz c (nth c.views i).left).toNat (by omega) (by omega);have pL:Pf A 48 [cat c,.d (num (bz c (nth c.views i).left))] (.d (O9 (zz c i))):=ae5 c hs _ l1 (by omega);have pR:O1 (nth c.views i).right []=false->Pf A 48 [cat c,.d (num (bz c (nth c.views i).right))] (.d (O9 (oM c i)))/\0<(oM c i).length:=fun h=>by
  obtain ⟨r1,r2,r3⟩:=hr h;have:=aQ hv ((bz c (nth c.views i).right).toNat+1) (bz c (nth c.views i).right).toNat (by omega) (by omega);have e:oM c i=plN c (nth c.views i).right:=by unfold oM;rw [if_neg (by simp [h])]
  rw [e,zX];exact ⟨ae5 c hs _ r1 (by omega),by omega⟩
 have hr0:O1 (nth c.views i).right []=true->oM c i=[]:=fun h=>by unfold oM;rw [if_pos h]
 obtain ⟨l0,l8,r8,q7,on8,on,wh,it,ag,unl⟩:=ok;obtain ⟨v,hvd⟩:∃ v,nth c.views i=v:=⟨_,rfl⟩;obtain ⟨L,hL⟩:∃ L,zz c i=L:=⟨_,rfl⟩;obtain ⟨R,hR⟩:∃ R,oM c i=R:=⟨_,rfl⟩;obtain ⟨n,hn⟩:∃ n,(R6 c (c.j9.length+i)).length=n:=⟨_,rfl⟩;obtain ⟨s,Tx⟩:∃ s,(c.j9.length:Int)+(i:Int)=s:=⟨_,rfl⟩;rw [hvd] at pfL pfR pL pR hr0 q7 on8 on wh it ag unl nu un;rw [hL] at pL l0 l8 on wh it ag unl un;rw [hR] at pR hr0 r8 on wh it ag unl;rw [hn] at pA hg nu un;rw [Tx] at pA;rw [hvd,hL,hR,hn,Tx];clear hr l1 l2 l3 gl hst e0;refine Pf.run [.d (cN l),cat c,.d (num s),.any,.any,.any,.any,.any,.any,.any,.any,.any,.any,.any,.any,.any] rfl rfl rfl rfl ?_
 repeat' (first|refine ixI (e:=s - (c.j9.length:Int)) i (h2:= ?_)|refine gx ?_|fail)
 rw [hvd]
 repeat' (first|refine cl (pA) ?_|refine cl (pfL) ?_|refine cl (pL) ?_|refine gx ?_|fail)
 have ht1:L.take 1=[nth L 0]:=by
  cases L with
  |nil=>simp at l0
  |cons a q=>simp [nth]
 have ya:=ee s n;obtain ⟨Q,hQ⟩:∃ Q,Dl s n=Q:=⟨_,rfl⟩;have tQ:∀ k,k<n->(Q.take (k+1)).drop k=[(s,(k:Int))]:=fun k hk=>by rw [<- hQ];exact TL s hk
 rw [hQ] at ya;rw [hQ];refine Ex.OA (fun st=>∃ w8 w9 iL:c8,w8.J3= .d (O9 (L++R))/\w9.J3= .d (O9 (SX v L R))/\iL.J3= .d (O9 R)/\st=⟨[.d (cN l),cat c,.d (num s),.ptr 0 0,.own 5 0 [],.ptr 1 0,.d (O9 Q),.d (O9 L),w8,w9,iL,.any,.any,.any,.any,.any],[.cells (c.enc.map .d),.cells (v.enc.map .d)]⟩) ?_ ?_
 .skip
  refine tb (!O1 v.right []) (fun h=> ?_) (fun h=> ?_)
  .have h' :O1 v.right []=false:=by simpa using h
   obtain ⟨pR,hR0⟩:=pR h'
   repeat' (first|refine cl (pfR) ?_|refine cl (pR) ?_|refine ZE [] ?_|refine alE (enc:=Z4) (ys:=L) (h2:= ?_)|refine alN (enc:=Z4) (xs:=L) (ys:=R) (h2:= ?_)|refine alE (enc:=Z4) (ys:=L.take 1) (h2:= ?_)|refine ixZ (h2:= ?_)|refine oN (enc:=Z4) (nth R 0) ?_|refine alN (enc:=Z4) (xs:=L.take 1) (ys:=[nth R 0]) (h2:= ?_)|refine gx ?_|fail)
   exact ⟨_,_,_,rfl,by rw [ht1];unfold SX;rw [h'];rfl,rfl,rfl⟩
  .have h' :O1 v.right []=true:=by simpa using h
   refine gr ?_;have e:=hr0 h';exact ⟨_,_,_,by rw [e,List.append_nil];rfl,by rw [ht1];unfold SX;rw [h'];rfl,by rw [e];rfl,rfl⟩
 rintro _ ⟨w8,w9,iL,h8,h9,h10,rfl⟩;have hcl:=OY v L R;have m1:(SX v L R).length * Q.length<=2 * 8:=Nat.mul_le_mul hcl (by omega);have p1:=Bq l (SX v L R) Q false (by omega) (by omega) (by omega);have a1:=Y1 (si (SX v L R) Q false) l;rw [fT] at a1;unfold vwR;rw [Y0,hQ]
 repeat' (first|refine MK h9 ?_|refine cl (p1) ?_|refine gx ?_|fail)
 obtain ⟨l1,Tt⟩:∃ l1,L9 l (si (SX v L R) Q false)=l1:=⟨_,rfl⟩;rw [Tt] at a1;rw [Tt];have hL2:l1.length<=80016:=by omega
 clear p1 m1 a1 Tt h9 pL pfL pfR pA;refine tb (s9 v.kind 2) (fun hk=> ?_) (fun hk=> ?_)
 .have hnL:=un hk
  have hRl:=unl hk;rw [if_pos hk];refine gr ?_;refine Ex.I7 (fun q T H=>∃ (k:Nat) (w1 w2 w3 w4 w5 w8 w9 Lu Qu Lv YA:c8),T=[.d (cN (L9 l1 (Yu s L R k))),w1,w2,w3,w4,w5,.d (O9 Q),.d (O9 L),w8,w9,iL,.d (num k),Lu,Qu,Lv,YA]/\H=[.cells (c.enc.map .d),.cells (v.enc.map .d)]/\k+q=n) (by rintro _ _ _ ⟨_,_,_,_,_,_,_,_,_,_,_,_,_,rfl,_⟩;rfl) ?_ (k:=n) ⟨0,_,_,_,_,_,_,_,_,_,_,_,rfl,rfl,by simp⟩;rintro q _ _ ⟨k,w1,w2,w3,w4,w5,w8,w9,Lu,Qu,Lv,YA,rfl,rfl,hkq⟩;refine Ex.nT ?_;refine Ex.seq ?_;refine tb (E4 k Q.length) (fun g1=> ?_) (fun g1=> ?_)
  .have g2:=A6 g1
   have a2:=Y1 (Yu s L R k) l1;rw [Ic] at a2;have e1:=tQ k (by omega);have p2:Pf A 108 [.d (cN (L9 l1 (Yu s L R k))),.d (O9 [nth L k,nth R k]),.d (O9 ((Q.take (k+1)).drop k)),.d (.bool true)] (.d (cN (L9 l1 (Yu s L R (k+1))))):=by
    rw [e1,Yu,Y0];exact Bq _ [nth L k,nth R k] [(s,(k:Int))] true (by simp;omega) (by simp) (by simp)
   repeat' (first|refine MK h10 ?_|refine ZE (Z4 (nth L k)++Z4 (nth R k)) ?_|refine cl (p2) ?_|refine gx ?_|fail)
   exact ⟨q - 1,by omega,k+1,_,_,_,_,_,_,_,_,_,_,_,rfl,rfl,by omega⟩
  .have g2:=A3 g1
   obtain rfl:k=n:=by omega
   refine gr ?_;exact ⟨_,rfl,rfl⟩
 have hnc:=nu hk;rw [if_neg (by simp [hk]),Y0,Y0,Y0];have hLR:(L++R).length<=16:=by simp;omega
 refine gr ?_;refine Ex.I7 (fun q T H=>∃ (k:Nat) (w1 w2 w3 w4 w9 iM Qu Lv YA:c8),T=[.d (cN (L9 l1 (TK v s n L R k))),w1,w2,w3,w4,.ptr 1 0,.d (O9 Q),.d (O9 L),w8,w9,iL,iM,.d (num k),Qu,Lv,YA]/\H=[.cells (c.enc.map .d),.cells (v.enc.map .d)]/\k+q=v.on.length) (by rintro _ _ _ ⟨_,_,_,_,_,_,_,_,_,_,_,rfl,_⟩;rfl) ?_ (k:=v.on.length) ⟨0,_,_,_,_,_,_,_,_,_,rfl,rfl,by simp⟩;rintro q _ _ ⟨k,w1,w2,w3,w4,w9,iM,Qu,Lv,YA,rfl,rfl,hkq⟩;have a2:=Y1 (TK v s n L R k) l1;have a3:=Hi v s n L R hg.2.1 k;refine Ex.nT ?_;refine Ex.seq ?_;refine tb (E4 k v.on.length) (fun g1=> ?_) (fun g1=> ?_)
 .have g2:=A6 g1
  obtain ⟨q1,q2,q3,q4⟩:=on k (by omega);have p2:Pf A 108 [.d (cN (L9 l1 (TK v s n L R k))),.d (O9 [nth L (nth v.on k).1.toNat,nth R (nth v.on k).2.toNat]),.d (O9 Q),.d (.bool false)] (.d (cN (L9 l1 (TK v s n L R (k+1))))):=by
   rw [TK,Y0,hQ];exact Bq _ [nth L (nth v.on k).1.toNat,nth R (nth v.on k).2.toNat] Q false (by simp;omega) (by simp) (by omega)
  repeat' (first|refine MK h10 ?_|refine ZE (Z4 (nth L (nth v.on k).1.toNat)++Z4 (nth R (nth v.on k).2.toNat)) ?_|refine cl (p2) ?_|refine gx ?_|fail)
  exact ⟨q - 1,by omega,k+1,_,_,_,_,_,_,_,_,_,rfl,rfl,by omega⟩
 have g2:=A3 g1;obtain rfl:k=v.on.length:=by omega
 obtain ⟨l2,qU⟩:∃ l2,L9 l1 (TK v s n L R v.on.length)=l2:=⟨_,rfl⟩;rw [qU] at a2;rw [qU];have hL3:l2.length<=80144:=by omega
 clear g1 g2 a2 a3 hkq;have i1:=mH v.wh (L++R);have i2:=wh.len;have m2:(oL v.wh (L++R)).length * Q.length<=64 * 8:=Nat.mul_le_mul (by omega) (by omega);have p3:=Wo v.wh (L++R) (by omega) wh.ok (by omega) wh.col;have p4:=Bq l2 (oL v.wh (L++R)) Q false (by omega) (by omega) (by omega);have a4:=Y1 (si (oL v.wh (L++R)) Q false) l2;rw [fT] at a4
 repeat' (first|refine MK h8 ?_|refine cl (p3) ?_|refine cl (p4) ?_|refine gx ?_|fail)
 obtain ⟨l3,hl3⟩:∃ l3,L9 l2 (si (oL v.wh (L++R)) Q false)=l3:=⟨_,rfl⟩;rw [hl3] at a4;rw [hl3];have hL4:l3.length<=80656:=by omega
 clear p3 p4 a4 m2 i1 i2;refine Ex.I7 (fun q T H=>∃ (k:Nat) (w1 w2 w3 w4 w7 w9 iL iM Lu Lv YA:c8),T=[.d (cN (L9 l3 (Ir v s n (L++R) k))),w1,w2,w3,w4,.ptr 1 0,.d (O9 Q),w7,w8,w9,iL,iM,Lu,.d (num k),Lv,YA]/\H=[.cells (c.enc.map .d),.cells (v.enc.map .d)]/\k+q=v.items.length) (by rintro _ _ _ ⟨_,_,_,_,_,_,_,_,_,_,_,_,_,rfl,_⟩;rfl) ?_ (k:=v.items.length) ⟨0,_,_,_,_,_,_,_,_,_,_,_,rfl,rfl,by simp⟩;rintro q _ _ ⟨k,w1,w2,w3,w4,w7,w9,iL,iM,Lu,Lv,YA,rfl,rfl,hkq⟩;have a2:=Y1 (Ir v s n (L++R) k) l3;have a3:=GU v s n (L++R) hg.2.1 (fun j hj=>(it j hj).len) k (by omega);refine Ex.nT ?_;refine Ex.seq ?_;refine tb (E4 k v.items.length) (fun g1=> ?_) (fun g1=> ?_)
 .have g2:=A6 g1
  obtain ⟨e1,e2,e3⟩:=it k (by omega);have i1:=mH (nth v.items k).expr (L++R);have p3:=Wo (nth v.items k).expr (L++R) (by omega) e2 (by omega) e3;have e4:=tQ k (by omega);obtain ⟨X,hX⟩:∃ X,oL (nth v.items k).expr (L++R)=X:=⟨_,rfl⟩;rw [hX] at p3 i1;have m2:X.length * Q.length<=64 * 8:=Nat.mul_le_mul (by omega) (by omega);have p4:Pf A 108 [.d (cN (L9 l3 (Ir v s n (L++R) k))),.d (O9 X),.d (O9 ((Q.take (k+1)).drop k)),.d (.bool true)] (.d (cN (L9 (L9 l3 (Ir v s n (L++R) k)) (si X [(s,(k:Int))] true)))):=by
   rw [e4];exact Bq _ X [(s,(k:Int))] true (by simp;omega) (by omega) (by simp)
  have a4:=Y1 (si X [(s,(k:Int))] true) (L9 l3 (Ir v s n (L++R) k));rw [fT] at a4;simp only [p8,y8] at a4;have p5:=Bq (L9 (L9 l3 (Ir v s n (L++R) k)) (si X [(s,(k:Int))] true)) X Q false (by omega) (by omega) (by omega);have e5:L9 l3 (Ir v s n (L++R) (k+1))=if v.distinct||s9 v.kind 1 then L9 (L9 (L9 l3 (Ir v s n (L++R) k)) (si X [(s,(k:Int))] true)) (si X Q false) else L9 (L9 l3 (Ir v s n (L++R) k)) (si X [(s,(k:Int))] true):=by
   rw [Ir,Y0,Y0,hX,hQ];split<;>rfl
  repeat' (first|refine MK h8 ?_|refine cl (p3) ?_|refine cl (p4) ?_|refine gx ?_|fail)
  refine tb (v.distinct||s9 v.kind 1) (fun g3=> ?_) (fun g3=> ?_)
  .rw [g3,if_pos rfl] at e5
   repeat' (first|refine cl (p5) ?_|refine gx ?_|fail)
   exact ⟨q - 1,by omega,k+1,_,_,_,_,_,_,_,_,_,_,_,by rw [e5];rfl,rfl,by omega⟩
  .rw [g3,if_neg (by simp)] at e5
   refine gr ?_;exact ⟨q - 1,by omega,k+1,_,_,_,_,_,_,_,_,_,_,_,by rw [e5];rfl,rfl,by omega⟩
 have g2:=A3 g1;obtain rfl:k=v.items.length:=by omega
 obtain ⟨l4,hl4⟩:∃ l4,L9 l3 (Ir v s n (L++R) v.items.length)=l4:=⟨_,rfl⟩;rw [hl4] at a2;rw [hl4];have hL5:l4.length<=85264:=by omega
 clear g1 g2 a2 a3 hkq;refine gr ?_;refine Ex.I7 (fun q T H=>∃ (k:Nat) (w1 w2 w3 w4 w7 w9 iL iM Lu Qu Lv:c8),T=[.d (cN (L9 l4 (Ux v s (L++R) k))),w1,w2,w3,w4,.ptr 1 0,.d (O9 Q),w7,w8,w9,iL,iM,Lu,Qu,Lv,.d (num k)]/\H=[.cells (c.enc.map .d),.cells (v.enc.map .d)]/\k+q=v.D5.length) (by rintro _ _ _ ⟨_,_,_,_,_,_,_,_,_,_,_,_,_,rfl,_⟩;rfl) ?_ (k:=v.D5.length) ⟨0,_,_,_,_,_,_,_,_,_,_,_,rfl,rfl,by simp⟩;rintro q _ _ ⟨k,w1,w2,w3,w4,w7,w9,iL,iM,Lu,Qu,Lv,rfl,rfl,hkq⟩;have a2:=Y1 (Ux v s (L++R) k) l4;have a3:=Gl v s (L++R) (fun j hj=>(ag j hj).len) k (by omega);refine Ex.nT ?_;refine Ex.seq ?_;refine tb (E4 k v.D5.length) (fun g1=> ?_) (fun g1=> ?_)
 .have g2:=A6 g1
  obtain ⟨e1,e2,e3⟩:=ag k (by omega);have i1:=mH (nth v.D5 k).expr (L++R);have p3:=Wo (nth v.D5 k).expr (L++R) (by omega) e2 (by omega) e3;have e4:=tQ (v.items.length+k) (by omega);have p4:Pf A 108 [.d (cN (L9 l4 (Ux v s (L++R) k))),.d (O9 (oL (nth v.D5 k).expr (L++R))),.d (O9 ((Q.take (v.items.length+k+1)).drop (v.items.length+k))),.d (.bool true)] (.d (cN (L9 l4 (Ux v s (L++R) (k+1))))):=by
   rw [e4,Ux,Y0,Int.natCast_add];exact Bq _ _ [(s,(v.items.length:Int)+(k:Int))] true (by simp;omega) (by omega) (by simp)
  repeat' (first|refine MK h8 ?_|refine cl (p3) ?_|refine cl (p4) ?_|refine gx ?_|fail)
  exact ⟨q - 1,by omega,k+1,_,_,_,_,_,_,_,_,_,_,_,rfl,rfl,by omega⟩
 have g2:=A3 g1;obtain rfl:k=v.D5.length:=by omega
 refine gr ?_;exact ⟨_,rfl,rfl⟩
theorem Ks {q7:List ek}{x:Int}:∀ {k},x ∈ pV q7 k->0<=x/\x<k
 |0,h=>by simp [pV] at h
 |k+1,h=>by
  rw [pV,List.mem_append] at h
  rcases h with h|h
  .have:=Ks h;omega
  .split at h
   .rw [s8] at h;omega
   .cases h
def Jp (c:r9):List C4:=if L6 c then Nl c else []
def xE {c:r9}(hv:L6 c=true):c.j9.length<=8/\c.views.length<=12:=by
 have h:=(uY hv).2.1;unfold tooMany at h;simp only [G8] at h;have h1:=A3 h.1.1;have h2:=A3 h.1.2;omega
def aT5 (c:r9)(hs:J7 c):∃ w,Uw w (Jp c)/\Pf A 17 [cat c] w:=by
 have p46:=aW2 c hs;unfold Jp;cases hv:L6 c with
 |true =>
  rw [hv] at p46;have h8:=xE hv;have p47:=p47 c hs hv h8.1 h8.2;refine ⟨_,.inl rfl,?_⟩;refine Pf.run [cat c,.any,.any] rfl rfl rfl rfl ?_;refine gr ?_;refine tB (!true) ?_ (fun h1=> ?_) (fun h1=> ?_)
  .repeat' (first|refine cl (p46) ?_|refine gx ?_|refine fk (h1:=fun hw=> ?_) (h2:=fun hw=> ?_)|refine U1 (h1:=fun hw=> ?_) (h2:=fun hw=> ?_)|refine ⟨rfl,rfl,_,rfl,?_⟩|refine ⟨rfl,rfl⟩|fail)
   all_goals exact cc
  .cases h1
  repeat' (first|refine IW p47 ?_|refine gx ?_|fail)
  exact ⟨_,rfl,rfl⟩
 |false =>
  rw [hv] at p46;refine ⟨_,.inr rfl,?_⟩;refine Pf.run [cat c,.any,.any] rfl rfl rfl rfl ?_;refine gr ?_;refine tB (!false) ?_ (fun h1=> ?_) (fun h1=> ?_)
  .repeat' (first|refine cl (p46) ?_|refine gx ?_|refine fk (h1:=fun hw=> ?_) (h2:=fun hw=> ?_)|refine U1 (h1:=fun hw=> ?_) (h2:=fun hw=> ?_)|refine ⟨rfl,rfl,_,rfl,?_⟩|refine ⟨rfl,rfl⟩|fail)
   all_goals exact cc
  .refine gr ?_
   exact ⟨_,rfl,rfl⟩
  .cases h1
def aT7 (c:r9)(hs:J7 c)(hv:L6 c=false):Pf A 18 [cat c] (.own 5 0 []):=by
 have p40:=Xe c hs;rw [hv] at p40;refine Pf.run [cat c,.any,.any,.any,.any,.any,.any,.any,.any,.any] rfl rfl rfl rfl ?_;refine gr ?_;refine tB (!false) ?_ (fun h1=> ?_) (fun h1=> ?_)
 .repeat' (first|refine cl (p40) ?_|refine gx ?_|refine fk (h1:=fun hw=> ?_) (h2:=fun hw=> ?_)|refine U1 (h1:=fun hw=> ?_) (h2:=fun hw=> ?_)|refine ⟨rfl,rfl,_,rfl,?_⟩|refine ⟨rfl,rfl⟩|fail)
  all_goals exact cc
 .refine gr ?_
  exact ⟨_,rfl,rfl⟩
 .cases h1
set_option maxHeartbeats 16000000 in
def aT8 (c:r9)(hs:J7 c)(hv:L6 c=true):Pf A 18 [cat c] (.d (cN (Nl c))):=by
 have p40:=Xe c hs;rw [hv] at p40;have h8:=xE hv;have gw:r9.ns c=c.j9.length+c.views.length:=rfl;have hc8:∀ i,i<c.j9.length->(nth c.j9 i).q7.length<=8:=fun i hi=>(Nh c hv hi).1
 refine Pf.run [cat c,.any,.any,.any,.any,.any,.any,.any,.any,.any] rfl rfl rfl rfl ?_;refine gr ?_;refine tB (!true) ?_ (fun h1=> ?_) (fun h1=> ?_)
 .repeat' (first|refine cl (p40) ?_|refine gx ?_|refine fk (h1:=fun hw=> ?_) (h2:=fun hw=> ?_)|refine U1 (h1:=fun hw=> ?_) (h2:=fun hw=> ?_)|refine ⟨rfl,rfl,_,rfl,?_⟩|refine ⟨rfl,rfl⟩|fail)
  all_goals exact cc
 .cases h1
 refine gr ?_;refine Ex.I7 (fun k T H=>∃ (t:Nat) (w0 w2 w3 w5 w6 w7 w8 w9:c8),T=[w0,.ptr 0 0,w2,w3,.d (num t),w5,w6,w7,w8,w9]/\H=[.cells (c.enc.map .d)]/\Uw w3 (L9 [] (lP c t))/\t+k=c.j9.length/\(lP c t).length<=t * 64) (by rintro _ _ _ ⟨_,_,_,_,_,_,_,_,_,_,rfl,_⟩;rfl) ?_ (k:=c.j9.length) ⟨0,_,_,_,_,_,_,_,_,rfl,rfl,.inr rfl,by simp,by simp [lP]⟩;rintro k _ _ ⟨t,w0,w2,w3,w5,w6,w7,w8,w9,rfl,rfl,hw,hk,htl⟩;refine Ex.nT ?_;refine Ex.seq ?_;refine tb (E4 t c.j9.length) (fun h2=> ?_) (fun h2=> ?_)
 .have h3:=A6 h2
  have hst:bp c (t:Int)=true:=by simp only [bp,hv,Bool.true_and,s6,u0,c7,decide_eq_true_eq];omega
  have e1:E4 (t:Int) 0=false:=by simp [u0]
  have e2:bV (c.j9.length:Int) t=false:=by simp [s6];omega
  have hit:rU c t=true:=by rw [wT,e1,e2,hv];rfl
  have hcl:=hc8 t (by omega);have hct:(R6 c t).length=(nth c.j9 t).q7.length:=by rw [uj c (by omega)];simp
  have pA:=ae5 c hs t hst (by rw [P0];omega);rw [P0,hct] at pA;have pP:=aZ6 c hs t hit;have Py:∀ x ∈ jW c t,0<=x/\x<(nth c.j9 t).q7.length:=fun x hx=>by
   unfold jW at hx;rw [P0] at hx;exact Ks hx
  have Bj:(jW c t).length<=8:=by have:=mQ (nth c.j9 t).q7 (nth c.j9 t).q7.length;unfold jW;rw [P0];omega
  have eT:lP c (t+1)=lP c t++(if s9 (nth c.j9 t).erase 1 then gO t (nth c.j9 t).q7.length (jW c t) else []):=rfl;obtain ⟨n,hn⟩:∃ n,(nth c.j9 t).q7.length=n:=⟨_,rfl⟩;obtain ⟨P,hP⟩:∃ P,jW c t=P:=⟨_,rfl⟩;obtain ⟨F,hF⟩:∃ F,lP c t=F:=⟨_,rfl⟩;rw [hn,hP,hF] at eT;rw [hn] at pA Py hcl;rw [hP] at pP Py Bj;rw [hF] at hw htl;have ya:=ee (t:Int) n;have hel:∀ k:Nat,k<n->nth (Dl (t:Int) n) k=((t:Int),(k:Int)):=fun k hk=>Hg hk
  obtain ⟨Q,hQ⟩:∃ Q,Dl (t:Int) n=Q:=⟨_,rfl⟩;rw [hQ] at pA ya hel;have hq:∀ k,(gO t n (P.take k)).length<=64:=fun k=>by
   have h1:=qo t n (P.take k);have h2:(P.take k).length * n<=8 * 8:=Nat.mul_le_mul (by simp;omega) hcl;omega
  repeat' (first|refine cl (pA) ?_|refine cl (pP) ?_|refine gx ?_|fail)
  refine Ex.I7 (fun k T H=>∃ (i:Nat) (w0 w2 w3 w8 w9:c8),T=[w0,.ptr 0 0,w2,w3,.d (num t),.d (O9 Q),.d (ints P),.d (num i),w8,w9]/\H=[.cells (c.enc.map .d)]/\Uw w3 (L9 [] (F++gO t n (P.take i)))/\i+k=P.length/\(s9 (nth c.j9 t).erase 1=false->i=0)) (by rintro _ _ _ ⟨_,_,_,_,_,_,_,rfl,_⟩;rfl) ?_ (k:=P.length) ⟨0,_,_,_,_,_,rfl,rfl,by simpa [gO] using hw,by simp,fun _=>rfl⟩;clear hw;rintro m _ _ ⟨i,w0,w2,w3,w8,w9,rfl,rfl,hw,hm,hi0⟩;refine Ex.nT ?_;refine Ex.seq ?_;refine tb (E4 i P.length&&s9 (nth c.j9 t).erase 1) (fun g2=> ?_) (fun g2=> ?_)
  .simp only [c7] at g2
   have g3:=A6 g2.1;have hpi:=Py _ (S9 (l:=P) (i:=i) (by omega));have e6:gO t n (P.take (i+1))=gO t n (P.take i)++oq t (nth P i) n:=by
    unfold gO;rw [H9 (by omega)];simp
   have hqi:=hq i;have eA:nth Q (nth P i).toNat=((t:Int),nth P i):=by
    rw [hel _ (by omega),Int.toNat_of_nonneg hpi.1]
   refine gr ?_;refine Ex.I7 (fun k T H=>∃ (j:Nat) (w0 w2 w3 w9:c8),T=[w0,.ptr 0 0,w2,w3,.d (num t),.d (O9 Q),.d (ints P),.d (num i),.d (num j),w9]/\H=[.cells (c.enc.map .d)]/\Uw w3 (L9 [] (F++gO t n (P.take i)++oq t (nth P i) j))/\j+k=n) (by rintro _ _ _ ⟨_,_,_,_,_,_,rfl,_⟩;rfl) ?_ (k:=n) ⟨0,_,_,_,_,rfl,rfl,by simpa [oq] using hw,by simp⟩;clear hw;rintro q _ _ ⟨j,w0,w2,w3,w9,rfl,rfl,hw,hq2⟩;have NA:=hw.as;refine Ex.nT ?_;refine Ex.seq ?_;refine tb (E4 j Q.length) (fun f2=> ?_) (fun f2=> ?_)
   .have f3:=A6 f2
    have hjn:j<n:=by omega
    have eJ:=hel j hjn;have VO:(L9 [] (F++gO t n (P.take i)++oq t (nth P i) j)).length<=100000:=by
     have a1:=Y1 (F++gO t n (P.take i)++oq t (nth P i) j) [];have a2:=uW t (nth P i) j;simp only [k9,y8] at a1;omega
    obtain ⟨w5,hw5,p50⟩:=aT9 _ ⟨nth Q (nth P i).toNat,nth Q j,false⟩ VO;refine gr ?_;refine tb (!s9 j (nth P i)) (fun f5=> ?_) (fun f5=> ?_)
    .have eN:jm ⟨nth Q (nth P i).toNat,nth Q j,false⟩ (L9 [] (F++gO t n (P.take i)++oq t (nth P i) j))=L9 [] (F++gO t n (P.take i)++oq t (nth P i) (j+1)):=by
      rw [oq,f5,if_pos rfl,<- D2,Y0 [] _ (xX _ _ _),eA,eJ];rfl
     rw [eN] at hw5
     rcases hw5 with rfl|rfl
     .repeat' (first|refine MK NA ?_|refine Dv (cs:=(C4.enc ⟨nth Q (nth P i).toNat,nth Q j,false⟩).map .d) ?_|refine cl (p50) ?_|refine gx ?_|fail)
      exact ⟨q - 1,by omega,j+1,_,_,_,_,rfl,rfl,.inl rfl,by omega⟩
     .repeat' (first|refine MK NA ?_|refine Dv (cs:=(C4.enc ⟨nth Q (nth P i).toNat,nth Q j,false⟩).map .d) ?_|refine cl (p50) ?_|refine gx ?_|fail)
      exact ⟨q - 1,by omega,j+1,_,_,_,_,rfl,rfl,.inr rfl,by omega⟩
    .refine gr ?_
     exact ⟨q - 1,by omega,j+1,_,_,_,_,rfl,rfl,by simpa only [oq,f5,j4,if_false,List.append_nil] using hw,by omega⟩
   .have f3:=A3 f2
    obtain rfl:j=n:=by omega
    refine gr ?_;exact ⟨m - 1,by omega,i+1,_,_,_,_,_,rfl,rfl,by rw [e6,<- D2];exact hw,by omega,fun h=>by rw [h] at g2;simp at g2⟩
  .refine gr ?_
   refine ⟨k - 1,by omega,t+1,_,_,_,_,_,_,_,_,rfl,rfl,?_,by omega,?_⟩
   .rw [eT]
    cases he:s9 (nth c.j9 t).erase 1 with
    |true =>
     rw [he,Bool.and_true] at g2;have:=A3 g2;rw [y6 (by omega)] at hw;simpa using hw
    |false =>
     obtain rfl:=hi0 he;simpa [gO] using hw
   .rw [eT,k9]
    have:=hq P.length;rw [List.take_length] at this;split<;>simp<;>omega
 have h3:=A3 h2;obtain rfl:t=c.j9.length:=by omega
 refine gr ?_;refine Ex.I7 (fun k T H=>∃ (i:Nat) (w0 w2 w3 w4 w5 w6 w7 w8:c8),T=[w0,.ptr 0 0,w2,w3,w4,w5,w6,w7,w8,.d (num i)]/\H=[.cells (c.enc.map .d)]/\Uw w3 (L9 [] (lP c c.j9.length++uZ c i))/\i+k=c.views.length/\(uZ c i).length<=i * 6000) (by rintro _ _ _ ⟨_,_,_,_,_,_,_,_,_,_,rfl,_⟩;rfl) ?_ (k:=c.views.length) ⟨0,_,_,_,_,_,_,_,_,rfl,rfl,by simpa [uZ] using hw,by simp,by simp [uZ]⟩;clear hw;rintro k _ _ ⟨i,w0,w2,w3,w4,w5,w6,w7,w8,rfl,rfl,hw,hk,hvl⟩;have NA:=hw.as;refine Ex.nT ?_;refine Ex.seq ?_;refine tb (E4 i c.views.length) (fun h4=> ?_) (fun h4=> ?_)
 .have h5:=A6 h4
  have a1:=Y1 (lP c c.j9.length++uZ c i) [];simp only [k9,y8] at a1;have p51:=bA6 c hs hv (L9 [] (lP c c.j9.length++uZ c i)) i (by omega) (by omega);rw [<- Y0,D2] at p51
  repeat' (first|refine MK NA ?_|refine cl (p51) ?_|refine gx ?_|fail)
  refine ⟨k - 1,by omega,i+1,_,_,_,_,_,_,_,_,rfl,rfl,.inl rfl,by omega,?_⟩;have:=Qs hv (i:=i) (by omega);rw [uZ,k9];omega
 .have h5:=A3 h4
  obtain rfl:i=c.views.length:=by omega
  have e:L9 [] (lP c c.j9.length++uZ c c.views.length)=Nl c:=Jg (KE hv);rw [e] at NA
  repeat' (first|refine MK NA ?_|refine gx ?_|fail)
  exact ⟨_,rfl,rfl⟩
def aT6 (c:r9)(hs:J7 c):∃ w,Uw w (Jp c)/\Pf A 18 [cat c] w:=by
 unfold Jp;cases hv:L6 c with
 |true=>exact ⟨_,.inl rfl,aT8 c hs hv⟩
 |false=>exact ⟨_,.inr rfl,aT7 c hs hv⟩
def aT3 (l:List C4)(hl:l.length<=9223372036854775807):Pf A 16 [.d (cN l),.d (cN l)] (.d (.bool true)):=by
 refine Pf.run [.d (cN l),.d (cN l),.any,.any] rfl rfl rfl rfl ?_;refine gr ?_;refine tB (false) ?_ (fun h1=> ?_) (fun h1=> ?_)
 .repeat' (first|refine gx ?_|refine fk (h1:=fun hw=> ?_) (h2:=fun hw=> ?_)|refine U1 (h1:=fun hw=> ?_) (h2:=fun hw=> ?_)|refine ⟨rfl,rfl,_,rfl,?_⟩|refine ⟨rfl,rfl⟩|fail)
  all_goals first|(simp [*,j3,o8];done)|(simp_all [j3,o8];done)|(simp_all [j3,o8,u0,s6,o8,E5];done)|(simp_all [j3,o8,u0,s6,o8,E5]<;>omega)
 .cases h1
 refine gr ?_;refine Ex.I7 (fun k T H=>∃ (i:Nat) (w2:c8),T=[.d (cN l),.d (cN l),w2,.d (num i)]/\H=[]/\i+k=l.length) (by rintro _ _ _ ⟨_,_,_,rfl,_⟩;rfl) ?_ (k:=l.length) ⟨0,_,rfl,rfl,by simp⟩;rintro k _ _ ⟨i,w2,rfl,rfl,hk⟩;refine Ex.nT ?_;refine Ex.seq ?_;refine tb (E4 i l.length) (fun h2=> ?_) (fun h2=> ?_)
 .have h3:=A6 h2
  refine gr ?_;refine tb (false) (fun h4=> ?_) (fun h4=> ?_)
  .cases h4
  .refine gr ?_
   exact ⟨k - 1,by omega,i+1,_,rfl,rfl,by omega⟩
 .have h3:=A3 h2
  refine gr ?_;exact ⟨_,rfl,rfl⟩
end Go.Proofs.YtibjocmpkoepoaaGreat


import Derived.Test.YtibjocmpkoepoaaGreatN0
import Derived.Test.YtibjocmpkoepoaaGreatT2
import Derived.Test.YtibjocmpkoepoaaGreatN3
set_option linter.all false
open Bool renaming and_eq_true → c9, false_eq_true → j5, not_eq_true' → o8, not_false → M0, or_eq_false_iff → E6, or_eq_true → L5
open List renaming cons_append → B7, drop_of_length_le → n5, length_append → n9, length_cons → q6, length_map → A1, length_nil → B0, map_cons → E0, mem_append_left → M1, mem_cons → y7, mem_map → L6, mem_singleton → s6, nil_append → B9, set_cons_succ → y6, set_cons_zero → C4, take_of_length_le → A8
open Nat renaming le_of_ble_eq_true → k9, le_refl → o5, le_trans → B5, lt_or_ge → s5, zero_le → N6
namespace Go.Proofs.YtibjocmpkoepoaaGreat
open Go.Abs Go.Abs.S
attribute [local irreducible] Rx Ry Rn Ex Pf
mutual
def Ji {ty:List Int}:∀ a:aL,a.wf->u0 (a.typ ty).2 0=true->∀ t,t ∈ a.flat->u0 t.op 2=true->0<=t.col/\t.col<ty.length
 | .node t l,hw,h,t',ht',h2=>by
  obtain ⟨hok,har,QJ⟩:=hw;simp [aL.typ] at h;split at h
  .rename_i h1
   simp [aL.flat,y7] at ht'
   rcases ht' with rfl|ht'
   .have e1:u0 t'.op 1=false:=by simp_all [o9]
    simp [AZ,e1,h2,if_true,j5,if_false] at h;split at h
    all_goals simp_all [o9,wm,Bool.not_eq_true,yb,dc,if_true,j5,if_false,c9,nV]
   .exact DH l QJ h1 t' ht' h2
  simp_all
def DH {ty:List Int}:∀ l:List aL,WY l->u0 (gB ty l).2 0=true->∀ t,t ∈ L9 l->u0 t.op 2=true->0<=t.col/\t.col<ty.length
 |[],_,_,t,h,_=>by simp [L9] at h
 |a::l,hw,h,t,ht,h2=>by
  simp [gB] at h;split at h
  .rename_i h1
   simp [L9,List.mem_append] at ht
   rcases ht with ht|ht
   .exact Ji a hw.1 h1 t ht h2
   .exact DH l hw.2 h t ht h2
  simp_all
end
theorem Nf {e:List Y4}{ty:List Int}(h:u0 (H7 e ty).2 0=true):Eg e ty.length:=by
 unfold H7 at h;split at h
 .simp [o9] at h
 .rename_i a ha
  split at h
  .obtain ⟨e1,e2,e3⟩:=wQ ha
   have hb:ak e=true:=by have:=fN e;grind
   refine ⟨?_,.inl hb,fun x hx=> ?_⟩
   .grind [ak,y3]
   .obtain ⟨t,ht,h1,rfl⟩:=QT hx
    rw [e1] at ht;exact Ji a e2 h t ht h1
  grind [o9]
theorem zk (n:Nat):Eg [] n:=⟨by simp,.inr rfl,fun x hx=>by simp_all [CA]⟩
def GK {ty:List Int}:∀ (l:List yy) (seen:List L0),V7 ty seen l=0->∀ e,e ∈ l->Eg e.expr ty.length
 |[],_,_,e,he=>by cases he
 |a::l,seen,h,e,he=>by
  have ih:=GK (ty:=ty) l (seen++[a.name]);unfold V7 at h;split at h
  .omega
  .split at h
   .omega
   .split at h
    .omega
    .split at h
     .rcases y7.1 he with rfl|he
      all_goals simp_all [c9,Bool.true_and,L5,not_or,z8,decide_eq_true_eq,List.length_eq_zero_iff,zk]
     grind [o9,Nf]
def Ig {l r:List Int}:∀ (on:List (Int×Int)),I4 l r on=0->∀ i,i<on.length->0<=(nth on i).1/\(nth on i).1<l.length/\0<=(nth on i).2/\(nth on i).2<r.length
 |[],_,i,hi=>by simp at hi
 |p::ps,h,i,hi=>by
  unfold I4 at h;split at h
  .omega
  .rename_i h1
   split at h
   .omega
   .simp [A4,y3] at h1
    cases i with
    |zero =>
     grind [J9]
    |succ i =>
     have h2:i<ps.length:=by simp_all
     have:=Ig ps h i h2;simp_all [J9]
theorem EO {c:y4}(hv:N9 c=true){s:L0}{k:Nat}(h:0<=H9 c s k):dY c s=H9 c s k/\bJ c (dY c s)=true:=by
 have e1:dY c s=zx c s:=(af2 c s).symm;have hl:=jV c;have e2:zx c s=H9 c s k:=by
  unfold zx
  grind [H9,A8,CO]
 have:=M6 c s k;grind [bJ,y3,z8]
def plN (c:y4)(s:L0):List K5:=plA (dY c s) (R3 c (dY c s).toNat).length
def QN (c:y4)(i:Nat):List K5:=plN c (nth c.views i).left
def II (c:y4)(i:Nat):List K5:=if L4 (nth c.views i).right [] then [] else plN c (nth c.views i).right
def Xc (c:y4):List F1:=Ci c c.o7.length++Ck c (QN c) (II c) c.views.length
def mS (c:y4):List F1:=hU (cL (Xc c)) (Xc c).length
def NN (c:y4)(s:L0):(plN c s).length=(R3 c (dY c s).toNat).length:=Fo _ _
def SC {v:Vw}{L R:List K5}(h:Sd v L R):(SA v L R).length<=600:=by
 have h1:=nO v.wh (L++R);have h2:=h.wh.len;have h3:=Fi v L R v.on.length;have h4:=h.on8;have h5:=h.p8;have h6:=rH (D:=qj v (L++R) v.items.length) (fun d hd=>yZ h.it h.ag d (M1 _ hd))
 grind [qj,SA,n9,q6,B0]
def DJ {v:Vw}{L R:List K5}(h:Sd v L R)(s:Int):(tQ s v L R).length<=6000:=by
 unfold tQ;split
 .have:=Bh s L R L.length
  have:=h.l8;omega
 .have h1:=SC h
  have h2:(EE v (L++R)).length<=8:=by have:=h.p8;grind [EE,qj,KZ]
  have h3:=Ai s (EE v (L++R)) (SA v L R) (fun i hi=>yZ h.it h.ag _ (S3 hi)) _ (o5 _);have h4:(EE v (L++R)).length * (64+(SA v L R).length)<=8 * 664:=Nat.mul_le_mul h2 (by omega);omega
structure aN9 (c:y4)(i:Nat):Prop where
 ok:Sd (nth c.views i) (QN c i) (II c i)
 lf:bJ c (dY c (nth c.views i).left)=true/\0<=dY c (nth c.views i).left/\dY c (nth c.views i).left<c.o7.length+i
 rt:L4 (nth c.views i).right []=false->bJ c (dY c (nth c.views i).right)=true/\0<=dY c (nth c.views i).right/\dY c (nth c.views i).right<c.o7.length+i
 nu:u0 (nth c.views i).kind 2=false->(R3 c (c.o7.length+i)).length=(nth c.views i).items.length+(nth c.views i).D2.length
 un:u0 (nth c.views i).kind 2=true->(R3 c (c.o7.length+i)).length=(QN c i).length
def ab7 {c:y4}(hv:N9 c=true){i:Nat}(hi:i<c.views.length):aN9 c i:=by
 obtain ⟨h1,_,h3⟩:=Bj hv;have ek:y4.ns c=c.o7.length+c.views.length:=rfl;have hnl:=bk c;have qE:=iO (h1 (c.o7.length+i) (by omega)) (by omega) (by omega);obtain ⟨k,hk⟩:∃ k,c.o7.length+i=k:=⟨_,rfl⟩;have ev:W9 c k=nth c.views i:=by grind [W9,Nat.add_sub_cancel_left]
 have hg:∀ q,q<k->1<=(R3 c q).length/\(R3 c q).length<=8:=fun q hq=>by
  grind [iu]
 rw [hk] at qE;unfold W0 lT rT at qE;rw [ev] at qE;obtain ⟨v,XQ⟩:∃ v,nth c.views i=v:=⟨_,rfl⟩;rw [XQ] at qE ev;split at qE
 .omega
 .split at qE
  .omega
  .rename_i hl
   split at qE
   .omega
   .rename_i hsh
    simp only [Bool.not_eq_true,E6] at hl;have f1:=C5 hl.1;have f2:L4 v.right []=false->0<=H9 c v.right k:=fun h=>by
     simp_all [M0,Bool.true_and,C5]
    have b1:=M6 c v.left k;have b2:=M6 c v.right k;obtain ⟨g1,g2⟩:=EO hv f1;have hlf:bJ c (dY c v.left)=true/\0<=dY c v.left/\dY c v.left<(c.o7.length:Int)+i:=⟨g2,by omega,by omega⟩;have hrt:L4 v.right []=false->bJ c (dY c v.right)=true/\0<=dY c v.right/\dY c v.right<(c.o7.length:Int)+i:=fun h=>by
     grind [EO]
    have el:QN c i=plN c v.left:=by simp_all [QN]
    have er:II c i=if L4 v.right [] then [] else plN c v.right:=by simp_all [II]
    have ll:(QN c i).length=(R3 c (H9 c v.left k).toNat).length:=by rw [el,NN,g1]
    have lr:L4 v.right []=false->(II c i).length=(R3 c (H9 c v.right k).toNat).length:=fun h=>by
     rw [er,h,if_neg (by simp),NN,(EO hv (f2 h)).1]
    have lr0:L4 v.right []=true->II c i=[]:=fun h=>by simp_all
    have l1:=hg (H9 c v.left k).toNat (by omega);have r1:(II c i).length<=8:=by
     grind
    have eL:nth (mB c k) (H9 c v.left k).toNat=R3 c (H9 c v.left k).toNat:=V1 c (by omega);have eR:(if L4 v.right [] then [] else nth (mB c k) (H9 c v.right k).toNat).length=(II c i).length:=by
     cases h:L4 v.right [] with
     |true=>simp_all
     |false =>
      have:=f2 h;rw [lr h,if_neg (by simp),V1 c (by omega)]
    have hin:(ins c k).length=(QN c i++II c i).length:=by
     unfold ins zK;rw [show nth c.views (k - c.o7.length)=v from ev,n9,eL,eR,n9,ll]
    have ect:R3 c k=if u0 v.kind 2 then nth (mB c k) (H9 c v.left k).toNat else W8 v (ins c k):=by
     grind [R3,gy,ins,nth]
    rw [<- XQ] at hlf hrt;rw [<- ll] at l1;have ht0:((nth (mB c k) (H9 c v.left k).toNat).length:Nat)=(QN c i).length:=by rw [eL,ll]
    obtain ⟨RT,hRT⟩:∃ RT,(if L4 v.right [] then [] else nth (mB c k) (H9 c v.right k).toNat)=RT:=⟨_,rfl⟩;rw [hRT] at qE eR
    by_cases h2:u0 v.kind 2=true
    .rw [if_pos h2] at qE
     have BZ:bP v=true:=by simp_all
     unfold bP at BZ;rw [if_pos h2] at BZ;simp only [c9,o8,o9,decide_eq_true_eq,beq_iff_eq] at BZ;have hon:v.on.length=0:=by omega
     have hit:v.items.length=0:=by omega
     have hag:v.D2.length=0:=by omega
     have vZ:(QN c i).length=(II c i).length:=by
      rw [<- ht0,<- eR];refine Decidable.byContradiction fun hne=> ?_
      simp_all [pO]
     refine ⟨?_,hlf,hrt,?_,?_⟩
     .rw [XQ]
      refine ⟨by omega,l1.2,r1,by omega,by omega,fun j hj=>by omega,?_,fun j hj=>by omega,fun j hj=>by omega,fun _=>by omega⟩;simp_all [zk]
     all_goals simp_all
    .rw [if_neg h2] at qE
     have h2f:u0 v.kind 2=false:=by simp_all
     have BZ:bP v=true:=by simp_all
     have hR:jU v=true:=by
      grind [bP]
     unfold jU at hR;simp only [c9,y3,decide_eq_true_eq] at hR;obtain ⟨⟨_,ho8⟩,hc8⟩:=hR;split at qE
     .simp_all [o9]
     .rename_i h3
      have h3:I4 (nth (mB c k) (H9 c v.left k).toNat) RT v.on=0:=by simp_all [o9]
      have hpo:=Ig v.on h3;split at qE
      .simp_all
      .rename_i h4
       split at qE
       .omega
       .have hce:=GK (Z8 v) [] qE
        rw [hin] at hce;have hwh:Eg v.wh (QN c i++II c i).length:=by
         rcases Nat.eq_zero_or_pos v.wh.length with h0|h0
         all_goals grind [List.length_eq_zero_iff,zk,Nf,e0,F3,z8]
        refine ⟨?_,hlf,hrt,?_,?_⟩
        .rw [XQ]
         refine ⟨by omega,l1.2,r1,by omega,by omega,fun j hj=> ?_,hwh,fun j hj=> ?_,fun j hj=> ?_,fun h=>absurd h h2⟩
         .simp_all
         .have:=hce ⟨false,(nth v.items j).name, -1,(nth v.items j).expr⟩ (M1 _ (L6.2 ⟨_,S3 hj,rfl⟩))
          exact this
         .have:=hce ⟨true,(nth v.D2 j).name,(nth v.D2 j).func,(nth v.D2 j).expr⟩ (List.mem_append_right _ (L6.2 ⟨_,S3 hj,rfl⟩))
          exact this
        all_goals simp_all [if_neg,W8,absurd]
def ED (c:y4)(hv:N9 c=true){i:Nat}(hi:i<c.o7.length):(nth c.o7 i).p8.length<=8/\1<=(nth c.o7 i).p8.length:=by
 have h:=iu hv (i+1) i (by omega) (by grind [y4.ns]);simp_all [R3,nth,gy,if_pos,A1]
def ap0 {c:y4}(hs:Q2 c)(hv:N9 c=true){i:Nat}(hi:i<c.views.length):Zm c i (QN c i) (II c i):=by
 obtain ⟨ok,⟨l1,l2,l3⟩,hr,_,_⟩:=ab7 hv hi;have ek:y4.ns c=c.o7.length+c.views.length:=rfl;refine ⟨ok,?_,fun h=> ?_,fun h=> ?_,DJ ok⟩
 .have:=iu hv ((dY c (nth c.views i).left).toNat+1) (dY c (nth c.views i).left).toNat (by omega) (by omega)
  exact aa1 c hs _ l1 (by omega)
 .obtain ⟨r1,r2,r3⟩:=hr h
  have:=iu hv ((dY c (nth c.views i).right).toNat+1) (dY c (nth c.views i).right).toNat (by omega) (by omega);have e:II c i=plN c (nth c.views i).right:=by simp_all [II,if_neg]
  rw [e];exact aa1 c hs _ r1 (by omega)
 simp_all [II,if_pos]
def aP7 (l:List F1):Abs.Data:=A5 F1.enc l
def p47 (c:y4)(hs:Q2 c)(hv:N9 c=true)(ht:c.o7.length<=8)(hw:c.views.length<=8):Pf A 47 [cat c] (.d (aP7 (mS c))) :=
 aW0 c hs hv ht (fun _ hi=>(ED c hv hi).1) hw (QN c) (II c) fun _ hi=>ap0 hs hv hi
end Go.Proofs.YtibjocmpkoepoaaGreat
namespace Go.Abs.S
def adT {A:Prog}{l:F2}{b:Nat}{dr:Bool}{l6 ops:List p9}{T:List j3}{H:q8}{n:Nat}{rl:List j3}{p6:List Touch}{Q:List j3->q8->List j3->Prop}{x y:u9}{c d:Int}{u:List Nat}{s:Nat}{T2:List j3}
  (hx:rq T n rl x= .d (.int .i64 c):=by rfl) (hy:rq T n rl y= .d (.int .i64 d):=by rfl) (h0: -9223372036854775808<=c+d/\c+d<9223372036854775808:=by omega) (hs:T[s]?.isSome=true:=by rfl) (hT:T.set s (.d (.int .i64 (c+d)))=T2:=by simp only [C4,y6]<;>rfl)
  (h2:Ry A l b dr l6 ops T2 H (n+1) (.d (.int .i64 (c+d))::rl) (.slot s::p6) Q):Ry A l b dr l6 (⟨.bin .add x y,some s,none,u⟩::ops) T H n rl p6 Q :=
 Ry.ve (v:= .d (.int .i64 (c+d))) (rs:=[]) rfl (by simp only [o6,hx,hy,Er (Or.inl ⟨rfl,rfl⟩) h0.1 h0.2]) rfl rfl hs (by rw [hT];exact h2)
end Go.Abs.S
namespace Go.Proofs.YtibjocmpkoepoaaGreat
open Go.Abs Go.Abs.S
attribute [local irreducible] Rx Ry Rn Ex Pf
def Jp (c:y4):Nat->List Int
 |0=>[]
 |n+1=>Jp c n++[((R3 c n).length:Int)]
theorem oG (c:y4):∀ n,(Jp c n).length=n
 |0=>rfl
 |n+1=>by simp [Jp,oG c n]
theorem Jq (c:y4):∀ {n i},i<n->nth (Jp c n) i=((R3 c i).length:Int)
 |n+1,i,h=>by
  have hl:=oG c n
  rcases s5 i n with h1|h1
  .rw [<- Jq c h1,Jp,J9 (by simp;omega),J9 (by omega),List.getElem_append_left (by omega)]
  .obtain rfl:i=n:=by omega
   rw [Jp,J9 (by simp [hl]),List.getElem_append_right (by omega)];simp
def oF (c:y4):List Int:=Jp c (y4.ns c)
def aY6 (c:y4)(hs:Q2 c)(hv:N9 c=true):Pf A 57 [cat c] (.d (ints (oF c))):=by
 have ek:y4.ns c=c.o7.length+c.views.length:=rfl;obtain ⟨f0,f1,_⟩:=id hs.sm.qA;have e:ints (oF c)=A5 (fun n=>[num n]) (oF c):=by simp [ints,A5,List.flatMap_singleton']
 rw [e];refine Pf.run [cat c,.any,.any,.any,.any,.any,.any] rfl rfl rfl rfl ?_
 repeat' (first|refine adT (h2:= ?_)|refine gx ?_|fail)
 refine Ex.N5 (fun k T H=>∃ (i:Nat) (w0 w2 w4:j3),T=[w0,.ptr 0 0,w2,C9 1 (fun n=>[num n]) (Jp c i),w4,.d (num (c.o7.length+c.views.length)),.d (num i)]/\H=[.cells (c.enc.map .d)]/\i+k=y4.ns c) (by rintro _ _ _ ⟨_,_,_,_,rfl,rfl,_⟩;rfl) ?_ (k:=y4.ns c) ⟨0,_,_,_,rfl,rfl,by simp⟩;rintro k _ _ ⟨i,w0,w2,w4,rfl,rfl,hk⟩;have QJ:=oG c i;refine Ex.nT ?_;refine Ex.seq ?_;refine tb (F3 i ((c.o7.length:Int)+c.views.length)) (fun h2=> ?_) (fun h2=> ?_)
 .have h3:=C6 h2
  have hi:bJ c (i:Int)=true:=by
   unfold bJ;rw [hv];simp [y3,z8];omega
  have p1:=aa2 c hs (i:Int) hi;rw [Int.toNat_natCast] at p1
  repeat' (first|refine cl (p1) ?_|refine ap1 (enc:=fun n=>[num n]) (a:=((R3 c i).length:Int)) (h2:= ?_)|refine gx ?_|fail)
  exact ⟨k - 1,by omega,i+1,_,_,_,rfl,rfl,by omega⟩
 .have h3:=C5 h2
  obtain rfl:i=y4.ns c:=by omega
  refine gr ?_;exact ⟨_,rfl,rfl⟩
def iU (w:List Int)(p:K5):Bool:=aF 0 p.1&&(F3 p.1 w.length&&(aF 0 p.2&&F3 p.2 (nth w p.1.toNat)))
def aY5 (w:List Int)(p:K5)(hw:w.length<=1000000):Pf A 56 [.d (ints w),RV p] (.d (.bool (iU w p))):=by
 refine Pf.run [.d (ints w),RV p,.any,.any] rfl rfl rfl rfl ?_;unfold RV
 repeat' (first|refine gx ?_|refine fk (h1:=fun hw=> ?_) (h2:=fun hw=> ?_)|refine U0 (h1:=fun hw=> ?_) (h2:=fun hw=> ?_)|refine Ex.O6 ?_|refine Ex.O8 ?_|refine Ex.cond rfl (fun ht=> ?_) (fun ht=> ?_)|refine Ex.test (Rn.text ?_)|refine Ex.test (Rn.draw ?_)|refine ⟨_,rfl,fun ht=> ?_,fun ht=> ?_⟩|refine ⟨_,rfl,?_⟩|fail)
 all_goals simp_all [j9,iU]
def Fa (p:K5):Key:= .st [.i .i64 p.1,.i .i64 p.2]
def gq (S:List K5):List (Key×j3):=S.map fun p=>(Fa p,.d (.bool true))
def Fb (p q:K5):Data.aW (.st [.i,.i]) (Fa p) (Fa q)=some (decide (p=q)):=by
 obtain ⟨a,b⟩:=p;obtain ⟨c,d⟩:=q;have e:(decide ((a,b)=(c,d)))=(a==c&&(b==d&&true)):=by
  rw [Bool.eq_iff_iff];simp
 rw [e];rfl
theorem Da (p:K5):∀ S,aQ (.st [.i,.i]) (Fa p) (gq S)=some (if p ∈ S then some (.d (.bool true)) else none)
 |[]=>rfl
 |q::S=>by
  have ih:=Da p S;simp only [gq,E0,aQ,Fb] at ih ⊢
  by_cases h:p=q
  .simp [h]
  .simp only [h,decide_false,ih,y7,false_or]
def TX (p:K5)(S:List K5):((if p ∈ S then some (j3.d (.bool true)) else none).getD (.d (.bool false)))= .d (.bool (decide (p ∈ S))):=by
 by_cases h:p ∈ S<;>simp [h]
theorem zQ (p:K5):∀ S,bK (.st [.i,.i]) (Fa p) (.d (.bool true)) (gq S)=some (gq (qc S p))
 |[]=>rfl
 |q::S=>by
  have ih:=zQ p S;simp only [gq,E0,bK,Fb] at ih ⊢
  by_cases h:p=q
  .subst h
   simp [qc]
  .simp only [h,decide_false,ih]
   unfold qc
   by_cases h2:p ∈ S
   .simp [h2]
   .simp [h2,h]
def CU (p:K5):Data.aW (.st [.i,.i]) (Fa p) (Fa p)=some true:=by rw [Fb];simp
def HN (S:List K5):(x9.map (gq S)).L7=0:=by
 have:∀ S:List K5,B8 ((gq S).map (·.2))=0:=fun S=>by
  induction S with
  |nil=>rfl
  |cons q S ih=>simpa [gq,B8,j3.L7] using ih
 exact this S
theorem Cr (p:K5):∀ (l S:List K5),kz S (l++[p])=qc (kz S l) p
 |[],_=>rfl
 |q::l,S=>by rw [B7,kz,Cr p l,kz]
theorem Di (f:F1):∀ (fs:List F1) (S:List K5),pass S (fs++[f])=Z4 (pass S fs) f
 |[],_=>rfl
 |g::fs,S=>by rw [B7,pass,Di f fs,pass]
def Sv {fs:List F1}{S:List K5}{n:Nat}(h:fc fs S<n)(hp:(pass S fs).length=S.length):Gf fs n S=pass S fs:=by
 obtain ⟨n,rfl⟩:∃ m,n=m+1:=⟨n - 1,by omega⟩;rw [Gf,if_pos hp,((th fs S).2 hp).1]
def Sw {fs:List F1}{S:List K5}{n:Nat}(h:fc fs S<n)(hp:(pass S fs).length≠S.length):∃ m,n=m+1/\Gf fs n S=Gf fs m (pass S fs)/\fc fs (pass S fs)<m:=by
 obtain ⟨n,rfl⟩:∃ m,n=m+1:=⟨n - 1,by omega⟩;obtain ⟨f,hf,h1,h2⟩:=Ak fs S hp;have:=ta (fun q hq=>od fs hq) hf h1 h2;exact ⟨n,rfl,by rw [Gf,if_neg hp],by omega⟩
def RD {S:List K5}{f:F1}(h:(decide (f.src ∈ S)&& !decide (f.dst ∈ S))=true):Z4 S f=qc S f.dst/\(qc S f.dst).length=S.length+1:=by
 simp at h;unfold Z4 qc;simp [h]
def IW {S:List K5}{f:F1}(h:(decide (f.src ∈ S)&& !decide (f.dst ∈ S))=false):Z4 S f=S:=by
 unfold Z4;rw [if_neg];intro hc;simp [hc.1,hc.2] at h
set_option maxHeartbeats 0 in
def aW1 {H0:q8}(hH:(∃ a,H0=[a])\/(∃ a b,H0=[a,b])\/(∃ a b d,H0=[a,b,d])\/(∃ a b d e,H0=[a,b,d,e])\/∃ a b d e f,H0=[a,b,d,e,f])(h0:R7 H0=0)(fs:List F1)(l:List K5)(CJ:fs.length<=1000000)(hl:l.length<=1000000) :
  Pm A 61 [.d (A5 F1.enc fs),.d (T6 l)] H0 Y8 (.map H0.length) (H0++[.map (gq (xL fs l))]):=by
 have key:Pq A 61 [.d (A5 F1.enc fs),.d (T6 l)] H0 Y8 fun v H1=>v= .map H0.length/\H1=H0++[.map (gq (xL fs l))]:=by
  have hcl:∀ (T:List j3) (S:List K5) (r:q8) (mask:List Bool),B8 (V8 mask T)<=H0.length+1->clean mask 0 (H0.length+1) ⟨T,H0++[.map (gq S)]++r⟩=⟨V8 mask T,H0++[.map (gq S)]⟩:=by
   intro T S r mask hT;have e:(H0++[x9.map (gq S)]++r).take (H0.length+1)=H0++[.map (gq S)]:=by
    have:H0.length+1=(H0++[x9.map (gq S)]).length:=by simp
    rw [this,List.take_left]
   rw [R8 hT ?_,e];rw [e,List.drop_zero];have hb:∀ H:q8,R7 (H++[.map (gq S)])=R7 H:=fun H=>by
    induction H with
    |nil=>simp [R7,HN]
    |cons a H ih=>simp only [B7,R7,ih]
   rw [hb,h0];exact N6 _
  let n0:=H0.length
  let hp:List K5->q8:=fun S=>H0++[.map (gq S)]
  rcases hH with ⟨a,rfl⟩|⟨a,b,rfl⟩|⟨a,b,d,rfl⟩|⟨a,b,d,e,rfl⟩|⟨a,b,d,e,f,rfl⟩
  all_goals
   refine Pq.run (b:=_) [.d (A5 F1.enc fs),.d (T6 l),.any,.any,.any,.any,.any,.any,.any,.any,.any,.any,.any] rfl rfl rfl rfl rfl ?_
   repeat' (first|refine mkm (h2:= ?_)|refine gx ?_|fail)
   refine Ex.X8 (fun k T H=>∃ i:Nat,T=[.d (A5 F1.enc fs),.any,.any,.map n0,.any,.any,.any,.d (T6 l),.d (num l.length),.d (num i),.any,.any,.any]/\H=hp (kz [] (l.take i))/\i+k=l.length) ?_ (k:=l.length) ⟨0,rfl,rfl,by simp⟩;rintro k _ _ ⟨i,rfl,rfl,hk⟩;simp only [hp,n0,B7,B9,q6,B0,Nat.reduceAdd];refine Ex.seq ?_;refine tb (F3 i l.length) (fun h2=> ?_) (fun h2=> ?_)
   .have h3:=C6 h2
    have e1:kz [] (l.take (i+1))=qc (kz [] (l.take i)) (nth l i):=by rw [K3 (by omega),Cr]
    repeat' (first|refine mp (zQ (nth l i) _) (CU _) (h2:= ?_)|refine gx ?_|fail)
    exact ⟨k - 1,by omega,_,_,hcl _ _ _ _ (k9 rfl),i+1,rfl,by rw [e1];rfl,by omega⟩
   have h3:=C5 h2;obtain rfl:i=l.length:=by omega
   rw [List.take_length];refine gr ?_;refine Ex.X8 (fun k T H=>∃ (g:Bool) (S:List K5),T=[.d (A5 F1.enc fs),.any,.any,.map n0,.any,.d (.bool g),.any,.any,.any,.any,.any,.any,.any]/\H=hp S/\(g=false->xL fs l=S)/\(g=true->∃ n,xL fs l=Gf fs n S/\fc fs S<n/\n<=k)) ?_ (k:=fs.length+1) ⟨true,_,rfl,rfl,by simp,fun _=>⟨_,rfl,by have:=zZ fs (kz [] l);omega,o5 _⟩⟩;rintro k _ _ ⟨g,S,rfl,rfl,hg1,hg2⟩;simp only [hp,n0,B7,B9,q6,B0,Nat.reduceAdd];cases g with
   |false =>
    refine Ex.seq ?_;refine tb (false) (fun h2=> ?_) (fun h2=> ?_)
    .cases h2
    refine gr ?_;exact ⟨_,_,rfl,rfl,by rw [hg1 rfl]⟩
   |true =>
    obtain ⟨n,e2,e3,e4⟩:=hg2 rfl;refine Ex.seq ?_;refine tb (true) (fun h2=> ?_) (fun h2=> ?_)
    .refine gr ?_
     refine Ex.X8 (fun m T H=>∃ (j:Nat) (g:Bool),T=[.d (A5 F1.enc fs),.any,.any,.map n0,.any,.d (.bool g),.any,.any,.any,.any,.d (A5 F1.enc fs),.d (num fs.length),.d (num j)]/\H=hp (pass S (fs.take j))/\j+m=fs.length/\g=decide ((pass S (fs.take j)).length≠S.length)) ?_ (k:=fs.length) ⟨0,false,rfl,rfl,by simp,by simp [pass]⟩;rintro m _ _ ⟨j,g,rfl,rfl,hm,hg⟩;simp only [hp,n0,B7,B9,q6,B0,Nat.reduceAdd];refine Ex.seq ?_;refine tb (F3 j fs.length) (fun h3=> ?_) (fun h3=> ?_)
     .have h4:=C6 h3
      have e5:pass S (fs.take (j+1))=Z4 (pass S (fs.take j)) (nth fs j):=by rw [K3 (by omega),Di]
      have e6:=(th (fs.take j) S).1;refine gr ?_;obtain ⟨f,hf⟩:∃ f,nth fs j=f:=⟨_,rfl⟩;obtain ⟨R,hR⟩:∃ R,pass S (fs.take j)=R:=⟨_,rfl⟩;rw [hf,hR] at e5;rw [hR] at e6 hg;rw [hf,hR];refine tB (decide (f.src ∈ R)&& !decide (f.dst ∈ R)) ?_ (fun h5=> ?_) (fun h5=> ?_)
      .repeat' (first|refine lqo ?_|refine lk1 (Da _ _) (TX _ _) ?_|refine gx ?_|refine fk (h1:=fun hw=> ?_) (h2:=fun hw=> ?_)|refine U0 (h1:=fun hw=> ?_) (h2:=fun hw=> ?_)|refine ⟨rfl,rfl,_,rfl,?_⟩|refine ⟨rfl,rfl⟩|fail)
       all_goals exact cc
      .obtain ⟨e7,e8⟩:=RD h5
       repeat' (first|refine lqo ?_|refine mp (zQ f.dst _) (CU _) (h2:= ?_)|refine gx ?_|fail)
       exact ⟨m - 1,by omega,_,_,hcl _ _ _ _ (k9 rfl),j+1,true,rfl,by rw [e5,e7];rfl,by omega,by rw [e5,e7];simp;omega⟩
      .refine gr ?_
       exact ⟨m - 1,by omega,_,_,hcl _ _ _ _ (k9 rfl),j+1,g,rfl,by rw [e5,IW h5];rfl,by omega,by rw [e5,IW h5];exact hg⟩
     .have h4:=C5 h3
      obtain rfl:j=fs.length:=by omega
      rw [List.take_length] at hg ⊢;refine gr ?_;refine ⟨k - 1,by omega,_,_,hcl _ _ _ _ (k9 rfl),g,pass S fs,rfl,rfl,fun h=> ?_,fun h=> ?_⟩
      .rw [e2,Sv e3]
       simpa [h] using hg
      .obtain ⟨n',rfl,e7,e8⟩:=Sw e3 (by simpa [h] using hg)
       exact ⟨n',by rw [e2,e7],e8,by omega⟩
    .cases h2
 obtain ⟨v,H1,⟨rfl,rfl⟩,h⟩:=key;exact h
end Go.Proofs.YtibjocmpkoepoaaGreat
namespace Go.Proofs.YtibjocmpkoepoaaGreat
open Go.Abs Go.Abs.S
def SG (c:y4):(mS c).length<=(Xc c).length:=yX _ _
attribute [local irreducible] Rx Ry Rn Ex Pf
theorem wD:∀ l:List K5,dg l=l.flatMap Y7
 |[]=>rfl
 |(a,b)::l=>by rw [dg,wD l];rfl
theorem wg:∀ S:List K5,rN (gq S)=some S
 |[]=>rfl
 |(a,b)::S=>by
  have ih:=wg S;simp only [gq,Fa] at ih;simp only [gq,E0,Fa,rN,ih]
def aW2 (H0:q8)(S:List K5)(hS:S.length<=1000000)(l:F2):Pm A 63 [.map H0.length] (H0++[.map (gq S)]) l (C9 2 Y7 (sortP S)) (H0++[.map (gq S)]):=by
 refine Pm.eF rfl ?_;have h:(H0++[x9.map (gq S)])[H0.length]? =some (.map (gq S)):=by simp
 simp only [yc,h,wg,hS,if_true,C9,pV,wD]
def MT (c:y4):(x9.cells (c.enc.map .d)).L7=0:=by simp [x9.L7,yH]
def Si (H0:q8)(S:List K5):R7 (H0++[.map (gq S)])=R7 H0:=by
 induction H0 with
 |nil=>simp [R7,HN]
 |cons a H ih=>simp only [B7,R7,ih]
def Mw {fs:List F1}{S:List K5}{f:F1}(hf:f ∈ fs):(Z4 S f).length+fc fs (Z4 S f)<=S.length+fc fs S:=by
 by_cases hc:f.src ∈ S/\f.dst ∉ S
 .have e:Z4 S f=S++[f.dst]:=by unfold Z4;rw [if_pos hc]
  have h:=ta (S:=S) (S' :=Z4 S f) (fun q hq=>DC hq) hf hc.2 (by rw [e];simp);have:(Z4 S f).length=S.length+1:=by rw [e];simp
  omega
 .have e:Z4 S f=S:=by unfold Z4;rw [if_neg hc]
  rw [e];omega
theorem Dh {fs:List F1}:∀ (gs:List F1) (S:List K5),(∀ g ∈ gs,g ∈ fs)->(pass S gs).length+fc fs (pass S gs)<=S.length+fc fs S
 |[],_,_=>o5 _
 |g::gs,S,h=>B5 (Dh gs (Z4 S g) fun x hx=>h x (List.mem_cons_of_mem _ hx)) (Mw (h g List.mem_cons_self))
theorem GH {fs:List F1}:∀ (n:Nat) (S:List K5),(Gf fs n S).length<=S.length+fc fs S
 |0,S=>Nat.le_add_right _ _
 |n+1,S=>by
  unfold Gf;split
  .exact Nat.le_add_right _ _
  .exact B5 (GH n _) (Dh fs S fun _ h=>h)
def An (fs:List F1)(l:List K5):(xL fs l).length<=l.length+fs.length:=by
 have h1:=GH (fs:=fs) (fs.length+1) (kz [] l);have h2:=Gu l [];have h3:=zZ fs (kz [] l);unfold xL;simp at h2;omega
def ze {c:y4}(hv:N9 c=true)(ht:c.o7.length<=8)(hw:c.views.length<=8):(mS c).length<=100000:=by
 have h1:=SG c;have hT:∀ k,k<=c.o7.length->(Ci c k).length<=64 * k:=fun k=>by
  induction k with
  |zero=>intro _;simp [Ci]
  |succ k ih =>
   intro hk;have:=ih (by omega);rw [Ci,n9];have h2:=(ED c hv (i:=k) (by omega)).1;have h3:=tq (nth c.o7 k).p8 (nth c.o7 k).p8.length;have h4:(tj c k).length<=8:=by unfold tj;rw [Int.toNat_natCast];omega
   have h5:=tN k (nth c.o7 k).p8.length (tj c k);have h6:(tj c k).length * (nth c.o7 k).p8.length<=8 * 8:=Nat.mul_le_mul h4 h2;split
   .omega
   .simp;omega
 have hV:∀ k,k<=c.views.length->(Ck c (QN c) (II c) k).length<=6000 * k:=fun k=>by
  induction k with
  |zero=>intro _;simp [Ck]
  |succ k ih =>
   intro hk;have:=ih (by omega);have h2:=DJ (ab7 hv (i:=k) (by omega)).ok ((c.o7.length:Int)+(k:Int));rw [Ck,n9];omega
 have h2:=hT _ (o5 _);have h3:=hV _ (o5 _);unfold Xc at h1;rw [n9] at h1;omega
set_option maxHeartbeats 0 in
def aj1 (c:y4)(hs:Q2 c)(hv:N9 c=true)(ht:c.o7.length<=8)(hw:c.views.length<=8)(l:List K5)(hl:l.length<=500000) :
  Pf A 23 [cat c,.d (T6 l)] (C9 2 Y7 (oh (mS c) (l.filter (iU (oF c))))):=by
 have p46:=aC0 c hs;rw [hv] at p46;have p57:=aY6 c hs hv;have p47:=p47 c hs hv ht hw;have QJ:(oF c).length<=16:=by unfold oF;rw [oG];have:y4.ns c=c.o7.length+c.views.length:=rfl;omega
 have hd:=ze hv ht hw;have hn:(xL (mS c) (l.filter (iU (oF c)))).length<=1000000:=B5 (An _ _) (by have:=List.length_filter_le (iU (oF c)) l;omega);obtain ⟨w,hwe⟩:∃ w,oF c=w:=⟨_,rfl⟩;rw [hwe] at p57 QJ hn ⊢;refine Pf.run [cat c,.d (T6 l),.any,.any,.any,.any,.any,.any,.any,.any] rfl rfl rfl rfl ?_;refine gr ?_;refine tB (!true) ?_ (fun h1=> ?_) (fun h1=> ?_)
 .repeat' (first|refine cl (p46) ?_|refine gx ?_|refine fk (h1:=fun hw=> ?_) (h2:=fun hw=> ?_)|refine U0 (h1:=fun hw=> ?_) (h2:=fun hw=> ?_)|refine ⟨rfl,rfl,_,rfl,?_⟩|refine ⟨rfl,rfl⟩|fail)
  all_goals exact cc
 .cases h1
 repeat' (first|refine Cv p57 ?_|refine gx ?_|fail)
 refine Ex.X8 (fun k T H=>∃ i:Nat,T=[.any,.any,.ptr 0 0,.any,C9 2 Y7 ((l.take i).filter (iU w)),.d (ints w),.any,.d (T6 l),.d (num l.length),.d (num i)]/\H=[.cells (c.enc.map .d)]/\i+k=l.length) ?_ (k:=l.length) ⟨0,rfl,rfl,by simp⟩;rintro k _ _ ⟨i,rfl,rfl,hk⟩;refine Ex.seq ?_;refine tb (F3 i l.length) (fun h2=> ?_) (fun h2=> ?_)
 .have h3:=C6 h2
  have e1:(l.take (i+1)).filter (iU w)=(l.take i).filter (iU w)++(if iU w (nth l i) then [nth l i] else []):=by
   rw [K3 (by omega),List.filter_append]
   congr 1
   simp only [List.filter_cons,List.filter_nil]
  have e2:((l.take i).filter (iU w)).length<=500000:=B5 (List.length_filter_le _ _) (by simp;omega);obtain ⟨acc,hacc⟩:∃ acc,(l.take i).filter (iU w)=acc:=⟨_,rfl⟩;refine gr ?_;obtain ⟨p,hp⟩:∃ p,nth l i=p:=⟨_,rfl⟩;rw [hacc,hp] at e1;rw [hacc] at e2;rw [hacc,hp];have p56:=aY5 w p (by omega);refine tB (iU w p) ?_ (fun h4=> ?_) (fun h4=> ?_)
  .repeat' (first|refine Cv p56 ?_|refine gx ?_|refine fk (h1:=fun hw=> ?_) (h2:=fun hw=> ?_)|refine U0 (h1:=fun hw=> ?_) (h2:=fun hw=> ?_)|refine ⟨rfl,rfl,_,rfl,?_⟩|refine ⟨rfl,rfl⟩|fail)
   all_goals exact cc
  .repeat' (first|refine oN (enc:=Y7) p ?_|refine apN (ys:=[p]) (h2:= ?_)|refine gx ?_|fail)
   exact ⟨k - 1,by omega,_,_,R8 (k9 rfl) (k9 rfl),i+1,by rw [e1,h4];rfl,rfl,by omega⟩
  .refine gr ?_
   exact ⟨k - 1,by omega,_,_,R8 (k9 rfl) (k9 rfl),i+1,by rw [e1,h4];simp;rfl,rfl,by omega⟩
 .have h3:=C5 h2
  obtain rfl:i=l.length:=by omega
  rw [List.take_length];have p61:=aW1 (H0:=[.cells (c.enc.map .d)]) (.inl ⟨_,rfl⟩) (by simp [R7,MT]) (mS c) (l.filter (iU w)) (by omega) (B5 (List.length_filter_le _ _) (by omega));have p63:=fun q=>aW2 [.cells (c.enc.map .d)] (xL (mS c) (l.filter (iU w))) hn q
  have hb:R7 ([.cells (c.enc.map .d)]++[.map (gq (xL (mS c) (l.filter (iU w))))])<=2:=by rw [Si];simp [R7,MT]
  repeat' (first|refine Cv p47 ?_|refine cp p61 (Nat.le_add_right _ _) ?_|refine c1 (p63 _) rfl ?_ (uu:=hb) (hcl:=iq hb)|refine gx ?_|fail)
  exact ⟨_,rfl,rfl⟩
def uL (p q:K5):Bool:=p.1==q.1&&(p.2==q.2&&true)
def SN (p q:K5):uL p q=true↔p=q:=by
 obtain ⟨a,b⟩:=p;obtain ⟨c,d⟩:=q;simp [uL]
def QA (l:List K5)(p:K5):Bool:=l.any fun q=>uL q p
def Nj {l:List K5}{p:K5}(h:p ∈ l):QA l p=true:=List.any_eq_true.2 ⟨p,h,(SN p p).2 rfl⟩
def aA5 (l:List K5)(p:K5)(hl:l.length<=9223372036854775807):Pf A 24 [.d (T6 l),RV p] (.d (.bool (QA l p))):=by
 refine Pf.run [.d (T6 l),RV p,.any,.any,.any] rfl rfl rfl rfl ?_;unfold RV;refine gr ?_;refine Ex.N5 (fun k T H=>∃ (i:Nat) (w1 w3:j3),T=[.d (T6 l),w1,.ptr 0 0,w3,.d (num i)]/\H=[.cells [.d (num p.1),.d (num p.2)]]/\i+k=l.length/\QA l p=QA (l.drop i) p) (by rintro _ _ _ ⟨_,_,_,rfl,rfl,_⟩;rfl) ?_ (k:=l.length) ⟨0,_,_,rfl,rfl,by simp,by simp⟩;rintro k _ _ ⟨i,w1,w3,rfl,rfl,hk,hi⟩;refine Ex.nT ?_;refine Ex.seq ?_;refine tb (F3 i l.length) (fun h2=> ?_) (fun h2=> ?_)
 .have h3:=C6 h2
  have e:QA (l.drop i) p=(uL (nth l i) p||QA (l.drop (i+1)) p):=by
   rw [D4 (by omega)];rfl
  refine gr ?_;refine tB (uL (nth l i) p) ?_ (fun h4=> ?_) (fun h4=> ?_)
  .repeat' (first|refine gx ?_|refine fk (h1:=fun hw=> ?_) (h2:=fun hw=> ?_)|refine U0 (h1:=fun hw=> ?_) (h2:=fun hw=> ?_)|refine ⟨rfl,rfl,_,rfl,?_⟩|refine ⟨rfl,rfl⟩|fail)
   all_goals first|(simp [*,j9,uL];done)|(simp_all [j9,uL];done)|(simp_all [j9,uL,z8,y3,o9,F8];done)|(simp_all [j9,uL,z8,y3,o9,F8]<;>omega)
  .refine gr ?_
   exact ⟨_,rfl,by rw [hi,e,h4];rfl⟩
  .refine gr ?_
   exact ⟨k - 1,by omega,i+1,_,_,rfl,rfl,by omega,by rw [hi,e,h4];rfl⟩
 .have h3:=C5 h2
  rw [n5 (by omega)] at hi;refine gr ?_;exact ⟨_,rfl,by rw [hi];rfl⟩
def aV9 (l:List K5)(hl:l.length<=9223372036854775807):Pf A 25 [.d (T6 l),.d (T6 l)] (.d (.bool true)):=by
 refine Pf.run [.d (T6 l),.d (T6 l),.any,.any] rfl rfl rfl rfl ?_;refine gr ?_;refine tB (false) ?_ (fun h1=> ?_) (fun h1=> ?_)
 .repeat' (first|refine gx ?_|refine fk (h1:=fun hw=> ?_) (h2:=fun hw=> ?_)|refine U0 (h1:=fun hw=> ?_) (h2:=fun hw=> ?_)|refine ⟨rfl,rfl,_,rfl,?_⟩|refine ⟨rfl,rfl⟩|fail)
  all_goals first|(simp [*,j9,o9];done)|(simp_all [j9,o9];done)|(simp_all [j9,o9,z8,y3,o9,F8];done)|(simp_all [j9,o9,z8,y3,o9,F8]<;>omega)
 .cases h1
 refine gr ?_;refine Ex.N5 (fun k T H=>∃ (i:Nat) (w2:j3),T=[.d (T6 l),.d (T6 l),w2,.d (num i)]/\H=[]/\i+k=l.length) (by rintro _ _ _ ⟨_,_,rfl,rfl,_⟩;rfl) ?_ (k:=l.length) ⟨0,_,rfl,rfl,by simp⟩;rintro k _ _ ⟨i,w2,rfl,rfl,hk⟩;refine Ex.nT ?_;refine Ex.seq ?_;refine tb (F3 i l.length) (fun h2=> ?_) (fun h2=> ?_)
 .have h3:=C6 h2
  refine gr ?_;refine tB (false) ?_ (fun h4=> ?_) (fun h4=> ?_)
  .repeat' (first|refine gx ?_|refine fk (h1:=fun hw=> ?_) (h2:=fun hw=> ?_)|refine U0 (h1:=fun hw=> ?_) (h2:=fun hw=> ?_)|refine ⟨rfl,rfl,_,rfl,?_⟩|refine ⟨rfl,rfl⟩|fail)
   all_goals first|(simp [*,j9,uL];done)|(simp_all [j9,uL];done)|(simp_all [j9,uL,z8,y3,o9,F8];done)|(simp_all [j9,uL,z8,y3,o9,F8]<;>omega)
  .cases h4
  .refine gr ?_
   exact ⟨k - 1,by omega,i+1,_,rfl,rfl,by omega⟩
 .have h3:=C5 h2
  refine gr ?_;exact ⟨_,rfl,rfl⟩
end Go.Proofs.YtibjocmpkoepoaaGreat
namespace Go.Proofs.YtibjocmpkoepoaaGreat
open Go.Abs Go.Abs.S Go.Abs.Sh
attribute [local irreducible] Rx Ry Rn Ex Pf
def Qj {c:y4}{s:Nat}(h:s<c.o7.length):(R3 c s).length=(nth c.o7 s).p8.length:=by
 unfold R3 gy;rw [if_pos h,A1]
def HB {c:y4}{s j:Nat}(h:s<c.o7.length)(hj:j<(nth c.o7 s).p8.length):iU (oF c) ((s:Int),(j:Int))=true:=by
 have ek:y4.ns c=c.o7.length+c.views.length:=rfl;have h1:=Jq c (n:=y4.ns c) (i:=s) (by omega);have h2:=oG c (y4.ns c);rw [Qj h] at h1;unfold iU oF;simp only [y3,z8,Int.toNat_natCast,h1,h2,c9,decide_eq_true_eq];omega
section
variable [Inhabited xy]
set_option maxHeartbeats 0 in
def lf5 {xs:List Int}(hx:xs.length<=17592186043904):Pf A 5 [.d (ints xs)] (.d (.bool true)):=by
 have _:Inhabited xy:=inferInstance;obtain ⟨ca,c,q0,q,hB,p12,p14,p13,hq⟩:=ae4 hx (n:=4) (.inr rfl);have hv:=hB.val;have hs:=hB.sm;obtain ⟨t1,t3,_⟩:=hB.o7;obtain ⟨v4,_⟩:=hB.views;refine Pf.run [.d (ints xs),.any,.any,.any,.any,.any,.any,.any,.any,.any,.any,.any] rfl rfl rfl rfl ?_;obtain ⟨v,H1,⟨i0,q1,rfl,hi0,hi1,_,hq1,rfl⟩,pN⟩:=NL xs 0 [] (.inl ⟨rfl,rfl⟩) q 3 l1 (by omega) hq (by omega) rfl;have hi1:=hi1 (by omega);simp only [B9] at pN
 repeat' (first|refine cp p12 (N6 _) ?_|refine c0 p14 rfl (h2:= ?_)|refine c0 p13 rfl (h2:= ?_)|refine c0 pN rfl (h2:= ?_)|refine gx ?_|fail)
 show Ex A Y8 0 _ ⟨[.d (ints xs),.d (.bool false),.ptr 0 0,.ptr 1 0,.own 2 0 [],.d (num i0),.any,.any,.any,.any,.any,.any],[tp xs q1,.cells (c.enc.map .d)]⟩ _
 refine Ex.N5 (fun k T H=>∃ (i:Int) (q:Nat) (a:List K5) (w0 w1 w6:j3),T=[w0,w1,.ptr 0 0,.ptr 1 0,C9 2 Y7 a,.d (num i),w6,.any,.any,.any,.any,.any]/\H=[tp xs q,.cells (c.enc.map .d)]/\q<=4 * xs.length/\ -1<=i/\i+1=(k:Int)/\a.length+k<=3/\∀ p ∈ a,iU (oF c) p=true) (by rintro _ _ _ ⟨_,_,_,_,_,_,rfl,rfl,_⟩;rfl) ?_ (k:=(i0+1).toNat) ⟨i0,q1,[],_,_,_,rfl,rfl,hq1,by omega,by omega,by simp;omega,by simp⟩;clear hq1 pN hi0 hi1 hq p13 p14;rintro k _ _ ⟨i,q,a,w0,w1,w6,rfl,rfl,hq,hi,hik,hak,hpa⟩;refine Ex.nT ?_;refine Ex.seq ?_;refine tb (aF 0 i) (fun h1=> ?_) (fun h1=> ?_)
 .have h2:=nV h1
  obtain ⟨v,H1,⟨s,q2,rfl,hs0,hs1,hs2,WR,rfl⟩,pN⟩:=NL xs 0 [] (.inl ⟨rfl,rfl⟩) q c.o7.length l1 (by omega) hq (by omega) rfl;simp only [B9] at pN;have hs3:s<c.o7.length:=by
   by_cases h:(2:Int)<=c.o7.length
   .exact hs1 h
   .have:=hs2 (by omega);omega
  obtain ⟨s,rfl⟩:∃ n:Nat,s=n:=⟨s.toNat,by omega⟩;have hcl:=ED c hv (i:=s) (by omega);obtain ⟨v,H1,⟨j,q3,rfl,hj0,hj1,hj2,hq3,rfl⟩,pN2⟩:=NL xs 0 [] (.inl ⟨rfl,rfl⟩) q2 (nth c.o7 s).p8.length l1 (by omega) WR (by omega) rfl;simp only [B9] at pN2;have hj3:j<(nth c.o7 s).p8.length:=by
   by_cases h:(2:Int)<=(nth c.o7 s).p8.length
   .exact hj1 h
   .have:=hj2 (by omega);omega
  obtain ⟨j,rfl⟩:∃ n:Nat,j=n:=⟨j.toNat,by omega⟩;have he:Y7 ((s:Int),(j:Int))=[num (s:Int),num (j:Int)]:=rfl
  repeat' (first|refine c0 pN rfl (HD:=[.cells (c.enc.map .d)]) (h2:= ?_)|refine c0 pN2 rfl (HD:=[.cells (c.enc.map .d)]) (h2:= ?_)|refine uw (cs:=(Y7 ((s:Int),(j:Int))).map .d) ?_|refine oN (enc:=Y7) ((s:Int),(j:Int)) ?_|refine apN (ys:=[((s:Int),(j:Int))]) (h2:= ?_)|refine gx ?_|fail)
  refine ⟨k - 1,by omega,i - 1,q3,a++[((s:Int),(j:Int))],_,_,_,rfl,rfl,hq3,by omega,by omega,by simp;omega,fun p hp=> ?_⟩
  rcases List.mem_append.1 hp with hp|hp
  .exact hpa p hp
  .rw [s6] at hp
   rw [hp];exact HB (by omega) (by omega)
 .have h2:=wm h1
  have p0:iU (oF c) ((0:Int),(0:Int))=true:=by
   have:=(ED c hv (i:=0) (by omega)).2;exact HB (s:=0) (j:=0) (by omega) (by omega)
  obtain ⟨b,hb⟩:∃ b,a++[((0:Int),(0:Int))]=b:=⟨_,rfl⟩;have hpb:∀ p ∈ b,iU (oF c) p=true:=fun p hp=>by
   rw [<- hb] at hp
   rcases List.mem_append.1 hp with hp|hp
   .exact hpa p hp
   .rw [s6] at hp
    rw [hp];exact p0
  have hbl:b.length<=4:=by rw [<- hb];simp;omega
  have hfa:a.filter (iU (oF c))=a:=List.filter_eq_self.2 hpa;have hfb:b.filter (iU (oF c))=b:=List.filter_eq_self.2 hpb;have hd:=ze hv (by omega) (by omega);have px:=aj1 c hs hv (by omega) (by omega) a (by omega);have py:=aj1 c hs hv (by omega) (by omega) b (by omega);rw [hfa] at px;rw [hfb] at py;have hxl:(oh (mS c) a).length<=200000:=by rw [oh,pV];have:=An (mS c) a;omega
  have hyl:(oh (mS c) b).length<=200000:=by rw [oh,pV];have:=An (mS c) b;omega
  have z0:((0:Int),(0:Int))=(0,0):=rfl
  repeat' (first|refine bsv [] ?_|refine alE (enc:=Y7) (ys:=a) (h2:= ?_)|refine uw (cs:=(Y7 ((0:Int),(0:Int))).map .d) ?_|refine oN (enc:=Y7) ((0:Int),(0:Int)) ?_|refine alN (enc:=Y7) (xs:=a) (ys:=[((0:Int),(0:Int))]) (h2:= ?_)|refine gx ?_|fail)
  rw [hb]
  repeat' (first|refine Cv px ?_|refine Cv py ?_|refine gx ?_|fail)
  have hXX:=Md (fs:=mS c) (l:=a) (iU (oF c)) hpa;have hax:∀ p ∈ a,p ∈ oh (mS c) a:=fun p hp=>nX.2 (.base hp)
  have hxy:∀ p ∈ oh (mS c) a,p ∈ oh (mS c) b:=fun p hp=>nX.2 ((nX.1 hp).mono fun q hq=> .base (by rw [<- hb];exact M1 _ hq))
  obtain ⟨X,hX⟩:∃ X,oh (mS c) a=X:=⟨_,rfl⟩;obtain ⟨Y,hY⟩:∃ Y,oh (mS c) b=Y:=⟨_,rfl⟩;rw [hX] at hXX hax hxy hxl;rw [hY] at hxy hyl;rw [hX,hY];have pz:=aj1 c hs hv (by omega) (by omega) X (by omega);rw [hXX] at pz;have p25:=aV9 X (by omega);clear px py hX hY hXX;refine Ex.N5 (fun k T H=>∃ (i:Nat) (w0 w1 w2 w5 w6 w7 mM:j3),T=[w0,w1,w2,.ptr 1 0,C9 2 Y7 a,w5,w6,w7,C9 2 Y7 X,C9 2 Y7 Y,.d (num i),mM]/\H=[tp xs q,.cells (c.enc.map .d)]/\i+k=a.length) (by rintro _ _ _ ⟨_,_,_,_,_,_,_,_,rfl,rfl,_⟩;rfl) ?_ (k:=a.length) ⟨0,_,_,_,_,_,_,_,rfl,rfl,by simp⟩;rintro k _ _ ⟨i,w0,w1,w2,w5,w6,w7,mM,rfl,rfl,hk⟩;refine Ex.nT ?_;refine Ex.seq ?_;refine tb (F3 i a.length) (fun g1=> ?_) (fun g1=> ?_)
  .have g2:=C6 g1
   have pH:=aA5 X (nth a i) (by omega);rw [Nj (hax _ (S3 (by omega)))] at pH;refine gr ?_;refine tB (false) ?_ (fun g3=> ?_) (fun g3=> ?_)
   .repeat' (first|refine cl (pH) ?_|refine gx ?_|refine fk (h1:=fun hw=> ?_) (h2:=fun hw=> ?_)|refine U0 (h1:=fun hw=> ?_) (h2:=fun hw=> ?_)|refine ⟨rfl,rfl,_,rfl,?_⟩|refine ⟨rfl,rfl⟩|fail)
    all_goals exact cc
   .cases g3
   refine gr ?_;exact ⟨k - 1,by omega,i+1,_,_,_,_,_,_,_,rfl,rfl,by omega⟩
  .refine gr ?_
   refine Ex.N5 (fun k T H=>∃ (i:Nat) (w0 w1 w2 w4 w5 w6 w7 oE:j3),T=[w0,w1,w2,.ptr 1 0,w4,w5,w6,w7,C9 2 Y7 X,C9 2 Y7 Y,oE,.d (num i)]/\H=[tp xs q,.cells (c.enc.map .d)]/\i+k=X.length) (by rintro _ _ _ ⟨_,_,_,_,_,_,_,_,_,rfl,rfl,_⟩;rfl) ?_ (k:=X.length) ⟨0,_,_,_,_,_,_,_,_,rfl,rfl,by simp⟩;rintro k _ _ ⟨i,w0,w1,w2,w4,w5,w6,w7,oE,rfl,rfl,hk⟩;refine Ex.nT ?_;refine Ex.seq ?_;refine tb (F3 i X.length) (fun g1=> ?_) (fun g1=> ?_)
   .have g2:=C6 g1
    have pH:=aA5 Y (nth X i) (by omega);rw [Nj (hxy _ (S3 (by omega)))] at pH;refine gr ?_;refine tB (false) ?_ (fun g3=> ?_) (fun g3=> ?_)
    .repeat' (first|refine cl (pH) ?_|refine gx ?_|refine fk (h1:=fun hw=> ?_) (h2:=fun hw=> ?_)|refine U0 (h1:=fun hw=> ?_) (h2:=fun hw=> ?_)|refine ⟨rfl,rfl,_,rfl,?_⟩|refine ⟨rfl,rfl⟩|fail)
     all_goals exact cc
    .cases g3
    refine gr ?_;exact ⟨k - 1,by omega,i+1,_,_,_,_,_,_,_,_,rfl,rfl,by omega⟩
   .repeat' (first|refine Cv pz ?_|refine cl (p25) ?_|refine cl (aY0) ?_|refine gx ?_|fail)
    exact ⟨_,rfl,rfl⟩
end
end Go.Proofs.YtibjocmpkoepoaaGreat


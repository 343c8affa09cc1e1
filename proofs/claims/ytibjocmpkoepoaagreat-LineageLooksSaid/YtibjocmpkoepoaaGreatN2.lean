import Derived.Test.YtibjocmpkoepoaaGreatN0
import Derived.Test.YtibjocmpkoepoaaGreatT2
set_option linter.all false
open Bool renaming and_eq_true→c7,false_eq_true→j4,not_eq_true'→p6,or_eq_false_iff→J3,true→W,false→F
open Int renaming toNat_natCast→J9
open List renaming append_assoc→D3,cons_append→A8,drop_of_length_le→n9,getElem_of_mem→R3,length_append→n5,length_cons→p8,length_map→A7,length_nil→y9,map_cons→K0,mem_append→D7,mem_append_left→K8,mem_cons→B6,mem_map→J4,mem_singleton→q8,nil_append→B3,pairwise_cons→M7,replicate→c9,set_cons_succ→r9,set_cons_zero→s4,take_length→H8,take_of_length_le→z7,length→O
open Nat renaming add_assoc→O8,le_of_ble_eq_true→j9,le_refl→l6,le_trans→C9,lt_or_ge→A5,zero_le→O0
open Option renaming some→J,none→K
namespace Go.Proofs.YtibjocmpkoepoaaGreat
open Go.A1 Go.A1.S
attribute [local irreducible] Rx Ry Rn Ex Pf
mutual
theorem Od {ty:List Int}:∀a:bS,a.wf->u7 (a.typ ty).2 0=W->∀t,t∈a.flat->u7 t.op 2=W->0<=t.col/\t.col<O ty
 | .node t l,hw,h,t',ht',h2=>by
  obtain ⟨hok,har,Dv⟩:=hw;simp [bS.typ] at h;split at h
  next h1=>
   simp [bS.flat,B6] at ht'
   rcases ht' with rfl|ht'
   .have e1:u7 t'.op 1=F:=by simp_all [o8]
    simp [EN,e1,h2,if_true,j4,if_false] at h;split at h
    all_goals simp_all [o8,Am,Bool.not_eq_true,BV,fc,if_true,j4,if_false,c7,qo]
   .exact HY l Dv h1 t' ht' h2
  simp_all
theorem HY {ty:List Int}:∀l:List bS,wfL l->u7 (jv ty l).2 0=W->∀t,t∈P6 l->u7 t.op 2=W->0<=t.col/\t.col<O ty
 |[],_,_,t,h,_=>by simp [P6] at h
 |a::l,hw,h,t,ht,h2=>by
  simp [jv] at h;split at h
  next h1=>
   simp [P6,D7] at ht
   rcases ht with ht|ht
   .exact Od a hw.1 h1 t ht h2
   .exact HY l hw.2 h t ht h2
  simp_all
end
theorem SC {e:List Y8}{ty:List Int}(h:u7 (O6 e ty).2 0=W):FT e (O ty):=by
 unfold O6 at h;split at h
 .simp [o8] at h
 next a ha=>
  split at h
  .obtain ⟨e1,e2,e3⟩:=AM ha
   have hb:Z4 e=W:=by grind [iO]
   refine ⟨?_,.inl hb,λx hx=>?_⟩
   .grind [Z4,s8]
   .obtain ⟨t,ht,h1,rfl⟩:=WT hx
    rw [e1] at ht;exact Od a e2 h t ht h1
  grind [o8]
theorem Df (n:Nat):FT [] n:=⟨U,.inr rfl,λx hx=>by simp_all [GK]⟩
theorem LK {ty:List Int}:∀(l:List Gz) (seen:List M3),aP ty seen l=0->∀e,e∈l->FT e.expr (O ty)
 |[],_,_,e,he=>by cases he
 |a::l,seen,h,e,he=>by
  have ih:=LK (ty:=ty) l (seen++[a.name]);unfold aP at h;split at h
  .omega
  .split at h
   .omega
   .split at h
    .omega
    .split at h
     .rcases B6.1 he with rfl|he
      all_goals simp_all [c7,Bool.true_and,Bool.or_eq_true,not_or,s9,decide_eq_true_eq,List.length_eq_zero_iff,Df]
     grind [o8,SC]
theorem Nb {l r:List Int}:∀(on:List (Int×Int)),Q7 l r on=0->∀i,i<O on->0<=(Y on i).1/\(Y on i).1<O l/\0<=(Y on i).2/\(Y on i).2<O r
 |[],_,i,hi=>by simp at hi
 |p::ps,h,i,hi=>by
  unfold Q7 at h;split at h
  .omega
  next h1=>
   split at h
   .omega
   .simp [s7,s8] at h1
    cases i with
    |zero =>
     grind [E6]
    |succ i =>
     have h2:i<O ps:=M
     have:=Nb ps h i h2;simp_all [E6]
theorem JD {c:s5}(hv:F0 c=W){s:M3}{k:Nat}(h:0<=I4 c s k):bY c s=I4 c s k/\Y2 c (bY c s)=W:=by
 have e1:bY c s=Dp c s:=(Ze c s).symm;have hl:=aK c;have e2:Dp c s=I4 c s k:=by
  unfold Dp
  grind [I4,z7,He]
 grind [M4,Y2,s8,s9]
def plN (c:s5)(s:M3):List C7:=ue (bY c s) (O (P4 c (bY c s).toNat))
def Ao (c:s5)(i:Nat):List C7:=plN c (Y c.views i).left
def pU (c:s5)(i:Nat):List C7:=if P8 (Y c.views i).right [] then [] else plN c (Y c.views i).right
def lS (c:s5):List A3:=kr c (O c.k9)++xD c (Ao c) (pU c) (O c.views)
def dc (c:s5):List A3:=dH (bH (lS c)) (O (lS c))
def BY (c:s5)(s:M3):O (plN c s)=O (P4 c (bY c s).toNat):=dO _ _
def YI {v:Vw}{L R:List C7}(h:Jd v L R):O (Jq v L R)<=600:=by
 have h1:=qX v.wh (L++R);have h2:=h.wh.len;have h3:=JW v L R (O v.on);have h4:=h.on8;have h5:=h.s6;have h6:=uU (i6:=nE v (L++R) (O v.items)) (λd hd=>CW h.it h.ag d (K8 _ hd))
 grind [nE,Jq,n5,p8,y9]
def Ia {v:Vw}{L R:List C7}(h:Jd v L R)(s:Int):O (mF s v L R)<=6000:=by
 unfold mF;split
 .have:=EV s L R (O L)
  have:=h.l8;omega
 .have h1:=YI h
  have h2:O (tM v (L++R))<=8:=by have:=h.s6;grind [tM,nE,Js]
  have h3:=DZ s (tM v (L++R)) (Jq v L R) (λi hi=>CW h.it h.ag _ (N8 hi)) _ (l6 _);have h4:O (tM v (L++R)) * (64+O (Jq v L R))<=8 * 664:=Nat.mul_le_mul h2 V;omega
structure bI8 (c:s5)(i:Nat):Prop where
 ok:Jd (Y c.views i) (Ao c i) (pU c i)
 lf:Y2 c (bY c (Y c.views i).left)=W/\0<=bY c (Y c.views i).left/\bY c (Y c.views i).left<O c.k9+i
 rt:P8 (Y c.views i).right []=F->Y2 c (bY c (Y c.views i).right)=W/\0<=bY c (Y c.views i).right/\bY c (Y c.views i).right<O c.k9+i
 nu:u7 (Y c.views i).kind 2=F->O (P4 c (O c.k9+i))=O (Y c.views i).items+O (Y c.views i).F4
 un:u7 (Y c.views i).kind 2=W->O (P4 c (O c.k9+i))=O (Ao c i)
def Ib {c:s5}(hv:F0 c=W){i:Nat}(hi:i<O c.views):bI8 c i:=by
 obtain ⟨h1,_,h3⟩:=xC hv;have gY:s5.ns c=O c.k9+O c.views:=rfl;have hnl:=iH c;have Ai:=fh (h1 (O c.k9+i) V) V V;obtain ⟨k,hk⟩:∃k,O c.k9+i=k:=⟨_,rfl⟩;have ev:Z2 c k=Y c.views i:=by grind [Z2,Nat.add_sub_cancel_left]
 have hg:∀q,q<k->1<=O (P4 c q)/\O (P4 c q)<=8:=λq hq=>by
  grind [aM]
 rw [hk] at Ai;unfold Y6 lT rT at Ai;rw [ev] at Ai;obtain ⟨v,hvd⟩:∃v,Y c.views i=v:=⟨_,rfl⟩;rw [hvd] at Ai ev;split at Ai
 .omega
 .split at Ai
  .omega
  next hl=>
   split at Ai
   .omega
   next hsh=>
    simp only [Bool.not_eq_true,J3] at hl;have f1:=B5 hl.1;have f2:P8 v.right []=F->0<=I4 c v.right k:=λh=>by
     simp_all [Bool.not_false,Bool.true_and,B5]
    have b1:=M4 c v.left k;have b2:=M4 c v.right k;obtain ⟨g1,g2⟩:=JD hv f1;have hlf:Y2 c (bY c v.left)=W/\0<=bY c v.left/\bY c v.left<(O c.k9:Int)+i:=⟨g2,V,V⟩;have hrt:P8 v.right []=F->Y2 c (bY c v.right)=W/\0<=bY c v.right/\bY c v.right<(O c.k9:Int)+i:=λh=>by
     grind [JD]
    have el:Ao c i=plN c v.left:=by simp_all [Ao]
    have er:pU c i=if P8 v.right [] then [] else plN c v.right:=by simp_all [pU]
    have ll:O (Ao c i)=O (P4 c (I4 c v.left k).toNat):=by rw [el,BY,g1]
    have lr:P8 v.right []=F->O (pU c i)=O (P4 c (I4 c v.right k).toNat):=λh=>by
     rw [er,h,if_neg U,BY,(JD hv (f2 h)).1]
    have lr0:P8 v.right []=W->pU c i=[]:=λh=>M
    have l1:=hg (I4 c v.left k).toNat V;have r1:O (pU c i)<=8:=by
     grind
    have eL:Y (qc c k) (I4 c v.left k).toNat=P4 c (I4 c v.left k).toNat:=X5 c V;have eR:O (if P8 v.right [] then [] else Y (qc c k) (I4 c v.right k).toNat)=O (pU c i):=by
     cases h:P8 v.right [] with
     |true=>simp_all
     |false =>
      have:=f2 h;rw [lr h,if_neg U,X5 c V]
    have hin:O (ins c k)=O (Ao c i++pU c i):=by
     unfold ins Dx;rw [show Y c.views (k - O c.k9)=v from ev,n5,eL,eR,n5,ll]
    have ect:P4 c k=if u7 v.kind 2 then Y (qc c k) (I4 c v.left k).toNat else bA v (ins c k):=by
     grind [P4,jt,ins,Y]
    rw [<- hvd] at hlf hrt;rw [<- ll] at l1;have ht0:(O (Y (qc c k) (I4 c v.left k).toNat):Nat)=O (Ao c i):=by rw [eL,ll]
    obtain ⟨RT,hRT⟩:∃RT,(if P8 v.right [] then [] else Y (qc c k) (I4 c v.right k).toNat)=RT:=⟨_,rfl⟩;rw [hRT] at Ai eR
    by_cases h2:u7 v.kind 2=W
    .rw [if_pos h2] at Ai
     have ay6:cn v=W:=M
     unfold cn at ay6;rw [if_pos h2] at ay6;simp only [c7,p6,o8,decide_eq_true_eq,beq_iff_eq] at ay6;have hon:O v.on=0:=V
     have hit:O v.items=0:=V
     have hag:O v.F4=0:=V
     have vN:O (Ao c i)=O (pU c i):=by
      rw [<- ht0,<- eR];refine Decidable.byContradiction λhne=>?_
      simp_all [tD]
     refine ⟨?_,hlf,hrt,?_,?_⟩
     .rw [hvd]
      refine ⟨V,l1.2,r1,V,V,λj hj=>V,?_,λj hj=>V,λj hj=>V,λ_=>V⟩;simp_all [Df]
     all_goals simp_all
    .rw [if_neg h2] at Ai
     have h2f:u7 v.kind 2=F:=M
     have ay6:cn v=W:=M
     have hR:mV v=W:=by
      grind [cn]
     unfold mV at hR;simp only [c7,s8,decide_eq_true_eq] at hR;obtain ⟨⟨_,ho8⟩,hc8⟩:=hR;split at Ai
     .simp_all [o8]
     next h3=>
      have h3:Q7 (Y (qc c k) (I4 c v.left k).toNat) RT v.on=0:=by simp_all [o8]
      have hpo:=Nb v.on h3;split at Ai
      .simp_all
      next h4=>
       split at Ai
       .omega
       .have hce:=LK (dK v) [] Ai
        rw [hin] at hce;have hwh:FT v.wh (O (Ao c i++pU c i)):=by
         rcases Nat.eq_zero_or_pos (O v.wh) with h0|h0
         all_goals grind [List.length_eq_zero_iff,Df,SC,e0,F6,s9]
        refine ⟨?_,hlf,hrt,?_,?_⟩
        .rw [hvd]
         refine ⟨V,l1.2,r1,V,V,λj hj=>?_,hwh,λj hj=>?_,λj hj=>?_,λh=>absurd h h2⟩
         .simp_all
         .have:=hce ⟨F,(Y v.items j).name, -1,(Y v.items j).expr⟩ (K8 _ (J4.2 ⟨_,N8 hj,rfl⟩))
          exact this
         .have:=hce ⟨W,(Y v.F4 j).name,(Y v.F4 j).func,(Y v.F4 j).expr⟩ (List.mem_append_right _ (J4.2 ⟨_,N8 hj,rfl⟩))
          exact this
        all_goals simp_all [if_neg,bA,absurd]
def Qp (c:s5)(hv:F0 c=W){i:Nat}(hi:i<O c.k9):O (Y c.k9 i).s6<=8/\1<=O (Y c.k9 i).s6:=by
 have h:=aM hv (i+1) i V (by grind [s5.ns]);simp_all [P4,Y,jt,if_pos,A7]
def bd7 {c:s5}(hs:G4 c)(hv:F0 c=W){i:Nat}(hi:i<O c.views):aH6 c i (Ao c i) (pU c i):=by
 obtain ⟨ok,⟨l1,l2,l3⟩,hr,_,_⟩:=Ib hv hi;have gY:s5.ns c=O c.k9+O c.views:=rfl;refine ⟨ok,?_,λh=>?_,λh=>?_,Ia ok⟩
 .have:=aM hv ((bY c (Y c.views i).left).toNat+1) (bY c (Y c.views i).left).toNat V V
  exact aM5 c hs _ l1 V
 .obtain ⟨r1,r2,r3⟩:=hr h
  have:=aM hv ((bY c (Y c.views i).right).toNat+1) (bY c (Y c.views i).right).toNat V V;have e:pU c i=plN c (Y c.views i).right:=by simp_all [pU,if_neg]
  rw [e];exact aM5 c hs _ r1 V
 simp_all [pU,if_pos]
def ak (l:List A3):A1.Data:=C6 A3.enc l
def p47 (c:s5)(hs:G4 c)(hv:F0 c=W)(ht:O c.k9<=8)(hw:O c.views<=12):Pf A 47 [cat c] (.d (ak (dc c))) :=
 ca4 c hs hv ht (λ_ hi=>(Qp c hv hi).1) hw (Ao c) (pU c) λ_ hi=>bd7 hs hv hi
end Go.Proofs.YtibjocmpkoepoaaGreat
namespace Go.A1.S
def adT {A:Prog}{l:I7}{b:Nat}{dr:Bool}{l5 ops:List p7}{T:List c8}{H:q6}{n:Nat}{rl:List c8}{o9:List Touch}{Q:List c8->q6->List c8->Prop}{x y:y7}{c d:Int}{u:List Nat}{s:Nat}{T2:List c8}
  (hx:rq T n rl x= .d (.int .i64 c):=by rfl) (hy:rq T n rl y= .d (.int .i64 d):=by rfl) (h0: -9223372036854775808<=c+d/\c+d<9223372036854775808:=by omega) (hs:T[s]?.isSome=W:=by rfl) (hT:T.set s (.d (.int .i64 (c+d)))=T2:=by simp only [s4,r9]<;>rfl)
  (h2:Ry A l b dr l5 ops T2 H (n+1) (.d (.int .i64 (c+d))::rl) (.slot s::o9) Q):Ry A l b dr l5 (⟨.bin .add x y,J s,K,u⟩::ops) T H n rl o9 Q :=
 Ry.zi (v:= .d (.int .i64 (c+d))) (rs:=[]) rfl (by simp only [o7,hx,hy,Jg (Or.inl ⟨rfl,rfl⟩) h0.1 h0.2]) rfl rfl hs (by rw [hT];exact h2)
end Go.A1.S
namespace Go.Proofs.YtibjocmpkoepoaaGreat
open Go.A1 Go.A1.S
attribute [local irreducible] Rx Ry Rn Ex Pf
def Oo (c:s5):Nat->List Int
 |0=>[]
 |n+1=>Oo c n++[(O (P4 c n):Int)]
theorem gO (c:s5):∀n,O (Oo c n)=n
 |0=>rfl
 |n+1=>by simp [Oo,gO c n]
theorem Ot (c:s5):∀{n i},i<n->Y (Oo c n) i=(O (P4 c i):Int)
 |n+1,i,h=>by
  have hl:=gO c n
  rcases A5 i n with h1|h1
  .rw [<- Ot c h1,Oo,E6 D,E6 V,List.getElem_append_left V]
  .obtain rfl:i=n:=V
   rw [Oo,E6 (by simp [hl]),List.getElem_append_right V];simp
def Y1 (c:s5):List Int:=Oo c (s5.ns c)
def aB8 (c:s5)(hs:G4 c)(hv:F0 c=W):Pf A 57 [cat c] (.d (ints (Y1 c))):=by
 have gY:s5.ns c=O c.k9+O c.views:=rfl;obtain ⟨f0,f1,_⟩:=id hs.sm.oW;have e:ints (Y1 c)=C6 (λn=>[Z n]) (Y1 c):=by simp [ints,C6,List.flatMap_singleton']
 rw [e];refine Pf.go 6 ?_
 repeat' (first|refine adT (h2:=?_)|refine gx ?_|fail)
 refine Ex.T9 (λk T H=>∃(i:Nat),T=[.any,.ptr 0 0,.any,D9 1 (λn=>[Z n]) (Oo c i),.any,.d (Z (O c.k9+O c.views)),.d (Z i)]/\H=[.cells (c.enc.map .d)]/\i+k=s5.ns c) ?_ (k:=s5.ns c) ⟨0,rfl,rfl,U⟩;rintro k _ _ ⟨i,rfl,rfl,hk⟩;have Dv:=gO c i;refine Ex.seq ?_;refine tb (F6 i ((O c.k9:Int)+O c.views)) (λh2=>?_) (λh2=>?_)
 .have h3:=C4 h2
  have hi:Y2 c (i:Int)=W:=by
   unfold Y2;rw [hv];simp [s8,s9];omega
  have p1:=aM6 c hs (i:Int) hi;rw [J9] at p1
  repeat' (first|refine cl (p1) ?_|refine ap1 (enc:=λn=>[Z n]) (a:=(O (P4 c i):Int)) (h2:=?_)|refine gx ?_|fail)
  exact kk ⟨i+1,rfl,rfl,V⟩
 .have h3:=B5 h2
  obtain rfl:i=s5.ns c:=V
  refine gr ?_;exact ⟨_,rfl,rfl⟩
def aD (w:List Int)(p:C7):Bool:=cg 0 p.1&&(F6 p.1 (O w)&&(cg 0 p.2&&F6 p.2 (Y w p.1.toNat)))
def aB7 (w:List Int)(p:C7)(hw:O w<=1000000):Pf A 56 [.d (ints w),vA p] (.d (.bool (aD w p))):=by
 refine Pf.go 2 ?_;unfold vA
 repeat' (first|refine gy ?_|refine fq (λhw=>?_) λhw=>?_|refine ⟨_,rfl,?_⟩|fail)
 all_goals simp_all [j3,aD]
def Mv (p:C7):Key:= .st [.i .i64 p.1,.i .i64 p.2]
def cm (S:List C7):List (Key×c8):=S.map λp=>(Mv p,.d (.bool W))
theorem JN (p q:C7):Data.eM (.st [.i,.i]) (Mv p) (Mv q)=J (decide (p=q)):=by
 obtain ⟨a,b⟩:=p;obtain ⟨c,d⟩:=q;have e:(decide ((a,b)=(c,d)))=(a==c&&(b==d&&W)):=by
  grind
 rw [e];rfl
theorem tq (p:C7):∀S,cT (.st [.i,.i]) (Mv p) (cm S)=J (if p∈S then J (.d (.bool W)) else K)
 |[]=>rfl
 |q::S=>by
  have ih:=tq p S;simp [cm,K0,cT,JN] at ih ⊢
  grind
def DD (p:C7)(S:List C7):((if p∈S then J (c8.d (.bool W)) else K).getD (.d (.bool F)))= .d (.bool (decide (p∈S))):=by
 grind
theorem DE (p:C7):∀S,fu (.st [.i,.i]) (Mv p) (.d (.bool W)) (cm S)=J (cm (oP S p))
 |[]=>rfl
 |q::S=>by
  have ih:=DE p S
  grind [cm,fu,JN,oP,decide_false]
def Hg (p:C7):Data.eM (.st [.i,.i]) (Mv p) (Mv p)=J W:=by rw [JN];simp
def wM (S:List C7):(y6.map (cm S)).L7=0:=by
 have:∀S:List C7,C5 ((cm S).map (·.2))=0:=λS=>by
  induction S with
  |nil=>rfl
  |cons q S ih=>simp_all [cm,C5,c8.L7]
 exact this S
theorem GB (p:C7):∀(l S:List C7),fZ S (l++[p])=oP (fZ S l) p
 |[],_=>rfl
 |q::l,S=>by rw [A8,fZ,GB p l,fZ]
theorem Hw (f:A3):∀(fs:List A3) (S:List C7),pass S (fs++[f])=aB (pass S fs) f
 |[],_=>rfl
 |g::fs,S=>by rw [A8,pass,Hw f fs,pass]
def YA {fs:List A3}{S:List C7}{n:Nat}(h:dV fs S<n)(hp:O (pass S fs)=O S):mb fs n S=pass S fs:=by
 obtain ⟨n,rfl⟩:∃m,n=m+1:=⟨n - 1,V⟩;simp_all [mb,if_pos,rG]
def YB {fs:List A3}{S:List C7}{n:Nat}(h:dV fs S<n)(hp:O (pass S fs)≠O S):∃m,n=m+1/\mb fs n S=mb fs m (pass S fs)/\dV fs (pass S fs)<m:=by
 obtain ⟨n,rfl⟩:∃m,n=m+1:=⟨n - 1,V⟩;obtain ⟨f,hf,h1,h2⟩:=Ea fs S hp;have:=wQ (λq hq=>rH fs hq) hf h1 h2
 grind [mb]
def XC {S:List C7}{f:A3}(h:(decide (f.src∈S)&& !decide (f.dst∈S))=W):aB S f=oP S f.dst/\O (oP S f.dst)=O S+1:=by
 simp_all [aB,oP]
def NL {S:List C7}{f:A3}(h:(decide (f.src∈S)&& !decide (f.dst∈S))=F):aB S f=S:=by
 simp_all [aB,if_neg]
set_option maxHeartbeats 16000000 in
def ZS {H0:q6}(hH:(∃a,H0=[a])\/(∃a b,H0=[a,b])\/(∃a b d,H0=[a,b,d])\/(∃a b d e,H0=[a,b,d,e])\/∃a b d e f,H0=[a,b,d,e,f])(h0:P0 H0=0)(fs:List A3)(l:List C7)(BO:O fs<=1000000)(hl:O l<=1000000) :
  Pm A 61 [.d (C6 A3.enc fs),.d (J1 l)] H0 W8 (.map (O H0)) (H0++[.map (cm (og fs l))]):=by
 have key:Pq A 61 [.d (C6 A3.enc fs),.d (J1 l)] H0 W8 λv H1=>v= .map (O H0)/\H1=H0++[.map (cm (og fs l))]:=by
  have hcl:∀(T:List c8) (S:List C7) (r:q6) (mask:List Bool),C5 (V4 mask T)<=O H0+1->clean mask 0 (O H0+1) ⟨T,H0++[.map (cm S)]++r⟩=⟨V4 mask T,H0++[.map (cm S)]⟩:=by
   intro T S r mask hT;have e:(H0++[y6.map (cm S)]++r).take (O H0+1)=H0++[.map (cm S)]:=by
    have:O H0+1=O (H0++[y6.map (cm S)]):=U
    rw [this,List.take_left]
   rw [O3 hT ?_,e];rw [e,List.drop_zero];have hb:∀H:q6,P0 (H++[.map (cm S)])=P0 H:=λH=>by
    induction H with
    |nil=>simp [P0,wM]
    |cons a H ih=>simp only [A8,P0,ih]
   rw [hb,h0];exact O0 _
  let n0:=O H0
  let hp:List C7->q6:=λS=>H0++[.map (cm S)]
  rcases hH with ⟨a,rfl⟩|⟨a,b,rfl⟩|⟨a,b,d,rfl⟩|⟨a,b,d,e,rfl⟩|⟨a,b,d,e,f,rfl⟩
  all_goals
   refine Pq.run (b:=_) [.d (C6 A3.enc fs),.d (J1 l),.any,.any,.any,.any,.any,.any,.any,.any,.any,.any,.any] rfl rfl rfl rfl rfl ?_
   repeat' (first|refine mkm (h2:=?_)|refine gx ?_|fail)
   refine Ex.au (λk T H=>∃i:Nat,T=[.d (C6 A3.enc fs),.any,.any,.map n0,.any,.any,.any,.d (J1 l),.d (Z (O l)),.d (Z i),.any,.any,.any]/\H=hp (fZ [] (l.take i))/\i+k=O l) ?_ (k:=O l) ⟨0,rfl,rfl,U⟩;rintro k _ _ ⟨i,rfl,rfl,hk⟩;simp only [hp,n0,A8,B3,p8,y9,Nat.reduceAdd];refine Ex.seq ?_;refine tb (F6 i (O l)) (λh2=>?_) (λh2=>?_)
   .have h3:=C4 h2
    have e1:fZ [] (l.take (i+1))=oP (fZ [] (l.take i)) (Y l i):=by rw [E2 V,GB]
    repeat' (first|refine mp (DE (Y l i) _) (Hg _) (h2:=?_)|refine gx ?_|fail)
    exact kk ⟨_,_,hcl _ _ _ _ (j9 rfl),i+1,rfl,by rw [e1];rfl,V⟩
   have h3:=B5 h2;obtain rfl:i=O l:=V
   rw [H8];refine gr ?_;refine Ex.au (λk T H=>∃(g:Bool) (S:List C7),T=[.d (C6 A3.enc fs),.any,.any,.map n0,.any,.d (.bool g),.any,.any,.any,.any,.any,.any,.any]/\H=hp S/\(g=F->og fs l=S)/\(g=W->∃n,og fs l=mb fs n S/\dV fs S<n/\n<=k)) ?_ (k:=O fs+1) ⟨W,_,rfl,rfl,U,λ_=>⟨_,rfl,by have:=rD fs (fZ [] l);omega,l6 _⟩⟩;rintro k _ _ ⟨g,S,rfl,rfl,hg1,hg2⟩;simp only [hp,n0,A8,B3,p8,y9,Nat.reduceAdd];cases g with
   |false =>
    refine Ex.seq ?_;refine tb (F) (λh2=>?_) (λh2=>?_)
    .cases h2
    refine gr ?_;exact ⟨_,_,rfl,rfl,by rw [hg1 rfl]⟩
   |true =>
    obtain ⟨n,e2,e3,e4⟩:=hg2 rfl;refine Ex.seq ?_;refine tb (W) (λh2=>?_) (λh2=>?_)
    .refine gr ?_
     refine Ex.au (λm T H=>∃(j:Nat) (g:Bool),T=[.d (C6 A3.enc fs),.any,.any,.map n0,.any,.d (.bool g),.any,.any,.any,.any,.d (C6 A3.enc fs),.d (Z (O fs)),.d (Z j)]/\H=hp (pass S (fs.take j))/\j+m=O fs/\g=decide (O (pass S (fs.take j))≠O S)) ?_ (k:=O fs) ⟨0,F,rfl,rfl,U,by simp [pass]⟩;rintro m _ _ ⟨j,g,rfl,rfl,hm,hg⟩;simp only [hp,n0,A8,B3,p8,y9,Nat.reduceAdd];refine Ex.seq ?_;refine tl j (O fs) (λh4=>?_) (λh4=>?_)
     .have e5:pass S (fs.take (j+1))=aB (pass S (fs.take j)) (Y fs j):=by rw [E2 V,Hw]
      have e6:=(rG (fs.take j) S).1;refine gr ?_;obtain ⟨f,hf⟩:∃f,Y fs j=f:=⟨_,rfl⟩;obtain ⟨R,hR⟩:∃R,pass S (fs.take j)=R:=⟨_,rfl⟩;rw [hf,hR] at e5;rw [hR] at e6 hg;rw [hf,hR];refine tB (decide (f.src∈R)&& !decide (f.dst∈R)) ?_ (λh5=>?_) (λh5=>?_)
      .repeat' (first|refine lqo ?_|refine lk1 (tq _ _) (DD _ _) ?_|refine gx ?_|refine fq (λhw=>?_) λhw=>?_|refine ⟨rfl,rfl,_,rfl,?_⟩|refine ⟨rfl,rfl⟩|fail)
       all_goals exact cc
      .obtain ⟨e7,e8⟩:=XC h5
       repeat' (first|refine lqo ?_|refine mp (DE f.dst _) (Hg _) (h2:=?_)|refine gx ?_|fail)
       exact ⟨m - 1,V,_,_,hcl _ _ _ _ (j9 rfl),j+1,W,rfl,by rw [e5,e7];rfl,V,by rw [e5,e7];simp;omega⟩
      .refine gr ?_
       exact ⟨m - 1,V,_,_,hcl _ _ _ _ (j9 rfl),j+1,g,rfl,by rw [e5,NL h5];rfl,V,by rw [e5,NL h5];exact hg⟩
     .obtain rfl:j=O fs:=V
      rw [H8] at hg ⊢;refine gr ?_;refine kk ⟨_,_,hcl _ _ _ _ (j9 rfl),g,pass S fs,rfl,rfl,λh=>?_,λh=>?_⟩
      .rw [e2,YA e3]
       simpa [h] using hg
      .obtain ⟨n',rfl,e7,e8⟩:=YB e3 (by simpa [h] using hg)
       exact ⟨n',by rw [e2,e7],e8,V⟩
    .cases h2
 obtain ⟨v,H1,⟨rfl,rfl⟩,h⟩:=key;exact h
end Go.Proofs.YtibjocmpkoepoaaGreat
namespace Go.Proofs.YtibjocmpkoepoaaGreat
open Go.A1 Go.A1.S
def Tx {fs gs:List A3}{l:List C7}(h:∀f∈fs,∃g∈gs,g.src=f.src/\g.dst=f.dst){q:C7}(hr:tJ fs l q):tJ gs l q:=by
 induction hr with
 |base hp=>exact .base hp
 |step hf _ ih =>
  obtain ⟨g,hg,e1,e2⟩:=h _ hf;rw [<- e2];exact .step hg (e1 ▸ ih)
def aC7 {fs gs:List A3}{l:List C7}(h:∀f,f∈fs↔f∈gs)(q:C7):tJ fs l q↔tJ gs l q :=
 ⟨Tx λf hf=>⟨f,(h f).1 hf,rfl,rfl⟩,Tx λf hf=>⟨f,(h f).2 hf,rfl,rfl⟩⟩
def aD7 {a b:A3}(h:rP a b=W):a.src=b.src/\a.dst=b.dst:=by
 grind [rP]
theorem LJ {xs:List A3}{f:A3}:∀k,k<=O xs->f∈dH xs k->f∈xs
 |0,_,h=>by simp [dH] at h
 |k+1,hk,h=>by
  rw [dH,D7] at h
  rcases h with h|h
  .exact LJ k V h
  grind [q8,N8]
theorem CR (xs:List A3):∀k,∀i,i<k->∃g∈dH xs k,g.src=(Y xs i).src/\g.dst=(Y xs i).dst
 |0,i,h=>V
 |k+1,i,h=>by
  rcases A5 i k with h1|h1
  .obtain ⟨g,hg,e⟩:=CR xs k i h1
   grind [dH,K8]
  .obtain rfl:i=k:=V
   rw [dH];split
   next hc=>
    simp [c7,decide_eq_true_eq] at hc;obtain ⟨e1,e2⟩:=aD7 hc.2;obtain ⟨g,hg,e3,e4⟩:=CR xs i (i - 1) V
    grind
   simp_all
theorem CX {c:s5}{f:A3}(h:f∈dc c):f∈lS c:=by
 have:=LJ _ (Nat.le_of_eq (iK (lS c)).length_eq.symm) h
 grind [iK]
def LM {c:s5}{f:A3}(h:f∈lS c):∃g∈dc c,g.src=f.src/\g.dst=f.dst:=by
 have h1:=(iK (lS c)).mem_iff.2 h;obtain ⟨i,hi,e⟩:=R3 h1;have h2:i<O (lS c):=by rw [<- (iK (lS c)).length_eq];exact hi
 obtain ⟨g,hg,e1,e2⟩:=CR (bH (lS c)) (O (lS c)) i h2;rw [E6 hi,e] at e1 e2;exact ⟨g,hg,e1,e2⟩
def YN (c:s5):O (dc c)<=O (lS c):=CU _ _
attribute [local irreducible] Rx Ry Rn Ex Pf
theorem Aw:∀l:List C7,ff l=l.flatMap S7
 |[]=>rfl
 |(a,b)::l=>by rw [ff,Aw l];rfl
theorem Ak:∀S:List C7,vg (cm S)=J S
 |[]=>rfl
 |(a,b)::S=>by
  have ih:=Ak S;simp_all [cm,Mv,K0,vg]
def aY5 (H0:q6)(S:List C7)(hS:O S<=1000000)(l:I7):Pm A 63 [.map (O H0)] (H0++[.map (cm S)]) l (D9 2 S7 (sortP S)) (H0++[.map (cm S)]):=by
 refine Pm.cM rfl ?_;simp_all [BW,Ak,if_true,D9,Y4,Aw]
def BH (c:s5):(y6.cells (c.enc.map .d)).L7=0:=by rfl
def Cz (H0:q6)(S:List C7):P0 (H0++[.map (cm S)])=P0 H0:=by
 induction H0 with
 |nil=>simp [P0,wM]
 |cons a H ih=>grind [P0]
def RG {fs:List A3}{S:List C7}{f:A3}(hf:f∈fs):O (aB S f)+dV fs (aB S f)<=O S+dV fs S:=by
 by_cases hc:f.src∈S/\f.dst∉S
 .have e:aB S f=S++[f.dst]:=by simp_all [aB]
  have h:=wQ (S:=S) (S' :=aB S f) (λq hq=>HT hq) hf hc.2 (by rw [e];simp)
  grind
 simp_all [aB,if_neg]
theorem tw {fs:List A3}:∀(gs:List A3) (S:List C7),(∀g∈gs,g∈fs)->O (pass S gs)+dV fs (pass S gs)<=O S+dV fs S
 |[],_,_=>l6 _
 |g::gs,S,h=>C9 (tw gs (aB S g) λx hx=>h x (List.mem_cons_of_mem _ hx)) (RG (h g List.mem_cons_self))
theorem LG {fs:List A3}:∀(n:Nat) (S:List C7),O (mb fs n S)<=O S+dV fs S
 |0,S=>Nat.le_add_right _ _
 |n+1,S=>by
  unfold mb;split
  .omega
  .exact C9 (LG n _) (tw fs S λ_ h=>h)
def oh (fs:List A3)(l:List C7):O (og fs l)<=O l+O fs:=by
 grind [LG,fZ,Cu,rD,og]
def iB {c:s5}(hv:F0 c=W)(ht:O c.k9<=8)(hw:O c.views<=12):O (dc c)<=100000:=by
 have h1:=YN c;have hT:∀k,k<=O c.k9->O (kr c k)<=64 * k:=λk=>by
  induction k with
  |zero=>grind [kr]
  |succ k ih =>
   intro hk;rw [kr,n5];have h2:=(Qp c hv (i:=k) V).1;have h3:=od (Y c.k9 k).s6 (O (Y c.k9 k).s6);have h4:O (kX c k)<=8:=by grind [kX,J9]
   have h5:=rZ k (O (Y c.k9 k).s6) (kX c k);have h6:O (kX c k) * O (Y c.k9 k).s6<=8 * 8:=Nat.mul_le_mul h4 h2
   grind
 have hV:∀k,k<=O c.views->O (xD c (Ao c) (pU c) k)<=6000 * k:=λk=>by
  induction k with
  |zero=>grind [xD]
  |succ k ih =>
   intro hk;have h2:=Ia (Ib hv (i:=k) V).ok ((O c.k9:Int)+(k:Int))
   grind [xD,n5]
 grind [lS]
set_option maxHeartbeats 4000000 in
def ca2 (c:s5)(hs:G4 c)(hv:F0 c=W)(ht:O c.k9<=8)(hw:O c.views<=12)(l:List C7)(hl:O l<=500000) :
  Pf A 23 [cat c,.d (J1 l)] (D9 2 S7 (qB (dc c) (l.filter (aD (Y1 c))))):=by
 have p46:=Xb c hs;rw [hv] at p46;have p57:=aB8 c hs hv;have p47:=p47 c hs hv ht hw;have Dv:O (Y1 c)<=20:=by unfold Y1;rw [gO];have:s5.ns c=O c.k9+O c.views:=rfl;omega
 have hd:=iB hv ht hw;have hn:O (og (dc c) (l.filter (aD (Y1 c))))<=1000000:=C9 (oh _ _) (by have:=List.length_filter_le (aD (Y1 c)) l;omega);obtain ⟨w,hwe⟩:∃w,Y1 c=w:=⟨_,rfl⟩;rw [hwe] at p57 Dv hn ⊢;refine Pf.gr 8 ?_;refine tc (!true) p46 (λh1=>?_) (λh1=>?_)
 .cases h1
 refine gc p57 ?_;refine Ex.au (λk T H=>∃i:Nat,T=[.any,.any,.ptr 0 0,.any,D9 2 S7 ((l.take i).filter (aD w)),.d (ints w),.any,.d (J1 l),.d (Z (O l)),.d (Z i)]/\H=[.cells (c.enc.map .d)]/\i+k=O l) ?_ (k:=O l) ⟨0,rfl,rfl,U⟩;rintro k _ _ ⟨i,rfl,rfl,hk⟩;refine Ex.seq ?_;refine tb (F6 i (O l)) (λh2=>?_) (λh2=>?_)
 .have h3:=C4 h2
  have e1:(l.take (i+1)).filter (aD w)=(l.take i).filter (aD w)++(if aD w (Y l i) then [Y l i] else []):=by
   rw [E2 V,List.filter_append]
   congr 1
   simp only [List.filter_cons,List.filter_nil]
  have e2:O ((l.take i).filter (aD w))<=500000:=C9 (List.length_filter_le _ _) D;obtain ⟨acc,hacc⟩:∃acc,(l.take i).filter (aD w)=acc:=⟨_,rfl⟩;refine gr ?_;obtain ⟨p,hp⟩:∃p,Y l i=p:=⟨_,rfl⟩;rw [hacc,hp] at e1;rw [hacc] at e2;rw [hacc,hp];have WZ:=aB7 w p V;refine tc (aD w p) WZ (λh4=>?_) (λh4=>?_)
  .repeat' (first|refine oN (enc:=S7) p ?_|refine XR (ys:=[p]) (h2:=?_)|refine gx ?_|fail)
   exact kk ⟨_,_,O3 (j9 rfl) (j9 rfl),i+1,by rw [e1,h4];rfl,rfl,V⟩
  .refine gr ?_
   exact kk ⟨_,_,O3 (j9 rfl) (j9 rfl),i+1,by rw [e1,h4];simp;rfl,rfl,V⟩
 .have h3:=B5 h2
  obtain rfl:i=O l:=V
  rw [H8];have Xa:=ZS (H0:=[.cells (c.enc.map .d)]) (.inl ⟨_,rfl⟩) (by simp [P0,BH]) (dc c) (l.filter (aD w)) V (C9 (List.length_filter_le _ _) V);have p63:=λq=>aY5 [.cells (c.enc.map .d)] (og (dc c) (l.filter (aD w))) hn q
  have hb:P0 ([.cells (c.enc.map .d)]++[.map (cm (og (dc c) (l.filter (aD w))))])<=2:=by rw [Cz];simp [P0,BH]
  repeat' (first|refine Bv p47 ?_|refine cp Xa (Nat.le_add_right _ _) ?_|refine c1 (p63 _) rfl ?_ (qm:=hb) (hcl:=fG hb)|refine gx ?_|fail)
  exact ⟨_,rfl,rfl⟩
def br0 (f:A3)(q:Nat):Pm A 60 [flw f] [] ⟨0,q,0,0⟩ (.d (.bool (!f.dat))) []:=by
 suffices h:Pq A 60 [flw f] [] ⟨0,q,0,0⟩ λv H1=>v= .d (.bool (!f.dat))/\H1=[] by
  obtain ⟨v,H1,⟨rfl,rfl⟩,h⟩:=h;exact h
 refine Pq.go 2 ?_;simp only [flw,A3.enc,K0,List.map_nil];refine gr ?_;exact ⟨_,_,rfl,rfl,rfl⟩
def Wx:List A3->Nat->Int
 |[],_=> -1
 |y::r,i=>if !y.dat then i else Wx r (i+1)
theorem Di:∀(l:List A3) (i:Nat),(Wx l i= -1/\l.filter (·.dat)=l)\/∃j,Wx l i=((i+j:Nat):Int)/\j<O l/\(l.take (j+1)).filter (·.dat)=l.take j
 |[],_=> .inl ⟨rfl,rfl⟩
 |y::r,i=>by
  cases hd:y.dat with
  |false=>exact .inr ⟨0,by simp [Wx,hd],U,by simp [hd]⟩
  |true =>
   rcases Di r (i+1) with ⟨h1,h2⟩|⟨j,h1,h2,h3⟩
   .exact .inl ⟨by simp [Wx,hd,h1],by simp [hd,h2]⟩
   .exact .inr ⟨j+1,by simp [Wx,hd,h1];omega,by simpa using h2,by simp [hd,h3]⟩
set_option maxHeartbeats 8000000 in
def by1 (o0 o1:y6)(h0:o0.L7<=3)(h1:o1.L7<=3)(st:Nat)(xs:List A3)(hn:O xs<=1000000) :
  Pm A 116 [.B8 2 5 0 (O xs),.func 60 [] []] [o0,o1,.cells (J6 xs)] ⟨0,3,3,st⟩ (.d (Z (Wx xs 0))) [o0,o1,.cells (J6 xs)]:=by
 have QF:P0 (([o0,o1,.cells (J6 xs)].take 3).drop st)<=3:=Jh h0 h1 xs st
 suffices h:Pq A 116 [.B8 2 5 0 (O xs),.func 60 [] []] [o0,o1,.cells (J6 xs)] ⟨0,3,3,st⟩ λv H1=>v= .d (Z (Wx xs 0))/\H1=[o0,o1,.cells (J6 xs)] by
  obtain ⟨v,H1,⟨rfl,rfl⟩,h⟩:=h;exact h
 refine Pq.go 4 ?_
 repeat' (first|refine lrT (h2:=?_)|refine gx ?_|fail)
 refine Ex.au (λk T H=>∃i:Nat,T=[.B8 2 5 0 (O xs),.func 60 [] [],.any,.any,.d (Z (O xs)),.d (Z i)]/\H=[o0,o1,.cells (J6 xs)]/\i+k=O xs/\Wx xs 0=Wx (xs.drop i) i) ?_ (k:=O xs) ⟨0,rfl,rfl,U,U⟩;rintro k _ _ ⟨i,rfl,rfl,hk,hi⟩;refine Ex.seq ?_;refine tb (F6 i (O xs)) (λh2=>?_) (λh2=>?_)
 .have h3:=C4 h2
  have r1:rd [o0,o1,.cells (J6 xs)] 2 (0+i * 5) 5=J ((Y xs i).enc.map .d):=Ee (enc:=A3.enc) (λ_=>rfl) rfl V;have Af:i<O xs:=V
  rw [E0 Af] at hi;refine gr ?_;refine tB (!(Y xs i).dat) ?_ (λh5=>?_) (λh5=>?_)
  .repeat' (first|refine lqV r1 rfl ?_|refine ixs Af ?_|refine gx ?_|refine fq (λhw=>?_) λhw=>?_|refine ⟨rfl,rfl,_,rfl,?_⟩|refine ⟨rfl,rfl⟩|fail)
   refine cv0 (m:=0) (H0:=[]) (H1:=[]) (br0 (Y xs i) 3) rfl (qm:=by simp [P0]) (hcl:=by rfl) (jG:=rfl) (hm:=rfl) (h2:=?_)
   repeat' (first|refine gx ?_|refine fq (λhw=>?_) λhw=>?_|refine ⟨rfl,rfl,_,rfl,?_⟩|refine ⟨rfl,rfl⟩|fail)
   exact rfl
  .refine gr ?_
   exact ⟨_,_,rfl,by rw [hi,Wx,h5];rfl,rfl⟩
  .refine gr ?_
   exact kk ⟨_,_,O3 (j9 rfl) QF,i+1,rfl,rfl,V,by rw [hi,Wx,h5];rfl⟩
 .have h3:=B5 h2
  rw [n9 V] at hi;refine gr ?_;exact ⟨_,_,rfl,by rw [hi];rfl,rfl⟩
end Go.Proofs.YtibjocmpkoepoaaGreat
namespace Go.A1.S
section
variable {A:Prog} {l:I7} {b:Nat} {dr:Bool} {l5 ops:List p7} {T:List c8} {H:q6} {n:Nat} {rl:List c8} {o9:List Touch} {Q:List c8->q6->List c8->Prop}
def cj3 {x y:y7}{u:List Nat}{id sz lo len:Nat}{k:IntKind}(h2:Ry A l b dr l5 ops T H (n+1) (.d (.slice 0 [])::rl) o9 Q)(hx:rq T n rl x= .B8 id sz lo len:=by rfl)(hy:rq T n rl y= .d (.int k ((0:Nat):Int)):=by rfl) :
  Ry A l b dr l5 (⟨.aJ sz x K (J y),K,K,u⟩::ops) T H n rl o9 Q :=
 Ry.pure (rs:=[]) rfl (by simp [o7,hx,hy,Y9]) h2
end
end Go.A1.S
namespace Go.Proofs.YtibjocmpkoepoaaGreat
open Go.A1 Go.A1.S
attribute [local irreducible] Rx Ry Rn Ex Pf
def sF (k:Nat):c8:=if k=0 then .d (.slice 0 []) else .B8 2 5 0 k
set_option maxHeartbeats 16000000 in
def cf0 (o0 o1:y6)(h0:o0.L7<=3)(h1:o1.L7<=3)(st:Nat)(xs:List A3)(hn:O xs<=1000000)(hp:0<O xs) :
  ∃zs:List A1.Data,Pm A 58 [.B8 2 5 0 (O xs),.func 60 [] []] [o0,o1,.cells (J6 xs)] ⟨0,0,3,st⟩ (sF (O (xs.filter (·.dat)))) [o0,o1,.cells (J6 (xs.filter (·.dat))++zs.map .d)]:=by
 have key:Pq A 58 [.B8 2 5 0 (O xs),.func 60 [] []] [o0,o1,.cells (J6 xs)] ⟨0,0,3,st⟩ λr H1=>∃zs:List A1.Data,r=sF (O (xs.filter (·.dat)))/\H1=[o0,o1,.cells (J6 (xs.filter (·.dat))++zs.map .d)]:=by
  have QF:∀ys:List A3,P0 (([o0,o1,.cells (J6 ys)].take 3).drop st)<=3:=λys=>Jh h0 h1 ys st
  have ba0:=by1 o0 o1 h0 h1 (E9 [o0,o1,.cells (J6 xs)] st 3) xs hn;refine Pq.go 4 ?_;refine gr ?_;refine c1 ba0 rfl ?_ (qm:=QF xs) (hcl:=au9 h0 h1 xs st);refine gr ?_;refine tb (u7 (Wx xs 0) (-1)) (λh=>?_) (λh=>?_)
  .rcases Di xs 0 with ⟨g1,g2⟩|⟨j,g1,g2,g3⟩
   .refine gr ?_
    exact ⟨_,_,rfl,[],by rw [g2,sF,if_neg V],by rw [g2];simp⟩
   .rw [g1] at h
    have:=eE h;omega
  rcases Di xs 0 with ⟨g1,g2⟩|⟨i0,g1,g2,g3⟩
  .rw [g1] at h
   exact absurd rfl (wB h)
  rw [g1];refine gr ?_;have hti:O (xs.take i0)=i0:=by rw [List.length_take];omega
  refine Ex.au (λk T H=>∃(j:Nat) (acc:List A3),T=[.B8 2 5 0 (O xs),.func 60 [] [],.any,.d (Z (O acc)),.d (Z j),.any]/\H=[o0,o1,.cells (J6 (acc++xs.drop (O acc)))]/\j+k=O xs/\O acc<j/\acc=(xs.take j).filter (·.dat)) ?_ (k:=O xs - i0 - 1) ⟨i0+1,xs.take i0,by rw [hti];simp;rfl,by rw [hti,List.take_append_drop],V,V,g3.symm⟩;rintro k _ _ ⟨j,acc,rfl,rfl,hk,bl9,hacc⟩;refine Ex.seq ?_;have bQ:O acc<O xs:=V
  have hdr:=E0 bQ;refine tB (F6 j (O xs)) ?_ (λh6=>?_) (λh6=>?_)
  .repeat' (first|refine lnr ?_|refine gx ?_|refine fq (λhw=>?_) λhw=>?_|refine ⟨rfl,rfl,_,rfl,?_⟩|refine ⟨rfl,rfl⟩|fail)
   all_goals exact cc
  .have h7:=C4 h6
   have hjl:j<O xs:=V
   have r3:rd [o0,o1,.cells (J6 (acc++xs.drop (O acc)))] 2 (0+j * 5) 5=J ((Y xs j).enc.map .d):=by
    rw [<- MT (Nat.le_of_lt bl9) hjl];exact Ee (enc:=A3.enc) (λ_=>rfl) rfl D
   have e1:(xs.take (j+1)).filter (·.dat)=acc++(if (Y xs j).dat then [Y xs j] else []):=by
    rw [E2 hjl,List.filter_append,<- hacc]
    congr 1
    simp only [List.filter_cons,List.filter_nil]
   repeat' (first|refine lqV r3 rfl ?_|refine ixs hjl ?_|refine gx ?_|fail)
   refine tB (!(!(Y xs j).dat)) ?_ (λh8=>?_) (λh8=>?_)
   .repeat' (first|refine gx ?_|refine fq (λhw=>?_) λhw=>?_|refine ⟨rfl,rfl,_,rfl,?_⟩|refine ⟨rfl,rfl⟩|fail)
    refine cv0 (m:=0) (H0:=[]) (H1:=[]) (br0 (Y xs j) 0) rfl (qm:=by simp [P0]) (hcl:=by rfl) (jG:=rfl) (hm:=rfl) (h2:=?_)
    repeat' (first|refine gx ?_|refine fq (λhw=>?_) λhw=>?_|refine ⟨rfl,rfl,_,rfl,?_⟩|refine ⟨rfl,rfl⟩|fail)
    exact rfl
   .have w1:wr [o0,o1,.cells (J6 (acc++xs.drop (O acc))),.cells ((Y xs j).enc.map .d)] 2 (0+O acc * 5) ((Y xs j).enc.map .d)=J [o0,o1,.cells (J6 (acc++Y xs j::xs.drop (O acc+1))),.cells ((Y xs j).enc.map .d)]:=by
     rw [hdr];exact am2 (enc:=A3.enc) (λ_=>rfl) rfl _
    have hb0:C5 ((Y xs j).enc.map .d)<=2+1:=by rw [jD];omega
    repeat' (first|refine ixs bQ ?_|refine ox rfl ⟨rfl,rfl⟩ rfl rfl rfl hb0 w1 ?_|refine gx ?_|fail)
    have PS:O (acc++[Y xs j])=O acc+1:=U
    exact kk ⟨_,_,O3 (j9 rfl) (QF _),j+1,acc++[Y xs j],by rw [PS];rfl,by rw [PS,D3];rfl,V,V,by rw [e1];simp at h8;rw [h8];simp⟩
   .refine gr ?_
    exact kk ⟨_,_,O3 (j9 rfl) (QF _),j+1,acc,rfl,rfl,V,V,by rw [e1];simp at h8;rw [h8];simp⟩
  .have h7:=B5 h6
   obtain rfl:j=O xs:=V
   rw [H8] at hacc;rw [<- hacc];have w2:=am1 o0 o1 acc (xs.drop (O acc));rw [List.length_drop] at w2;have hz:∀n,(c9 n zF).flatten=(c9 n [Z 0,Z 0,Z 0,Z 0,A1.Data.bool F]).flatten.map .d:=λn=>by simp [List.map_flatten,List.map_replicate,zF]
   repeat' (first|refine svr bQ ?_|refine clS w2 ?_|refine gx ?_|fail)
   rcases Nat.eq_zero_or_pos (O acc) with h0' |h0'
   .obtain rfl:acc=[]:=List.length_eq_zero_iff.1 h0'
    repeat' (first|refine cj3 ?_|refine gx ?_|fail)
    exact ⟨_,_,rfl,_,rfl,by rw [<- hz];rfl⟩
   .repeat' (first|refine svf (Nat.le_of_lt bQ) h0' ?_|refine gx ?_|fail)
    exact ⟨_,_,rfl,_,by rw [sF,if_neg V],by rw [<- hz];rfl⟩
 obtain ⟨r,H1,⟨zs,rfl,rfl⟩,h⟩:=key;exact ⟨zs,h⟩
def ca6 (a b:List c8)(h0:Rc a=W)(h1:Rc b=W)(xs:List A3)(hn:O xs<=1000000)(hp:0<O xs):Pm A 59 [.d (C6 A3.enc xs)] [.cells a,.cells b] W8 (.B8 2 5 0 (O xs)) [.cells a,.cells b,.cells (J6 xs)]:=by
 have hl:O (xs.flatMap A3.enc)=O xs * 5:=Z1 (sz:=5) (λ_=>rfl) xs;unfold C6 J6;obtain ⟨n,e⟩:∃n,O xs=n+1:=⟨O xs - 1,V⟩;rw [e] at hn hl ⊢;exact Pm.cM rfl (if_pos ⟨hl,V,h0,h1⟩)
def bq9 (H:q6)(l:I7):Pm A 59 [.d (.slice 0 [])] H l (.d (.slice 0 [])) H:=Pm.cM rfl rfl
def jq (fs:List A3):List A3:=(fs.map A3.rev).reverse
def jr (nt:Nat)(p:C7)(S:List C7)(l:List C7):List A3:=(l.filter λq=>F6 q.1 nt).map λq=>⟨q,p,decide (q∈S)⟩
def av8 (fs:List A3):List A3:=fs.filter (·.dat)
def Kx (fs:List A3)(nt:Nat)(p:C7):List A3:=jr nt p (og (jq (av8 fs)) [p]) (sortP (og (jq fs) [p]))
def rM {H:q6}{l:I7}{v:c8}{ds:List A3}(h:rowOf 5 H v=J (O ds,ds.flatMap A3.enc))(hn:O ds<=1000000):Pm A 62 [v] H l (D9 5 A3.enc (jq ds)) H:=by
 refine Pm.cM rfl ?_;simp only [aB6,h,uV,hn,and_self,if_true,D9,jq,List.length_reverse,A7]
def bA7 (H:q6)(ds:List A3):rowOf 5 H (.d (ak ds))=J (O ds,ds.flatMap A3.enc):=by
 simp only [ak,C6,rowOf];rw [if_pos (Z1 (sz:=5) (λ_=>rfl) ds)]
def ci2 (a b:y6)(ds:List A3)(zs:List A1.Data):rowOf 5 [a,b,.cells (J6 ds++zs.map .d)] (sF (O ds))=J (O ds,ds.flatMap A3.enc):=by
 unfold sF;split
 next h=>
  obtain rfl:ds=[]:=List.length_eq_zero_iff.1 h;rfl
 .have l1:O (J6 ds)=O ds * 5:=by rw [J6,A7,Z1 (sz:=5) (λ_=>rfl)]
  have h:rd [a,b,.cells (J6 ds++zs.map .d)] 2 0 (O ds * 5)=J (J6 ds):=by
   simp only [rd,List.getElem?_cons_succ,List.getElem?_cons_zero,List.drop_zero];rw [if_pos (by simp [l1]),<- l1,List.take_left]
  simp only [rowOf,if_true,h];rw [J6,cF]
set_option maxHeartbeats 16000000 in
def ca1 (c:s5)(p:C7)(hs:G4 c)(hv:F0 c=W)(ht:O c.k9<=8)(hw:O c.views<=12)(hp:aD (Y1 c) p=W)(hne:0<O (dc c)):Pf A 21 [cat c,vA p] (.d (ak (Kx (dc c) (O c.k9) p))):=by
 have p46:=Xb c hs;rw [hv] at p46;have p57:=aB8 c hs hv;have p47:=p47 c hs hv ht hw;have hd:=iB hv ht hw;have Dv:O (Y1 c)<=20:=by unfold Y1;rw [gO];have:s5.ns c=O c.k9+O c.views:=rfl;omega
 obtain ⟨w,hwe⟩:∃w,Y1 c=w:=⟨_,rfl⟩;have WZ:=aB7 (Y1 c) p V;rw [hp] at WZ;rw [hwe] at p57 Dv WZ;obtain ⟨fs,BO⟩:∃fs,dc c=fs:=⟨_,rfl⟩;rw [BO] at p47 hd hne ⊢;refine Pf.gr 11 ?_;refine tc (!(W&&W)) (And.intro p46 (And.intro p57 WZ)) (λh1=>?_) (λh1=>?_)
 .cases h1
 refine gc p47 ?_;have b0:(y6.cells (c.enc.map .d)).L7<=3:=by rw [BH];omega
 have b1:(y6.cells [.d (Z p.1),.d (Z p.2)]).L7<=3:=by simp [y6.L7,C5,c8.L7]
 obtain ⟨zs,p58⟩:=cf0 _ _ b0 b1 (E9 [.cells (c.enc.map .d),.cells [.d (Z p.1),.d (Z p.2)],.cells (J6 fs)] 0 3) fs V hne;obtain ⟨ds,hds⟩:∃ds,fs.filter (·.dat)=ds:=⟨_,rfl⟩;have hdl:O ds<=O fs:=by rw [<- hds];exact List.length_filter_le _ _
 rw [hds] at p58;have r6:=ci2 (.cells (c.enc.map .d)) (.cells [.d (Z p.1),.d (Z p.2)]) ds zs;have hsF:(ds=[]/\sF (O ds)= .d (.slice 0 []))\/sF (O ds)= .B8 2 5 0 (O ds):=by
  unfold sF;split
  next h=>
   exact .inl ⟨List.length_eq_zero_iff.1 h,rfl⟩
  .exact .inr rfl
 have hb3:∀st,P0 (([.cells (c.enc.map .d),.cells [.d (Z p.1),.d (Z p.2)],.cells (J6 ds++zs.map .d)].take 3).drop st)<=3:=λst=>by
  have b2:(y6.cells (J6 ds++zs.map .d)).L7<=3:=by rw [J6,<- List.map_append];simp only [y6.L7,jD];omega
  match st with
  |0=>simp [P0];omega
  |1=>simp [P0];omega
  |2=>simp [P0];omega
  |_+3=>simp [P0]
 have hb0:P0 [.cells (c.enc.map .d),.cells [.d (Z p.1),.d (Z p.2)],.cells (J6 ds++zs.map .d)]=0:=by
  have b2:C5 (J6 ds++zs.map .d)=0:=by rw [J6,<- List.map_append];exact jD _
  have b3:C5 (c.enc.map .d)=0:=jD _;simp [P0,b2,b3,y6.L7,C5,c8.L7]
 have hc3:G6 [.cells (c.enc.map .d),.cells [.d (Z p.1),.d (Z p.2)],.cells (J6 ds++zs.map .d)] 0 8 3=3:=fG (k:=7) (hb3 0)
 rcases hsF with ⟨hd0,e6⟩|e6<;>rw [e6] at p58 r6
 all_goals
  repeat' (first|refine Ex.region (Rn.aB3 3 [.cells (c.enc.map .d),.cells [.d (Z p.1),.d (Z p.2)],.cells (J6 ds++zs.map .d)] [] (h:=?_))|refine cp (ca6 (c.enc.map .d) [.d (Z p.1),.d (Z p.2)] (Lj _) rfl fs V hne) U ?_|refine c0 (qm:=Jh b0 b1 _ _) (hcl:=au9 b0 b1 _ _) p58 rfl (H2:=[.cells (c.enc.map .d),.cells [.d (Z p.1),.d (Z p.2)],.cells (J6 ds++zs.map .d)]) (h2:=?_)|refine gx ?_|fail)
  refine vm ?_
  first
   |refine vc (m:=0) (rM (H:=[]) (l:=W8) (ds:=ds) (v:= .d (.slice 0 [])) (by rw [hd0];rfl) V) rfl ?_
   |refine vc (m:=3) (rM r6 V) rfl ?_ (qm:=hb3 _) (hcl:=by exact hc3)
  refine vp (rs:=[1]) (vA p) (by rfl) (h2:=?_);refine vp (rs:=[]) (D9 2 S7 [p]) (by rfl) (h2:=?_);refine vcp (ZS (H0:=[.cells (c.enc.map .d),.cells [.d (Z p.1),.d (Z p.2)],.cells (J6 ds++zs.map .d)]) (.inr (.inr (.inl ⟨_,_,_,rfl⟩))) hb0 (jq ds) [p] (by rw [jq];simp;omega) U) U ?_;refine vmT (v:= .map 3) ?_ ⟨rfl,λ_ _ _ h=>by cases h⟩;refine vn ?_;obtain ⟨S1,hS1⟩:∃S1,og (jq ds) [p]=S1:=⟨_,rfl⟩;rw [hS1];obtain ⟨S2,hS2⟩:∃S2,og (jq fs) [p]=S2:=⟨_,rfl⟩
  repeat' (first|refine Ex.region (Rn.aB3 4 [.cells (c.enc.map .d),.cells [.d (Z p.1),.d (Z p.2)],.cells (J6 ds++zs.map .d),.map (cm S1),.dead] [.slot 12] (h:=?_))|refine gx ?_|fail)
  refine vm ?_;refine vc (m:=0) (rM (H:=[]) (l:=W8) (ds:=fs) (v:= .d (ak fs)) (bA7 [] fs) V) rfl ?_;refine vp (rs:=[1]) (vA p) (by rfl) (h2:=?_);refine vp (rs:=[]) (D9 2 S7 [p]) (by rfl) (h2:=?_);have XY:P0 [.cells (c.enc.map .d),.cells [.d (Z p.1),.d (Z p.2)],.cells (J6 ds++zs.map .d),.map (cm S1),.dead]=0:=by
   have b2:C5 (J6 ds++zs.map .d)=0:=by rw [J6,<- List.map_append];exact jD _
   have b3:C5 (c.enc.map .d)=0:=jD _;have b4:=wM S1;simp only [P0,b4];simp [b2,b3,y6.L7,C5,c8.L7]
  have Xa:=ZS (H0:=[.cells (c.enc.map .d),.cells [.d (Z p.1),.d (Z p.2)],.cells (J6 ds++zs.map .d),.map (cm S1),.dead]) (.inr (.inr (.inr (.inr ⟨_,_,_,_,_,rfl⟩)))) XY (jq fs) [p] (by rw [jq];simp;omega) U;rw [hS2] at Xa;refine vcp Xa U ?_;have hn2:O S2<=1000000:=by
   have:=oh (jq fs) [p];rw [hS2] at this;simp [jq] at this;omega
  have p63:=λq=>aY5 [.cells (c.enc.map .d),.cells [.d (Z p.1),.d (Z p.2)],.cells (J6 ds++zs.map .d),.map (cm S1),.dead] S2 hn2 q
  have hb6:P0 ([.cells (c.enc.map .d),.cells [.d (Z p.1),.d (Z p.2)],.cells (J6 ds++zs.map .d),.map (cm S1),.dead]++[.map (cm S2)])<=6:=by rw [Cz,XY];omega
  refine vcT (m:=6) (p63 _) rfl ?_ (qm:=hb6) (hcl:=fG (k:=7) hb6);refine vpT (rs:=[]) (.d (Z (O (sortP S2)))) (by rfl) (h2:=?_) (hv:=⟨rfl,λ_ _ _ h=>by cases h⟩);refine vk ?_;refine vn ?_;obtain ⟨qs,hqs⟩:∃qs,sortP S2=qs:=⟨_,rfl⟩;have hql:O qs<=1000000:=by rw [<- hqs,Y4];exact hn2
  have eF:Kx fs (O c.k9) p=jr (O c.k9) p S1 qs:=by rw [<- hqs,<- hS2,<- hS1,<- hds];rfl
  rw [eF];rw [hqs];refine gr ?_;refine Ex.au (λk T H=>∃i:Nat,T=[.any,.any,.ptr 0 0,.ptr 1 0,.any,.any,.any,.map 3,D9 5 A3.enc (jr (O c.k9) p S1 (qs.take i)),.any,D9 2 S7 qs,.d (Z (O qs)),.d (Z i)]/\H=[.cells (c.enc.map .d),.cells [.d (Z p.1),.d (Z p.2)],.cells (J6 ds++zs.map .d),.map (cm S1),.dead,.map (cm S2)]/\i+k=O qs) ?_ (k:=O qs) ⟨0,rfl,rfl,U⟩;rintro k _ _ ⟨i,rfl,rfl,hk⟩;refine Ex.seq ?_;refine tb (F6 i (O qs)) (λh2=>?_) (λh2=>?_)
  .have h3:=C4 h2
   have e1:jr (O c.k9) p S1 (qs.take (i+1))=jr (O c.k9) p S1 (qs.take i)++(if F6 (Y qs i).1 (O c.k9) then [⟨Y qs i,p,decide (Y qs i∈S1)⟩] else []):=by
    rw [E2 V];simp only [jr,List.filter_append,List.map_append]
    congr 1
    simp only [List.filter_cons,List.filter_nil];split<;>simp_all
   obtain ⟨r,hr⟩:∃r,Y qs i=r:=⟨_,rfl⟩;obtain ⟨acc,hacc⟩:∃acc,jr (O c.k9) p S1 (qs.take i)=acc:=⟨_,rfl⟩;have vM:O acc<=1000000:=by
    rw [<- hacc];simp only [jr,A7];refine C9 (List.length_filter_le _ _) ?_;simp;omega
   rw [hacc,hr] at e1;refine gr ?_;rw [hacc,hr];refine tb (F6 r.1 (O c.k9)) (λh4=>?_) (λh4=>?_)
   .repeat' (first|refine lk1 (tq r S1) (DD r S1) ?_|refine Bu (cs:=(A3.enc ⟨r,p,decide (r∈S1)⟩).map .d) ?_|refine oN (enc:=A3.enc) (⟨r,p,decide (r∈S1)⟩:A3) ?_|refine XR (ys:=[(⟨r,p,decide (r∈S1)⟩:A3)]) (h2:=?_)|refine gx ?_|fail)
    exact kk ⟨_,_,O3 (j9 rfl) hb6,i+1,by rw [e1,h4];rfl,rfl,V⟩
   .refine gr ?_
    exact kk ⟨_,_,O3 (j9 rfl) hb6,i+1,by rw [e1,h4];simp;rfl,rfl,V⟩
  .have h3:=B5 h2
   obtain rfl:i=O qs:=V
   rw [H8];refine gr ?_;exact ⟨_,rfl,rfl⟩
end Go.Proofs.YtibjocmpkoepoaaGreat
namespace Go.Proofs.YtibjocmpkoepoaaGreat
open Go.A1 Go.A1.S
def qy (a b:A3):Prop:=a.src.1<b.src.1\/(a.src.1=b.src.1/\(a.src.2<b.src.2\/(a.src.2=b.src.2/\(a.dst.1<b.dst.1\/(a.dst.1=b.dst.1/\a.dst.2<b.dst.2)))))
def Br (a b:A3):Prop:=a.src.1=b.src.1/\a.src.2=b.src.2/\a.dst.1=b.dst.1/\a.dst.2=b.dst.2
instance (a b:A3):Decidable (qy a b):=by unfold qy;infer_instance
instance (a b:A3):Decidable (Br a b):=by unfold Br;infer_instance
def jZ (x:A3):List A3->List A3
 |[]=>[x]
 |y::l=>if qy y x then y::jZ x l else if Br y x then ⟨y.src,y.dst,y.dat||x.dat⟩::l else x::y::l
def N4 (l:List A3):List A3->List A3
 |[]=>l
 |x::r=>N4 (jZ x l) r
def Z8 (l:List A3):∀xs ys:List A3,N4 l (xs++ys)=N4 (N4 l xs) ys:=by
 intro xs
 induction xs generalizing l with
 |nil=>intro ys;rfl
 |cons x xs ih=>intro ys;exact ih _ ys
theorem Mo (x:A3):∀l:List A3,O (jZ x l)<=O l+1
 |[]=>by simp [jZ]
 |y::l=>by
  have:=Mo x l
  grind [jZ]
theorem aL:∀(xs l:List A3),O (N4 l xs)<=O l+O xs
 |[],l=>by simp [N4]
 |x::xs,l=>by
  have h1:=aL xs (jZ x l)
  grind [Mo,N4,p8]
def Bz (l:List A3)(p q:C7):Prop:=∃f∈l,f.src=p/\f.dst=q
theorem yV {a b:A3}:Br a b↔a.src=b.src/\a.dst=b.dst:=by
 grind [b1,b2,b3,b4,b5,Br,Prod.mk.injEq]
theorem QJ (x:A3)(p q:C7):∀l:List A3,Bz (jZ x l) p q↔Bz l p q\/(x.src=p/\x.dst=q)
 |[]=>by simp [Bz,jZ]
 |y::l=>by
  have ih:=QJ x p q l;unfold Bz at ih ⊢;unfold jZ;split
  .grind
  .split
   .simp_all [yV,B6,exists_eq_or_imp]
   grind
theorem Zz (x:A3)(p q:C7):∀l:List A3,(⟨p,q,W⟩:A3)∈jZ x l↔(⟨p,q,W⟩:A3)∈l\/x=⟨p,q,W⟩
 |[]=>by grind [jZ]
 |y::l=>by
  have ih:=Zz x p q l;unfold jZ;split
  .grind
  .split
   next h=>
    have h:=yV.1 h;obtain ⟨xs,xd,xt⟩:=x;obtain ⟨ys,yd,yt⟩:=y;simp_all<;>grind
   grind
theorem az2 (x:A3):∀(l:List A3) {z:A3},z∈jZ x l->(∃w∈l,Br w z)\/Br x z:=by
 intro l z hz;have:=(QJ x z.src z.dst l).1 ⟨z,hz,rfl,rfl⟩
 rcases this with ⟨w,hw,e⟩|e
 all_goals grind [yV]
theorem br7 {a b c:A3}(h:qy a b)(k:Br b c):qy a c:=by simp_all [qy,Br]
theorem aM0 {a b c:A3}(h:qy a b)(k:qy b c):qy a c:=by grind [qy]
theorem br8 {a b:A3}(h:¬ qy b a)(k:¬ Br b a):qy a b:=by grind [qy,Br]
theorem ME {a b:A3}(h:qy a b):¬ Br a b/\¬ Br b a/\¬ qy b a:=by grind [qy,Br]
theorem SX (x:A3):∀l:List A3,l.Pairwise qy->(jZ x l).Pairwise qy
 |[],_=>by simp [jZ]
 |y::l,h=>by
  rw [M7] at h;unfold jZ;split
  .refine M7.2 ⟨λz hz=>?_,SX x l h.2⟩
   grind [az2,br7]
  .split
   .exact M7.2 ⟨λz hz=>h.1 z hz,h.2⟩
   grind [br8,M7,aM0]
theorem Li:∀(xs l:List A3),l.Pairwise qy->(N4 l xs).Pairwise qy
 |[],_,h=>h
 |x::xs,l,h=>Li xs _ (SX x l h)
theorem Se (p q:C7):∀(xs l:List A3),Bz (N4 l xs) p q↔Bz l p q\/Bz xs p q
 |[],l=>by simp [N4,Bz]
 |x::xs,l=>by
  rw [N4,Se p q xs,QJ]
  grind [Bz]
theorem Sd (p q:C7):∀(xs l:List A3),(⟨p,q,W⟩:A3)∈N4 l xs↔(⟨p,q,W⟩:A3)∈l\/(⟨p,q,W⟩:A3)∈xs
 |[],l=>by simp [N4]
 |x::xs,l=>by
  rw [N4,Sd p q xs,Zz]
  grind
theorem af1 {R:A3->A3->Prop}:∀{l:List A3},l.Pairwise R->∀{a b:A3},a∈l->b∈l->a=b\/R a b\/R b a
 |x::l,h,a,b,ha,hb=>by
  rw [M7] at h
  rcases B6.1 ha with rfl|ha1<;>rcases B6.1 hb with rfl|hb1
  .exact .inl rfl
  .exact .inr (.inl (h.1 b hb1))
  .exact .inr (.inr (h.1 a ha1))
  .exact af1 h.2 ha1 hb1
theorem aZ0 {l:List A3}(h:l.Pairwise qy)(f:A3):f∈l↔Bz l f.src f.dst/\(f.dat=W↔(⟨f.src,f.dst,W⟩:A3)∈l):=by
 have un:∀{a b:A3},a∈l->b∈l->a.src=b.src->a.dst=b.dst->a=b:=λ{a b} ha hb e1 e2=>by
  have hk:Br a b:=yV.2 ⟨e1,e2⟩
  grind [af1,absurd,ME]
 obtain ⟨p,q,d⟩:=f;constructor
 .intro hf
  refine ⟨⟨_,hf,rfl,rfl⟩,λhd=>?_,λht=>?_⟩
  all_goals grind
 .rintro ⟨⟨⟨p',q',d'⟩,hg,e1,e2⟩,hd⟩
  subst e1 e2;cases d with
  |true=>simp_all
  |false =>
   cases d' with
   |false=>exact hg
   |true=>simp_all
def bb5 {l m:List A3}(hl:l.Pairwise qy)(hm:m.Pairwise qy)(hK:∀p q,Bz l p q↔Bz m p q)(hD:∀p q,(⟨p,q,W⟩:A3)∈l↔(⟨p,q,W⟩:A3)∈m):l=m:=by
 have nd:∀{l:List A3},l.Pairwise qy->l.Nodup:=λ{l} h=>h.imp λ{a b} h e=>by subst e;exact (ME h).1 ⟨rfl,rfl,rfl,rfl⟩
 have hp:l.Perm m:=(List.perm_ext_iff_of_nodup (nd hl) (nd hm)).2 λf=>by grind [aZ0]
 exact hp.eq_of_pairwise (λa b _ _ h1 h2=>absurd h2 (ME h1).2.2) hl hm
theorem yy {a b:A3}:¬ LA b a<0↔qy a b\/(Br a b/\(b.dat=W->a.dat=W)):=by
 have h0:¬ cfB b.dat a.dat<0↔(b.dat=W->a.dat=W):=by cases b.dat<;>cases a.dat<;>simp [cfB]
 obtain ⟨z,hz⟩:∃z,cfB b.dat a.dat=z:=⟨_,rfl⟩;rw [<- h0,hz];unfold LA wm mN qy Br;rw [hz];split<;>(repeat' split)<;>omega
def ah9 (l:List A3):(bH l).Pairwise λa b=>¬ LA b a<0 :=
 xu (λa b c h1 h2=>by
  rw [yy] at *
  grind [qy,Br]) (λa b h=>by
  rw [yy];have h1:¬ (qy a b\/(Br a b/\(b.dat=W->a.dat=W))):=by rw [<- yy];omega
  grind [qy,Br]) l
theorem Ra {R:A3->A3->Prop}{xs:List A3}(h:xs.Pairwise R){i j:Nat}(h1:i<j)(h2:j<O xs):R (Y xs i) (Y xs j):=by
 grind [E6,List.pairwise_iff_getElem]
theorem Sq {xs:List A3}(hs:xs.Pairwise λa b=>¬ LA b a<0){k:Nat}(hk:k<O xs)(hc:¬ (decide (0<k)&&rP (Y xs k) (Y xs (k - 1)))=W){j:Nat}(hj:j<k):qy (Y xs j) (Y xs k):=by
 have h1:=yy.1 (Ra hs (show k - 1<k by omega) hk);have h2:qy (Y xs (k - 1)) (Y xs k):=by
  rcases h1 with h1|⟨h1,_⟩
  all_goals simp_all [yV,c7,decide_eq_true_eq,Xq]
 grind [A5,yy,Ra,aM0,qy,Br]
theorem uO {xs:List A3}(hs:xs.Pairwise λa b=>¬ LA b a<0):∀k,k<=O xs->∀f∈dH xs k,∃i,i<k/\f=Y xs i/\∀j,j<i->qy (Y xs j) f
 |0,_,f,h=>by simp [dH] at h
 |k+1,hk,f,h=>by
  rw [dH,D7] at h
  rcases h with h|h
  .obtain ⟨i,a,b,d⟩:=uO hs k V f h
   grind
  grind [q8,Sq]
theorem Sn {xs:List A3}(hs:xs.Pairwise λa b=>¬ LA b a<0):∀k,k<=O xs->(dH xs k).Pairwise qy
 |0,_=>List.Pairwise.nil
 |k+1,hk=>by
  refine List.pairwise_append.2 ⟨Sn hs k V,?_,λa ha b hb=>?_⟩
  .split<;>simp
  .split at hb
   .cases hb
   .rw [q8] at hb
    obtain ⟨i,h1,rfl,_⟩:=uO hs k V a ha
    grind [Sq]
def YO {c:s5}{R:List A3}(h:∀f,f∈lS c↔f∈R):N4 [] R=dc c:=by
 have hs:=ah9 (lS c);have hl:=tF (lS c);refine bb5 (Li R [] List.Pairwise.nil) (Sn hs _ V) (λp q=>?_) (λp q=>?_)
 .rw [Se]
  constructor
  .rintro (⟨_,h1,_⟩|⟨f,hf,e1,e2⟩)
   .cases h1
   .obtain ⟨g,hg,e3,e4⟩:=LM ((h f).2 hf)
    exact ⟨g,hg,e3.trans e1,e4.trans e2⟩
  .rintro ⟨f,hf,e⟩
   exact .inr ⟨f,(h f).1 (CX hf),e⟩
 .rw [Sd]
  constructor
  .rintro (h1|h1)
   .cases h1
   .have h1:=(h _).2 h1
    obtain ⟨g,hg,e3,e4⟩:=LM h1;obtain ⟨j,hj,ej⟩:=R3 ((iK (lS c)).mem_iff.2 h1);rw [<- E6 hj] at ej;obtain ⟨i,hi,rfl,hf⟩:=uO hs _ V g hg;have hk:Br (Y (bH (lS c)) i) (Y (bH (lS c)) j):=yV.2 M
    rcases Nat.lt_trichotomy i j with h2|h2|h2
    .rcases yy.1 (Ra hs h2 hj) with h3|⟨_,h3⟩
     .grind [absurd,ME]
     .have:Y (bH (lS c)) i=⟨p,q,W⟩:=by
       cases h5:Y (bH (lS c)) i;simp_all
      simp_all
    all_goals grind [absurd,ME]
  grind [CX]
attribute [local irreducible] Rx Ry Rn Ex Pf
def gX (p q:C7):Bool:=p.1==q.1&&(p.2==q.2&&W)
def wC (p q:C7):gX p q=W↔p=q:=by
 grind [gX]
def pG (l:List C7)(p:C7):Bool:=l.any λq=>gX q p
def ax2 {l:List C7}{p:C7}(h:p∈l):pG l p=W:=List.any_eq_true.2 ⟨p,h,(wC p p).2 rfl⟩
def Ds {l:List C7}{p:C7}:pG l p=W↔p∈l:=⟨λh=>by
 obtain ⟨q,hq,e⟩:=List.any_eq_true.1 h;simp_all [wC],ax2⟩
def aY3 (l:List C7)(p:C7)(hl:O l<=9223372036854775807):Pf A 24 [.d (J1 l),vA p] (.d (.bool (pG l p))):=by
 refine Pf.gr 3 ?_;refine Ex.ru (λk T H=>∃(i:Nat) (w1 w3:c8),T=[.d (J1 l),w1,.ptr 0 0,w3,.d (Z i)]/\H=[.cells [.d (Z p.1),.d (Z p.2)]]/\i+k=O l/\pG l p=pG (l.drop i) p) M ?_ (k:=O l) ⟨0,_,_,rfl,rfl,U,U⟩;rintro k _ _ ⟨i,w1,w3,rfl,rfl,hk,hi⟩;refine Ex.nT ?_;refine Ex.seq ?_;refine tb (F6 i (O l)) (λh2=>?_) (λh2=>?_)
 .have h3:=C4 h2
  have e:pG (l.drop i) p=(gX (Y l i) p||pG (l.drop (i+1)) p):=by
   rw [E0 V];rfl
  refine gr ?_;refine tB (gX (Y l i) p) ?_ (λh4=>?_) (λh4=>?_)
  .repeat' (first|refine gx ?_|refine fq (λhw=>?_) λhw=>?_|refine ⟨rfl,rfl,_,rfl,?_⟩|refine ⟨rfl,rfl⟩|fail)
   simp_all [j3,gX,s9,s8,o8,D2]
  .refine gr ?_
   exact ⟨_,rfl,by rw [hi,e,h4];rfl⟩
  .refine gr ?_
   exact kk ⟨i+1,_,_,rfl,rfl,V,M⟩
 .have h3:=B5 h2
  rw [n9 V] at hi;refine gr ?_;exact ⟨_,rfl,by rw [hi];rfl⟩
def ca3 (l:List C7)(hl:O l<=9223372036854775807):Pf A 25 [.d (J1 l),.d (J1 l)] (.d (.bool W)):=by
 refine Pf.gr 2 ?_;refine tB (F) ?_ (λh1=>?_) (λh1=>?_)
 .repeat' (first|refine gx ?_|refine fq (λhw=>?_) λhw=>?_|refine ⟨rfl,rfl,_,rfl,?_⟩|refine ⟨rfl,rfl⟩|fail)
  all_goals first|(simp [*,j3,o8];done)|(simp_all [j3,o8];done)|(simp_all [j3,o8,s9,s8,o8,D2];done)|(simp_all [j3,o8,s9,s8,o8,D2]<;>omega)
 .cases h1
 refine gr ?_;refine Ex.T9 (λk T H=>∃(i:Nat),T=[.d (J1 l),.d (J1 l),.any,.d (Z i)]/\H=[]/\i+k=O l) ?_ (k:=O l) ⟨0,rfl,rfl,U⟩;rintro k _ _ ⟨i,rfl,rfl,hk⟩;refine Ex.seq ?_;refine tb (F6 i (O l)) (λh2=>?_) (λh2=>?_)
 .have h3:=C4 h2
  refine gr ?_;refine tB (F) ?_ (λh4=>?_) (λh4=>?_)
  .repeat' (first|refine gx ?_|refine fq (λhw=>?_) λhw=>?_|refine ⟨rfl,rfl,_,rfl,?_⟩|refine ⟨rfl,rfl⟩|fail)
   all_goals first|(simp [*,j3,gX];done)|(simp_all [j3,gX];done)|(simp_all [j3,gX,s9,s8,o8,D2];done)|(simp_all [j3,gX,s9,s8,o8,D2]<;>omega)
  .cases h4
  .refine gr ?_
   exact kk ⟨i+1,rfl,rfl,V⟩
 .have h3:=B5 h2
  refine gr ?_;exact ⟨_,rfl,rfl⟩
def BB (a b:C7):Bool:=F6 a.1 b.1||(u7 a.1 b.1&&F6 a.2 b.2)
def ZO (a b:C7):Pf A 107 [vA a,vA b] (.d (.bool (BB a b))):=by
 refine Pf.go 3 ?_;unfold vA
 repeat' (first|refine gy ?_|refine fq (λhw=>?_) λhw=>?_|refine ⟨_,rfl,?_⟩|fail)
 all_goals simp_all [j3,BB]
def JR (a b:A3):Bool:=BB a.src b.src||(gX a.src b.src&&BB a.dst b.dst)
def Dz (a b:A3):Bool:=gX a.src b.src&&gX a.dst b.dst
def MD (a b:A3):JR a b=W↔qy a b:=by
 simp only [JR,BB,gX,qy,s9,o8,Bool.or_eq_true,c7,decide_eq_true_eq,beq_iff_eq,and_true];omega
def ZM (a b:A3):Dz a b=W↔Br a b:=by
 simp only [Dz,gX,Br,c7,beq_iff_eq,and_true];omega
theorem SU (x:A3):∀l:List A3,∃i,i<=O l/\(∀j,j<i->JR (Y l j) x=W)/\(i<O l->JR (Y l i) x=F) /\
  jZ x l=if i<O l/\Dz (Y l i) x=W then l.take i++⟨(Y l i).src,(Y l i).dst,(Y l i).dat||x.dat⟩::l.drop (i+1) else l.take i++[x]++l.drop i
 |[]=>⟨0,by simp [jZ]⟩
 |y::l=>by
  have h4:Y (y::l) 0=y:=E6 U;have h0:∀j,j<O l->Y (y::l) (j+1)=Y l j:=λj hj=>by rw [E6 D,E6 hj];simp
  by_cases hy:qy y x
  .obtain ⟨i,h1,h2,h3,h5⟩:=SU x l
   refine ⟨i+1,D,λj hj=>?_,λhi=>?_,?_⟩
   .cases j with
    |zero=>rw [h4,MD];exact hy
    |succ j=>rw [h0 j V];exact h2 j V
   .simp at hi
    rw [h0 i hi];exact h3 hi
   .simp only [jZ,if_pos hy,h5]
    by_cases hi:i<O l
    .rw [h0 i hi]
     by_cases e:Dz (Y l i) x=W
     .simp [hi,e]
     .simp [e]
    .simp [hi]
  .refine ⟨0,U,λj hj=>V,λ_=>?_,?_⟩
   .rw [h4]
    have:=mt (MD y x).1 hy;simpa using this
   .simp only [jZ,if_neg hy,h4,ZM]
    by_cases e:Br y x<;>simp [e]
def XP (w:c8)(l:List A3):Prop:=w= .d (ak l)\/w=D9 5 A3.enc l
def XP.as {w:c8}{l:List A3}(h:XP w l):w.K7= .d (ak l):=by
 rcases h with rfl|rfl<;>rfl
set_option maxHeartbeats 8000000 in
def bq8 (l:List A3)(x:A3)(hl:O l<=100000):∃w,XP w (jZ x l)/\Pf A 50 [.d (ak l),flw x] w:=by
 obtain ⟨i,hi1,hi2,hi3,hi4⟩:=SU x l;have key:∀w,w=(if i<O l/\Dz (Y l i) x=W then c8.d (ak (l.take i++⟨(Y l i).src,(Y l i).dst,(Y l i).dat||x.dat⟩::l.drop (i+1))) else D9 5 A3.enc (l.take i++[x]++l.drop i))->XP w (jZ x l):=λw hw=>by
  rw [hi4,hw];split
  .exact .inl rfl
  .exact .inr rfl
 refine ⟨_,key _ rfl,?_⟩;refine Pf.go 4 ?_;unfold flw;refine gr ?_;refine Ex.aY (λk T H=>∃(j:Nat) (w1 w3 w5:c8),T=[.d (ak l),w1,.ptr 0 0,w3,.d (Z j),w5]/\H=[.cells (x.enc.map .d)]/\j+k=i) ?_ (k:=i) ⟨0,_,_,_,rfl,rfl,U⟩;rintro k _ _ ⟨j,w1,w3,w5,rfl,rfl,hk⟩;refine Ex.nT ?_;refine Ex.seq ?_;have hj:j<i\/j=i:=V
 have p1:=ZO (Y l j).src x.src;have p2:=ZO (Y l j).dst x.dst;refine tB (F6 j (O l)&&JR (Y l j) x) ?_ (λh1=>?_) (λh1=>?_)
 .repeat' (first|refine cl (p1) ?_|refine cl (p2) ?_|refine le (cs:=S7 (Y l j).src) ?_|refine le (cs:=S7 (Y l j).dst) ?_|refine lqo ?_|refine gx ?_|refine fq (λhw=>?_) λhw=>?_|refine ⟨rfl,rfl,_,rfl,?_⟩|refine ⟨rfl,rfl⟩|fail)
  all_goals first|(simp [*,j3,JR,gX];done)|(simp_all [j3,JR,gX];done)|(simp_all [j3,JR,gX,s9,s8,o8,D2];done)|(simp_all [j3,JR,gX,s9,s8,o8,D2]<;>omega)
 .simp only [c7] at h1
  have h2:=C4 h1.1;refine gr ?_;refine ⟨k - 1,?_,j+1,_,_,_,rfl,rfl,?_⟩
  .rcases hj with h|rfl
   .omega
   .have:=hi3 V;rw [this] at h1;cases h1.2
  .rcases hj with h|rfl
   .omega
   .have:=hi3 V;rw [this] at h1;cases h1.2
 obtain rfl:j=i:=by
  rcases hj with h|h
  .have:=hi2 j h
   rw [this,Bool.and_true] at h1;have:=B5 h1;omega
  .exact h
 refine gr ?_;refine tB (F6 j (O l)&&Dz (Y l j) x) ?_ (λh4=>?_) (λh4=>?_)
 .repeat' (first|refine cl (p1) ?_|refine cl (p2) ?_|refine le (cs:=S7 (Y l j).src) ?_|refine le (cs:=S7 (Y l j).dst) ?_|refine lqo ?_|refine gx ?_|refine fq (λhw=>?_) λhw=>?_|refine ⟨rfl,rfl,_,rfl,?_⟩|refine ⟨rfl,rfl⟩|fail)
  all_goals first|(simp [*,j3,Dz,gX];done)|(simp_all [j3,Dz,gX];done)|(simp_all [j3,Dz,gX,s9,s8,o8,D2];done)|(simp_all [j3,Dz,gX,s9,s8,o8,D2]<;>omega)
 .simp only [c7] at h4
  have h2:=C4 h4.1;rw [if_pos ⟨V,h4.2⟩]
  repeat' (first|refine Yr [] ?_|refine alE (enc:=A3.enc) (ys:=l) (h2:=?_)|refine gx ?_|fail)
  refine Ex.fz (JG (s:=5) rfl V rfl rfl (wE (λ_=>rfl) _)) ?_;have hsp:l=l.take j++Y l j::l.drop (j+1):=by rw [<- E0 V];exact (List.take_append_drop j l).symm
  have e1:(Y l j::l.drop (j+1)).flatMap A3.enc=(Y l j).enc++(l.drop (j+1)).flatMap A3.enc:=rfl;have hjl:O (J6 (l.take j))=j * 5:=by rw [J6,A7,Z1 (sz:=5) (λ_=>rfl),List.length_take,Nat.min_eq_left V]
  obtain ⟨f,hf⟩:∃f,Y l j=f:=⟨_,rfl⟩;obtain ⟨X,hX⟩:∃X,l.take j=X:=⟨_,rfl⟩;obtain ⟨d8,hY⟩:∃d8,l.drop (j+1)=d8:=⟨_,rfl⟩;have Zm:∀t:Bool,O l=O (X++⟨f.src,f.dst,t⟩::d8):=λt=>by rw [hsp,hf,hX,hY];simp
  rw [hf,hX,hY] at hsp;rw [hX] at hjl;rw [hf,hX,hY];have hE:(l.flatMap A3.enc).map c8.d=J6 X++(f.enc.map .d++J6 d8):=by rw [hsp];simp [J6,List.flatMap_append,List.flatMap_cons]
  have hrd:rd [.cells (x.enc.map .d),.cells (J6 X++(f.enc.map .d++J6 d8))] 1 (0+(j:Int).toNat * 5+4) 1=J [.d (.bool f.dat)]:=by
   simp only [rd,List.getElem?_cons_succ,List.getElem?_cons_zero,J9,Nat.zero_add];rw [if_pos (by simp [A3.enc,hjl];omega),<- List.drop_drop,<- hjl,List.drop_left];rfl
  have hwr:∀t:Bool,wr [.cells (x.enc.map .d),.cells (J6 X++(f.enc.map .d++J6 d8))] 1 (0+(j:Int).toNat * 5+4) [.d (.bool t)]=J [.cells (x.enc.map .d),.cells (J6 (X++⟨f.src,f.dst,t⟩::d8)++[])]:=λt=>by
   simp only [wr,List.getElem?_cons_succ,List.getElem?_cons_zero,splice,J9,Nat.zero_add];rw [if_pos (by simp [A3.enc,hjl];omega),<- hjl,List.take_length_add_append,O8,List.drop_length_add_append];simp [J6,A3.enc]
  simp only [T8,r9,s4,K0,List.map_nil,A8,B3,p8,y9,Nat.reduceAdd,hE];generalize (c8.d (ak l)).forget=w0;show Ex A W8 0 _ ⟨[w0,.any,.ptr 0 0,.any,.d (Z j),.B8 1 5 0 (O l)],[.cells (x.enc.map .d),.cells (J6 X++(f.enc.map .d++J6 d8))]⟩ _
  have h6:0<=(j:Int)/\(j:Int)<O l:=V
  cases hd:f.dat with
  |true =>
   rw [hd] at hrd
   repeat' (first|refine ixo h6 ?_|refine lpx hrd rfl ?_|refine sox (hwr W) (h2:=?_)|refine gx ?_|fail)
   exact ⟨_,YZ (s:=3) (p:=1) (ds:=X++⟨f.src,f.dst,W⟩::d8) (by rw [<- Zm W];rfl) rfl (by rw [<- Zm W];omega),rfl⟩
  |false =>
   rw [hd] at hrd
   repeat' (first|refine ixo h6 ?_|refine lpx hrd rfl ?_|refine sox (hwr x.dat) (h2:=?_)|refine gx ?_|fail)
   exact ⟨_,YZ (s:=3) (p:=1) (ds:=X++⟨f.src,f.dst,x.dat⟩::d8) (by rw [<- Zm x.dat];rfl) rfl (by rw [<- Zm x.dat];omega),rfl⟩
 .have e:¬ (j<O l/\Dz (Y l j) x=W):=by
   rintro ⟨g1,g2⟩;rw [g2,Bool.and_true] at h4;have:=B5 h4;omega
  rw [if_neg e];have h5:O (l.take j)<=100000:=D
  repeat' (first|refine Yr [] ?_|refine alE (enc:=A3.enc) (ys:=l.take j) (h2:=?_)|refine oN (enc:=A3.enc) x ?_|refine alN (enc:=A3.enc) (xs:=l.take j) (ys:=[x]) (h2:=?_)|refine alN (enc:=A3.enc) (xs:=l.take j++[x]) (ys:=l.drop j) (h2:=?_)|refine gx ?_|fail)
  exact ⟨_,rfl,rfl⟩
end Go.Proofs.YtibjocmpkoepoaaGreat
namespace Go.Proofs.YtibjocmpkoepoaaGreat
open Go.A1 Go.A1.S
def uj (ps qs:List C7)(d:Bool):List A3:=ps.flatMap λp=>qs.map λq=>⟨p,q,d⟩
def ic (e:List Y8):Nat->List Int
 |0=>[]
 |i+1=>if u7 (Y e i).op 2 then gv (ic e i) (Y e i).col else ic e i
def qA (e:List Y8)(ps:List C7):List C7:=(ic e (O e)).map λx=>Y ps x.toNat
def Wl (v:Vw)(L R:List C7):List C7:=[Y L 0]++(if P8 v.right [] then [] else [Y R 0])
def unR (s:Int)(L R:List C7):Nat->List A3
 |0=>[]
 |k+1=>unR s L R k++uj [Y L k,Y R k] [(s,(k:Int))] W
def WY (v:Vw)(s:Int)(n:Nat)(L R:List C7):Nat->List A3
 |0=>[]
 |k+1=>WY v s n L R k++uj [Y L (Y v.on k).1.toNat,Y R (Y v.on k).2.toNat] (ue s n) F
def KY (v:Vw)(s:Int)(n:Nat)(ps:List C7):Nat->List A3
 |0=>[]
 |k+1=>KY v s n ps k++(uj (qA (Y v.items k).expr ps) [(s,(k:Int))] W++(if v.distinct||u7 v.kind 1 then uj (qA (Y v.items k).expr ps) (ue s n) F else []))
def XQ (v:Vw)(s:Int)(ps:List C7):Nat->List A3
 |0=>[]
 |k+1=>XQ v s ps k++uj (qA (Y v.F4 k).expr ps) [(s,(O v.items:Int)+(k:Int))] W
def vwR (s:Int)(v:Vw)(n:Nat)(L R:List C7):List A3 :=
 uj (Wl v L R) (ue s n) F++(if u7 v.kind 2 then unR s L R n else WY v s n L R (O v.on)++uj (qA v.wh (L++R)) (ue s n) F++KY v s n (L++R) (O v.items)++XQ v s (L++R) (O v.F4))
def EZ (c:s5):Nat->List A3
 |0=>[]
 |i+1=>EZ c i++vwR ((O c.k9:Int)+(i:Int)) (Y c.views i) (O (P4 c (O c.k9+i))) (Ao c i) (pU c i)
def bA2 (c:s5):List A3:=kr c (O c.k9)++EZ c (O c.views)
theorem kj {d7 g:Nat->List A3}(h0:d7 0=[])(h:∀k,d7 (k+1)=d7 k++g k)(f:A3):∀k,f∈d7 k↔∃i,i<k/\f∈g i
 |0=>by simp [h0]
 |k+1=>by
  rw [h,D7,kj h0 h f k]
  grind
def aa0 {b:Bool}{l:List A3}{f:A3}:f∈(if b=W then l else [])↔b=W/\f∈l:=M
def TT {ps qs:List C7}{d:Bool}{f:A3}:f∈uj ps qs d↔f.src∈ps/\f.dst∈qs/\f.dat=d:=by
 obtain ⟨p,q,t⟩:=f
 grind [uj,A3.mk.injEq]
def SG {ps:List C7}{to:C7}{d:Bool}{f:A3}:f∈yJ ps to d↔f.src∈ps/\f.dst=to/\f.dat=d:=by
 obtain ⟨p,q,t⟩:=f
 grind [yJ,A3.mk.injEq]
theorem BX {s:Int}{q:C7}:∀{n},q∈ue s n↔∃i:Nat,i<n/\q=(s,(i:Int))
 |0=>by simp [ue]
 |n+1=>by
  rw [ue,D7,BX (n:=n),q8]
  grind
theorem JV {s:Int}:∀{n i},i<n->Y (ue s n) i=(s,(i:Int))
 |n+1,i,h=>by
  have hl:=dO s n
  rcases A5 i n with h1|h1
  .rw [<- JV h1,ue,E6 D,E6 V,List.getElem_append_left V]
  grind [ue,E6,List.getElem_append_right]
theorem Lh (n x:Int):∀l:List Int,x∈gv l n↔x∈l\/x=n
 |[]=>by simp [gv]
 |y::l=>by
  have:=Lh n x l
  grind [gv]
theorem yE (e:List Y8)(x:Int):∀i,x∈ic e i↔x∈jM e i
 |0=>by rfl
 |i+1=>by
  have:=yE e x i
  grind [ic,jM,Lh]
def Zy {e:List Y8}{ps:List C7}{q:C7}:q∈qA e ps↔q∈jY e ps:=by
 simp [qA,jY,ji,J4,nV,tu,yE]
def MV {α β:Type} [Inhabited α] [Inhabited β] {g:α->β}{l:List α}{i:Nat}(h:i<O l):Y (l.map g) i=g (Y l i):=by
 simp_all [E6]
theorem YL {v:Vw}{ps:List C7}{i:Nat}(h:i<O v.items+O v.F4):Y (tM v ps) i=if i<O v.items then jY (Y v.items i).expr ps else jY (Y v.F4 (i - O v.items)).expr ps:=by
 unfold tM nE Js;rw [H8,H8,E6 D,List.getElem_append];split
 .rw [if_pos M,<- E6,MV M]
 .have h1:¬ i<O v.items:=M
  rw [if_neg h1,<- E6,MV D];simp
def YJ {v:Vw}{L R:List C7}{q:C7}:q∈Jq v L R↔q∈jY v.wh (L++R)\/q=Y L 0\/(F6 0 (O R)=W/\q=Y R 0)\/(∃j,j<O v.on/\(q=Y L (Y v.on j).1.toNat\/q=Y R (Y v.on j).2.toNat))\/((u7 v.kind 1||v.distinct)=W/\∃j,j<O v.items/\q∈jY (Y v.items j).expr (L++R)):=by
 have e1:q∈onP v L R (O v.on)↔∃j,j<O v.on/\(q=Y L (Y v.on j).1.toNat\/q=Y R (Y v.on j).2.toNat):=by
  unfold onP;rw [H8,List.mem_flatMap];constructor
  .rintro ⟨p,hp,h⟩
   obtain ⟨i,hi,rfl⟩:=R3 hp;exact ⟨i,hi,by simp_all [E6]⟩
  grind [N8]
 have e2:q∈(nE v (L++R) (O v.items)).flatten↔∃j,j<O v.items/\q∈jY (Y v.items j).expr (L++R):=by
  unfold nE;rw [H8,List.mem_flatten];constructor
  .rintro ⟨d,hd,h⟩
   obtain ⟨x,hx,rfl⟩:=J4.1 hd;obtain ⟨i,hi,rfl⟩:=R3 hx;exact ⟨i,hi,by simp_all [E6]⟩
  grind [N8]
 simp_all [Jq]
def XK {s:Int}{v:Vw}{L R:List C7}{n:Nat}(hr:P8 v.right []= !F6 0 (O R))(h0:u7 v.kind 2=W->F6 0 (O R)=W)(hu:u7 v.kind 2=W->n=O L)(hn:u7 v.kind 2=F->n=O v.items+O v.F4)(f:A3):f∈mF s v L R↔f∈vwR s v n L R:=by
 have r1:∀k,f∈tO s L R k↔_:=kj (d7:=tO s L R) rfl (λ_=>rfl) f;have r2:∀ds cs k,f∈wV s ds cs k↔_:=λds cs=>kj (d7:=wV s ds cs) rfl (λ_=>rfl) f
 have r3:∀k,f∈unR s L R k↔_:=kj (d7:=unR s L R) rfl (λ_=>rfl) f;have r4:∀k,f∈WY v s n L R k↔_:=kj (d7:=WY v s n L R) rfl (λ_=>rfl) f;have r5:∀k,f∈KY v s n (L++R) k↔_:=kj (d7:=KY v s n (L++R)) rfl (λ_=>rfl) f;have r6:∀k,f∈XQ v s (L++R) k↔_:=kj (d7:=XQ v s (L++R)) rfl (λ_=>rfl) f;have rc:∀q,q∈Wl v L R↔q=Y L 0\/(F6 0 (O R)=W/\q=Y R 0):=λq=>by
  grind [Wl,F6]
 obtain ⟨p,q,d⟩:=f;unfold mF vwR;cases hk:u7 v.kind 2 with
 |true =>
  rw [if_pos rfl,if_pos rfl,D7,r1,r3,<- hu hk];simp only [D7,TT,SG,BX,rc,h0 hk,or_false]
  grind
 |false =>
  have hdl:O (tM v (L++R))=O v.items+O v.F4:=by simp [tM,nE,Js]
  rw [if_neg U,if_neg U,r2,hdl,<- hn hk];simp only [D7,r4,r5,r6,aa0,TT,SG,BX,rc,YJ,Zy,B6,List.not_mem_nil,or_false];have hdn:∀i,i<n->(p∈Y (tM v (L++R)) i↔if i<O v.items then p∈jY (Y v.items i).expr (L++R) else p∈jY (Y v.F4 (i - O v.items)).expr (L++R)):=λi hi=>by
   grind [YL]
  cases d
  .constructor
   .simp_all [C7]<;>grind
   grind
  .simp only [Bool.true_eq_false,and_false,or_false,false_or,and_true]
   constructor
   .grind
   .rintro (⟨i,hi,h,rfl⟩|⟨i,hi,h,rfl⟩)
    .grind
    .exact ⟨O v.items+i,M,(hdn _ M).2 (by grind),U⟩
def af7 {c:s5}(hv:F0 c=W)(f:A3):f∈lS c↔f∈bA2 c:=by
 unfold lS bA2;rw [D7,D7,kj (d7:=xD c (Ao c) (pU c)) rfl (λ_=>rfl),kj (d7:=EZ c) rfl (λ_=>rfl)];refine or_congr Iff.rfl (exists_congr λi=>and_congr_right λhi=>?_);obtain ⟨ok,_,hr,nu,un⟩:=Ib hv hi;refine XK ?_ (λh=>?_) (λh=>un h) (λh=>nu h) f
 .cases h:P8 (Y c.views i).right [] with
  |true =>
   simp_all [pU,if_pos,s9]
  |false =>
   have hg:=aM hv ((bY c (Y c.views i).right).toNat+1) (bY c (Y c.views i).right).toNat V (by grind [s5.ns]);have e:O (pU c i)=O (P4 c (bY c (Y c.views i).right).toNat):=by simp_all [pU,if_neg,BY]
   grind [s9]
 .have:=ok.un h
  have:=ok.l0
  grind [s9]
attribute [local irreducible] Rx Ry Rn Ex Pf
theorem Cs (n:Int):∀l:List Int,O (gv l n)<=O l+1
 |[]=>by simp [gv]
 |x::l=>by
  have:=Cs n l
  grind [gv]
theorem sY (e:List Y8):∀i,O (ic e i)<=i
 |0=>l6 _
 |i+1=>by
  have h1:=sY e i
  grind [ic,Cs,Y]
def av4 {e:List Y8}{i:Nat}(h:u7 (Y e i).op 2=W):ic e (i+1)=gv (ic e i) (Y e i).col:=by simp_all [ic]
def av3 {e:List Y8}{i:Nat}(h:u7 (Y e i).op 2=F):ic e (i+1)=ic e i:=by simp [ic,h]
def bq3 (e:List Y8)(he:O e<=800)(hv:Z4 e=W\/e=[]):Pf A 168 [gn e] (.d (ints (ic e (O e)))):=by
 have p1:=aM4 e V;refine Pf.gr 3 ?_;refine Ex.T9 (λk T H=>∃(i:Nat) (w2:c8),T=[gn e,.any,w2,.d (Z i)]/\H=[]/\IsL w2 (ic e i)/\i+k=O e) ?_ (k:=O e) ⟨0,_,rfl,rfl,.inr rfl,U⟩;rintro k _ _ ⟨i,w2,rfl,rfl,hw,hk⟩;have oK:=hw.as;refine Ex.seq ?_;refine tc (F6 i (O e)&&Z4 e) p1 (λh2=>?_) (λh2=>?_)
 .simp only [c7] at h2
  have h3:=C4 h2.1;refine gr ?_;refine tb (u7 (Y e i).op 2) (λh4=>?_) (λh4=>?_)
  .have hl:=sY e i
   obtain ⟨w5,hw5,p88⟩:=bx5 (ic e i) (Y e i).col V;rw [<- av4 h4] at hw5
   rcases hw5 with rfl|rfl
   .repeat' (first|refine wS oK ?_|refine cl (p88) ?_|refine gx ?_|fail)
    exact kk ⟨i+1,_,rfl,rfl,.inl rfl,V⟩
   .repeat' (first|refine wS oK ?_|refine cl (p88) ?_|refine gx ?_|fail)
    exact kk ⟨i+1,_,rfl,rfl,.inr rfl,V⟩
  .refine gr ?_
   exact kk ⟨i+1,_,rfl,rfl,by rw [av3 h4];exact hw,V⟩
 .have h4:i=O e:=by
   simp only [Bool.and_eq_false_iff] at h2
   rcases hv with hv|rfl
   .rcases h2 with h2|h2
    .have:=B5 h2;omega
    .rw [hv] at h2;cases h2
   .simp at hk ⊢;omega
  subst h4
  repeat' (first|refine wS oK ?_|refine gx ?_|fail)
  exact ⟨_,rfl,rfl⟩
def ZP (e:List Y8)(ps:List C7)(he:O e<=800)(hv:Z4 e=W\/e=[])(hp:O ps<=10000)(hc:∀x,x∈ji e->0<=x/\x<O ps):Pf A 109 [gn e,.d (J1 ps)] (.d (J1 (qA e ps))):=by
 have p1:=bq3 e he hv;have hcl:=sY e (O e);have hc:∀x,x∈ic e (O e)->0<=x/\x<O ps:=λx hx=>hc x (by simpa only [ji,nV,tu,yE] using hx)
 unfold qA;obtain ⟨cs,hcs⟩:∃cs,ic e (O e)=cs:=⟨_,rfl⟩;rw [hcs] at p1 hcl hc ⊢;refine Pf.go 4 ?_;refine gc p1 ?_;refine Ex.T9 (λk T H=>∃(i:Nat) (acc:List C7),T=[.any,.d (J1 ps),.any,D9 2 S7 acc,.d (ints cs),.d (Z i)]/\H=[]/\i+k=O cs/\acc=(cs.take i).map λx=>Y ps x.toNat) ?_ (k:=O cs) ⟨0,[],rfl,rfl,U,U⟩;rintro k _ _ ⟨i,acc,rfl,rfl,hk,hacc⟩;have vM:O acc<=10000:=by rw [hacc];simp;omega
 refine Ex.seq ?_;refine tb (F6 i (O cs)) (λh2=>?_) (λh2=>?_)
 .have h3:=C4 h2
  have h4:=hc _ (N8 (l:=cs) (i:=i) V)
  repeat' (first|refine oN (enc:=S7) (Y ps (Y cs i).toNat) ?_|refine XR (ys:=[Y ps (Y cs i).toNat]) (h2:=?_)|refine gx ?_|fail)
  exact kk ⟨i+1,acc++[Y ps (Y cs i).toNat],rfl,rfl,V,by rw [hacc,E2 V];simp⟩
 .have h3:=B5 h2
  obtain rfl:i=O cs:=V
  refine gr ?_;exact ⟨_,rfl,by rw [hacc];simp [j3,J1,C6]⟩
def ZR (c:s5)(hs:G4 c)(s:Int)(h:Y2 c s=W)(hl:O (P4 c s.toNat)<=2000):Pf A 48 [cat c,.d (Z s)] (.d (J1 (ue s (O (P4 c s.toNat))))):=by
 have p2:=ad9 c hs _ h;obtain ⟨ty,uZ⟩:∃ty,P4 c s.toNat=ty:=⟨_,rfl⟩;rw [uZ] at p2 hl ⊢;refine Pf.gr 4 ?_;refine Ex.T9 (λk T H=>∃(i:Nat) (acc:List C7),T=[.any,.d (Z s),.ptr 0 0,.any,D9 2 S7 acc,.d (Z i)]/\H=[.cells (c.enc.map .d)]/\i+k=O ty/\acc=ue s i) ?_ (k:=O ty) ⟨0,[],rfl,rfl,U,rfl⟩;rintro k _ _ ⟨i,acc,rfl,rfl,hk,hacc⟩;have vM:O acc<=10000:=by rw [hacc,dO];omega
 refine Ex.seq ?_;refine tc (F6 i (O ty)) p2 (λh2=>?_) (λh2=>?_)
 .have h3:=C4 h2
  repeat' (first|refine Bu (cs:=(S7 (s,(i:Int))).map .d) ?_|refine oN (enc:=S7) (s,(i:Int)) ?_|refine XR (ys:=[(s,(i:Int))]) (h2:=?_)|refine gx ?_|fail)
  exact kk ⟨i+1,acc++[(s,(i:Int))],rfl,rfl,V,by rw [hacc];rfl⟩
 .have h3:=B5 h2
  obtain rfl:i=O ty:=V
  refine gr ?_;exact ⟨_,rfl,by rw [hacc];simp [j3,J1,C6]⟩
theorem ku (ps qs:List C7)(d:Bool):O (uj ps qs d)=O ps * O qs:=by
 induction ps with
 |nil=>simp [uj]
 |cons p ps ih =>
  grind [uj,n5,A7,p8,Nat.succ_mul]
def ak9 (ps qs:List C7)(d:Bool){i:Nat}(h:i<O ps):uj (ps.take (i+1)) qs d=uj (ps.take i) qs d++qs.map λq=>⟨Y ps i,q,d⟩:=by
 simp_all [uj,E2]
set_option maxHeartbeats 8000000 in
def DA (l:List A3)(ps qs:List C7)(d:Bool)(hl:O l+O ps * O qs<=100000)(hp:O ps<=1000)(hq:O qs<=1000):Pf A 108 [.d (ak l),.d (J1 ps),.d (J1 qs),.d (.bool d)] (.d (ak (N4 l (uj ps qs d)))):=by
 refine Pf.gr 3 ?_;refine Ex.ru (λk T H=>∃(i:Nat) (w0 w4 w6:c8),T=[w0,.d (J1 ps),.d (J1 qs),.d (.bool d),w4,.d (Z i),w6]/\H=[]/\XP w0 (N4 l (uj (ps.take i) qs d))/\i+k=O ps) M ?_ (k:=O ps) ⟨0,_,_,_,rfl,rfl,.inl rfl,U⟩;rintro k _ _ ⟨i,w0,w4,w6,rfl,rfl,hw,hk⟩;refine Ex.nT ?_;refine Ex.seq ?_;refine tl i (O ps) (λh3=>?_) (λh3=>?_)
 .have e1:=ak9 ps qs d (i:=i) V
  refine gr ?_;refine Ex.ru (λk T H=>∃(j:Nat) (w0 w4:c8),T=[w0,.d (J1 ps),.d (J1 qs),.d (.bool d),w4,.d (Z i),.d (Z j)]/\H=[]/\XP w0 (N4 (N4 l (uj (ps.take i) qs d)) ((qs.take j).map λq=>⟨Y ps i,q,d⟩))/\j+k=O qs) M ?_ (k:=O qs) ⟨0,_,_,rfl,rfl,hw,U⟩;clear hw;rintro m _ _ ⟨j,w0,w4,rfl,rfl,hw,hm⟩;refine Ex.nT ?_;refine Ex.seq ?_;refine tl j (O qs) (λg3=>?_) (λg3=>?_)
  .obtain ⟨L,hL⟩:∃L,N4 (N4 l (uj (ps.take i) qs d)) ((qs.take j).map λq=>⟨Y ps i,q,d⟩)=L:=⟨_,rfl⟩
   have hLl:O L<=100000:=by
    have a1:=aL ((qs.take j).map λq=>(⟨Y ps i,q,d⟩:A3)) (N4 l (uj (ps.take i) qs d));have a2:=aL (uj (ps.take i) qs d) l;rw [ku] at a2;rw [hL] at a1;have a3:(O (ps.take i)+1) * O qs<=O ps * O qs:=Nat.mul_le_mul_right _ D
    grind
   have hLn:N4 (N4 l (uj (ps.take i) qs d)) ((qs.take (j+1)).map λq=>⟨Y ps i,q,d⟩)=jZ ⟨Y ps i,Y qs j,d⟩ L:=by
    rw [E2 V,List.map_append,Z8,hL];rfl
   rw [hL] at hw;have oK:=hw.as;obtain ⟨w5,hw5,p50⟩:=bq8 L ⟨Y ps i,Y qs j,d⟩ hLl;rw [<- hLn] at hw5
   rcases hw5 with rfl|rfl
   .repeat' (first|refine wS oK ?_|refine Bu (cs:=(A3.enc ⟨Y ps i,Y qs j,d⟩).map .d) ?_|refine cl (p50) ?_|refine gx ?_|fail)
    exact ⟨m - 1,V,j+1,_,_,rfl,rfl,.inl rfl,V⟩
   .repeat' (first|refine wS oK ?_|refine Bu (cs:=(A3.enc ⟨Y ps i,Y qs j,d⟩).map .d) ?_|refine cl (p50) ?_|refine gx ?_|fail)
    exact ⟨m - 1,V,j+1,_,_,rfl,rfl,.inr rfl,V⟩
  .obtain rfl:j=O qs:=V
   rw [H8,<- Z8,<- e1] at hw;refine gr ?_;exact kk ⟨i+1,_,_,_,rfl,rfl,hw,V⟩
 .obtain rfl:i=O ps:=V
  rw [H8] at hw;have oK:=hw.as
  repeat' (first|refine wS oK ?_|refine gx ?_|fail)
  exact ⟨_,rfl,rfl⟩
theorem nP (e:List Y8)(ps:List C7):O (qA e ps)<=O e:=by
 simp_all [sY,qA]
theorem KM (s:Int)(L R:List C7):∀k,O (unR s L R k)=2 * k
 |0=>rfl
 |k+1=>by
  have:=KM s L R k
  grind [unR,n5,ku,p8,y9]
theorem JX (v:Vw)(s:Int)(n:Nat)(L R:List C7)(hn:n<=8):∀k,O (WY v s n L R k)<=16 * k
 |0=>by simp [WY]
 |k+1=>by
  have:=JX v s n L R hn k
  grind [WY,n5,ku,dO,p8,y9]
theorem JM (v:Vw)(s:Int)(n:Nat)(ps:List C7)(hn:n<=8)(h:∀i,i<O v.items->O (Y v.items i).expr<=64):∀k,k<=O v.items->O (KY v s n ps k)<=576 * k
 |0,_=>by simp [KY]
 |k+1,hk=>by
  have h1:=JM v s n ps hn h k V;have h2:=nP (Y v.items k).expr ps;have h3:=h k V;have h4:O (qA (Y v.items k).expr ps) * n<=64 * 8:=Nat.mul_le_mul V hn
  grind [KY,n5,ku,p8,y9,dO]
theorem Je (v:Vw)(s:Int)(ps:List C7)(h:∀i,i<O v.F4->O (Y v.F4 i).expr<=64):∀k,k<=O v.F4->O (XQ v s ps k)<=64 * k
 |0,_=>by simp [XQ]
 |k+1,hk=>by
  have h1:=Je v s ps h k V
  grind [nP,Y,XQ,n5,ku,p8,y9]
def Ss (v:Vw)(L R:List C7):O (Wl v L R)<=2:=by
 grind [Wl]
def aG6 {c:s5}(hv:F0 c=W){i:Nat}(hi:i<O c.views):O (vwR ((O c.k9:Int)+(i:Int)) (Y c.views i) (O (P4 c (O c.k9+i))) (Ao c i) (pU c i))<=6000:=by
 have gY:s5.ns c=O c.k9+O c.views:=rfl;obtain ⟨ok,_,_,_,_⟩:=Ib hv hi;have hg:=aM hv (O c.k9+i+1) (O c.k9+i) V V;obtain ⟨n,hn⟩:∃n,O (P4 c (O c.k9+i))=n:=⟨_,rfl⟩;rw [hn] at hg ⊢;obtain ⟨l0,l8,r8,s6,on8,on,wh,it,ag,unl⟩:=ok;have h1:O (Wl (Y c.views i) (Ao c i) (pU c i)) * n<=2 * 8:=Nat.mul_le_mul (Ss _ _ _) hg.2.1;have h2:=JX (Y c.views i) ((O c.k9:Int)+(i:Int)) n (Ao c i) (pU c i) hg.2.1 (O (Y c.views i).on);have h3:=JM (Y c.views i) ((O c.k9:Int)+(i:Int)) n (Ao c i++pU c i) hg.2.1 (λj hj=>(it j hj).len) _ (l6 _);have h4:=Je (Y c.views i) ((O c.k9:Int)+(i:Int)) (Ao c i++pU c i) (λj hj=>(ag j hj).len) _ (l6 _);have h5:=nP (Y c.views i).wh (Ao c i++pU c i);have h6:O (qA (Y c.views i).wh (Ao c i++pU c i)) * n<=64 * 8:=Nat.mul_le_mul (by have:=wh.len;omega) hg.2.1
 grind [KM,Ao,pU,vwR,n5,ku,dO]
def Xc (s:Int){n i:Nat}(h:i<n):((ue s n).take (i+1)).drop i=[(s,(i:Int))]:=by
 grind [dO,E2,n9,JV]
set_option maxHeartbeats 32000000 in
def ca5 (c:s5)(hs:G4 c)(hv:F0 c=W)(l:List A3)(i:Nat)(hi:i<O c.views)(hl:O l<=80000) :
  Pf A 51 [.d (ak l),cat c,.d (Z ((O c.k9:Int)+(i:Int)))] (.d (ak (N4 l (vwR ((O c.k9:Int)+(i:Int)) (Y c.views i) (O (P4 c (O c.k9+i))) (Ao c i) (pU c i))))):=by
 have gY:s5.ns c=O c.k9+O c.views:=rfl;obtain ⟨f0,f1,_⟩:=id hs.sm.oW;obtain ⟨ok,⟨l1,l2,l3⟩,hr,nu,un⟩:=Ib hv hi;have hg:=aM hv (O c.k9+i+1) (O c.k9+i) V V;have hst:Y2 c ((O c.k9:Int)+(i:Int))=W:=by simp only [Y2,hv,Bool.true_and,s8,s9,c7,decide_eq_true_eq];omega
 have e0:((O c.k9:Int)+(i:Int)).toNat=O c.k9+i:=V
 have pA:=ZR c hs _ hst (by rw [e0];omega);rw [e0] at pA;have pfL:=ba3 c hs (Y c.views i).left;have pfR:=ba3 c hs (Y c.views i).right;rw [Ze] at pfL pfR;have gl:=aM hv ((bY c (Y c.views i).left).toNat+1) (bY c (Y c.views i).left).toNat V V;have pL:Pf A 48 [cat c,.d (Z (bY c (Y c.views i).left))] (.d (J1 (Ao c i))):=ZR c hs _ l1 V;have pR:P8 (Y c.views i).right []=F->Pf A 48 [cat c,.d (Z (bY c (Y c.views i).right))] (.d (J1 (pU c i)))/\0<O (pU c i):=λh=>by
  obtain ⟨r1,r2,r3⟩:=hr h;have:=aM hv ((bY c (Y c.views i).right).toNat+1) (bY c (Y c.views i).right).toNat V V;have e:pU c i=plN c (Y c.views i).right:=by unfold pU;rw [if_neg (by simp [h])]
  rw [e,BY];exact ⟨ZR c hs _ r1 V,V⟩
 have hr0:P8 (Y c.views i).right []=W->pU c i=[]:=λh=>by unfold pU;rw [if_pos h]
 obtain ⟨l0,l8,r8,s6,on8,on,wh,it,ag,unl⟩:=ok;obtain ⟨v,hvd⟩:∃v,Y c.views i=v:=⟨_,rfl⟩;obtain ⟨L,hL⟩:∃L,Ao c i=L:=⟨_,rfl⟩;obtain ⟨R,hR⟩:∃R,pU c i=R:=⟨_,rfl⟩;obtain ⟨n,hn⟩:∃n,O (P4 c (O c.k9+i))=n:=⟨_,rfl⟩;obtain ⟨s,WJ⟩:∃s,(O c.k9:Int)+(i:Int)=s:=⟨_,rfl⟩;rw [hvd] at pfL pfR pL pR hr0 s6 on8 on wh it ag unl nu un;rw [hL] at pL l0 l8 on wh it ag unl un;rw [hR] at pR hr0 r8 on wh it ag unl;rw [hn] at pA hg nu un;rw [WJ] at pA;rw [hvd,hL,hR,hn,WJ];clear hr l1 l2 l3 gl hst e0;refine Pf.run [.d (ak l),cat c,.d (Z s),.any,.any,.any,.any,.any,.any,.any,.any,.any,.any,.any,.any,.any] rfl rfl rfl rfl ?_
 repeat' (first|refine ixI (e:=s - (O c.k9:Int)) i (h2:=?_)|refine gx ?_|fail)
 rw [hvd];refine gc (And.intro pA (And.intro pfL pL)) ?_;have ht1:L.take 1=[Y L 0]:=by
  cases L with
  |nil=>simp at l0
  |cons a q=>simp [Y]
 have vM:=dO s n;obtain ⟨Q,hQ⟩:∃Q,ue s n=Q:=⟨_,rfl⟩;have vN:∀k,k<n->(Q.take (k+1)).drop k=[(s,(k:Int))]:=λk hk=>by rw [<- hQ];exact Xc s hk
 rw [hQ] at vM;rw [hQ];refine Ex.RL (λst=>∃w8 w9 Ic:c8,w8.K7= .d (J1 (L++R))/\w9.K7= .d (J1 (Wl v L R))/\Ic.K7= .d (J1 R)/\st=⟨[.d (ak l),cat c,.d (Z s),.ptr 0 0,.own 5 0 [],.ptr 1 0,.d (J1 Q),.d (J1 L),w8,w9,Ic,.any,.any,.any,.any,.any],[.cells (c.enc.map .d),.cells (v.enc.map .d)]⟩) ?_ ?_
 .skip
  refine tb (!P8 v.right []) (λh=>?_) (λh=>?_)
  .have h' :P8 v.right []=F:=by simpa using h
   obtain ⟨pR,hR0⟩:=pR h'
   repeat' (first|refine cl (pfR) ?_|refine cl (pR) ?_|refine Yr [] ?_|refine alE (enc:=S7) (ys:=L) (h2:=?_)|refine alN (enc:=S7) (xs:=L) (ys:=R) (h2:=?_)|refine alE (enc:=S7) (ys:=L.take 1) (h2:=?_)|refine ixZ (h2:=?_)|refine oN (enc:=S7) (Y R 0) ?_|refine alN (enc:=S7) (xs:=L.take 1) (ys:=[Y R 0]) (h2:=?_)|refine gx ?_|fail)
   exact ⟨_,_,_,rfl,by rw [ht1];unfold Wl;rw [h'];rfl,rfl,rfl⟩
  .have h' :P8 v.right []=W:=by simpa using h
   refine gr ?_;have e:=hr0 h';exact ⟨_,_,_,by rw [e,List.append_nil];rfl,by rw [ht1];unfold Wl;rw [h'];rfl,by rw [e];rfl,rfl⟩
 rintro _ ⟨w8,w9,Ic,h8,h9,h10,rfl⟩;have hcl:=Ss v L R;have m1:O (Wl v L R) * O Q<=2 * 8:=Nat.mul_le_mul hcl V;have p1:=DA l (Wl v L R) Q F V V V;have a1:=aL (uj (Wl v L R) Q F) l;rw [ku] at a1;unfold vwR;rw [Z8,hQ]
 repeat' (first|refine wS h9 ?_|refine cl (p1) ?_|refine gx ?_|fail)
 obtain ⟨l1,PS⟩:∃l1,N4 l (uj (Wl v L R) Q F)=l1:=⟨_,rfl⟩;rw [PS] at a1;rw [PS];have hL2:O l1<=80016:=V
 clear p1 m1 a1 PS h9 pL pfL pfR pA;refine tb (u7 v.kind 2) (λhk=>?_) (λhk=>?_)
 .have hnL:=un hk
  have hRl:=unl hk;rw [if_pos hk];refine gr ?_;refine Ex.ru (λq T H=>∃(k:Nat) (w1 w2 w3 w4 w5 w8 w9 Om TW On w15:c8),T=[.d (ak (N4 l1 (unR s L R k))),w1,w2,w3,w4,w5,.d (J1 Q),.d (J1 L),w8,w9,Ic,.d (Z k),Om,TW,On,w15]/\H=[.cells (c.enc.map .d),.cells (v.enc.map .d)]/\k+q=n) (by rintro _ _ _ ⟨_,_,_,_,_,_,_,_,_,_,_,_,_,rfl,_⟩;rfl) ?_ (k:=n) ⟨0,_,_,_,_,_,_,_,_,_,_,_,rfl,rfl,U⟩;rintro q _ _ ⟨k,w1,w2,w3,w4,w5,w8,w9,Om,TW,On,w15,rfl,rfl,hkq⟩;refine Ex.nT ?_;refine Ex.seq ?_;refine tb (F6 k (O Q)) (λg1=>?_) (λg1=>?_)
  .have g2:=C4 g1
   have a2:=aL (unR s L R k) l1;rw [KM] at a2;have e1:=vN k V;have p2:Pf A 108 [.d (ak (N4 l1 (unR s L R k))),.d (J1 [Y L k,Y R k]),.d (J1 ((Q.take (k+1)).drop k)),.d (.bool W)] (.d (ak (N4 l1 (unR s L R (k+1))))):=by
    rw [e1,unR,Z8];exact DA _ [Y L k,Y R k] [(s,(k:Int))] W D U U
   repeat' (first|refine wS h10 ?_|refine Yr (S7 (Y L k)++S7 (Y R k)) ?_|refine cl (p2) ?_|refine gx ?_|fail)
   exact ⟨q - 1,V,k+1,_,_,_,_,_,_,_,_,_,_,_,rfl,rfl,V⟩
  .have g2:=B5 g1
   obtain rfl:k=n:=V
   refine gr ?_;exact ⟨_,rfl,rfl⟩
 have hnc:=nu hk;rw [if_neg (by simp [hk]),Z8,Z8,Z8];have hLR:O (L++R)<=16:=D
 refine gr ?_;refine Ex.ru (λq T H=>∃(k:Nat) (w1 w2 w3 w4 w9 Ol TW On w15:c8),T=[.d (ak (N4 l1 (WY v s n L R k))),w1,w2,w3,w4,.ptr 1 0,.d (J1 Q),.d (J1 L),w8,w9,Ic,Ol,.d (Z k),TW,On,w15]/\H=[.cells (c.enc.map .d),.cells (v.enc.map .d)]/\k+q=O v.on) (by rintro _ _ _ ⟨_,_,_,_,_,_,_,_,_,_,_,rfl,_⟩;rfl) ?_ (k:=O v.on) ⟨0,_,_,_,_,_,_,_,_,_,rfl,rfl,U⟩;rintro q _ _ ⟨k,w1,w2,w3,w4,w9,Ol,TW,On,w15,rfl,rfl,hkq⟩;have a2:=aL (WY v s n L R k) l1;have a3:=JX v s n L R hg.2.1 k;refine Ex.nT ?_;refine Ex.seq ?_;refine tb (F6 k (O v.on)) (λg1=>?_) (λg1=>?_)
 .have g2:=C4 g1
  obtain ⟨q1,q2,q3,q4⟩:=on k V;have p2:Pf A 108 [.d (ak (N4 l1 (WY v s n L R k))),.d (J1 [Y L (Y v.on k).1.toNat,Y R (Y v.on k).2.toNat]),.d (J1 Q),.d (.bool F)] (.d (ak (N4 l1 (WY v s n L R (k+1))))):=by
   rw [WY,Z8,hQ];exact DA _ [Y L (Y v.on k).1.toNat,Y R (Y v.on k).2.toNat] Q F D U V
  repeat' (first|refine wS h10 ?_|refine Yr (S7 (Y L (Y v.on k).1.toNat)++S7 (Y R (Y v.on k).2.toNat)) ?_|refine cl (p2) ?_|refine gx ?_|fail)
  exact ⟨q - 1,V,k+1,_,_,_,_,_,_,_,_,_,rfl,rfl,V⟩
 have g2:=B5 g1;obtain rfl:k=O v.on:=V
 obtain ⟨l2,pH⟩:∃l2,N4 l1 (WY v s n L R (O v.on))=l2:=⟨_,rfl⟩;rw [pH] at a2;rw [pH];have hL3:O l2<=80144:=V
 clear g1 g2 a2 a3 hkq;have i1:=nP v.wh (L++R);have i2:=wh.len;have m2:O (qA v.wh (L++R)) * O Q<=64 * 8:=Nat.mul_le_mul V V;have p3:=ZP v.wh (L++R) V wh.ok V wh.col;have p4:=DA l2 (qA v.wh (L++R)) Q F V V V;have a4:=aL (uj (qA v.wh (L++R)) Q F) l2;rw [ku] at a4
 repeat' (first|refine wS h8 ?_|refine cl (p3) ?_|refine cl (p4) ?_|refine gx ?_|fail)
 obtain ⟨l3,hl3⟩:∃l3,N4 l2 (uj (qA v.wh (L++R)) Q F)=l3:=⟨_,rfl⟩;rw [hl3] at a4;rw [hl3];have hL4:O l3<=80656:=V
 clear p3 p4 a4 m2 i1 i2;refine Ex.ru (λq T H=>∃(k:Nat) (w1 w2 w3 w4 w7 w9 Ic Ol Om On w15:c8),T=[.d (ak (N4 l3 (KY v s n (L++R) k))),w1,w2,w3,w4,.ptr 1 0,.d (J1 Q),w7,w8,w9,Ic,Ol,Om,.d (Z k),On,w15]/\H=[.cells (c.enc.map .d),.cells (v.enc.map .d)]/\k+q=O v.items) (by rintro _ _ _ ⟨_,_,_,_,_,_,_,_,_,_,_,_,_,rfl,_⟩;rfl) ?_ (k:=O v.items) ⟨0,_,_,_,_,_,_,_,_,_,_,_,rfl,rfl,U⟩;rintro q _ _ ⟨k,w1,w2,w3,w4,w7,w9,Ic,Ol,Om,On,w15,rfl,rfl,hkq⟩;have a2:=aL (KY v s n (L++R) k) l3;have a3:=JM v s n (L++R) hg.2.1 (λj hj=>(it j hj).len) k V;refine Ex.nT ?_;refine Ex.seq ?_;refine tb (F6 k (O v.items)) (λg1=>?_) (λg1=>?_)
 .have g2:=C4 g1
  obtain ⟨e1,e2,e3⟩:=it k V;have i1:=nP (Y v.items k).expr (L++R);have p3:=ZP (Y v.items k).expr (L++R) V e2 V e3;have e4:=vN k V;obtain ⟨X,hX⟩:∃X,qA (Y v.items k).expr (L++R)=X:=⟨_,rfl⟩;rw [hX] at p3 i1;have m2:O X * O Q<=64 * 8:=Nat.mul_le_mul V V;have p4:Pf A 108 [.d (ak (N4 l3 (KY v s n (L++R) k))),.d (J1 X),.d (J1 ((Q.take (k+1)).drop k)),.d (.bool W)] (.d (ak (N4 (N4 l3 (KY v s n (L++R) k)) (uj X [(s,(k:Int))] W)))):=by
   rw [e4];exact DA _ X [(s,(k:Int))] W D V U
  have a4:=aL (uj X [(s,(k:Int))] W) (N4 l3 (KY v s n (L++R) k));rw [ku] at a4;simp only [p8,y9] at a4;have p5:=DA (N4 (N4 l3 (KY v s n (L++R) k)) (uj X [(s,(k:Int))] W)) X Q F V V V;have e5:N4 l3 (KY v s n (L++R) (k+1))=if v.distinct||u7 v.kind 1 then N4 (N4 (N4 l3 (KY v s n (L++R) k)) (uj X [(s,(k:Int))] W)) (uj X Q F) else N4 (N4 l3 (KY v s n (L++R) k)) (uj X [(s,(k:Int))] W):=by
   rw [KY,Z8,Z8,hX,hQ];split<;>rfl
  repeat' (first|refine wS h8 ?_|refine cl (p3) ?_|refine cl (p4) ?_|refine gx ?_|fail)
  refine tb (v.distinct||u7 v.kind 1) (λg3=>?_) (λg3=>?_)
  .rw [g3,if_pos rfl] at e5
   refine gc p5 ?_;exact ⟨q - 1,V,k+1,_,_,_,_,_,_,_,_,_,_,_,by rw [e5];rfl,rfl,V⟩
  .rw [g3,if_neg U] at e5
   refine gr ?_;exact ⟨q - 1,V,k+1,_,_,_,_,_,_,_,_,_,_,_,by rw [e5];rfl,rfl,V⟩
 have g2:=B5 g1;obtain rfl:k=O v.items:=V
 obtain ⟨l4,hl4⟩:∃l4,N4 l3 (KY v s n (L++R) (O v.items))=l4:=⟨_,rfl⟩;rw [hl4] at a2;rw [hl4];have hL5:O l4<=85264:=V
 clear g1 g2 a2 a3 hkq;refine gr ?_;refine Ex.ru (λq T H=>∃(k:Nat) (w1 w2 w3 w4 w7 w9 Ic Ol Om TW On:c8),T=[.d (ak (N4 l4 (XQ v s (L++R) k))),w1,w2,w3,w4,.ptr 1 0,.d (J1 Q),w7,w8,w9,Ic,Ol,Om,TW,On,.d (Z k)]/\H=[.cells (c.enc.map .d),.cells (v.enc.map .d)]/\k+q=O v.F4) (by rintro _ _ _ ⟨_,_,_,_,_,_,_,_,_,_,_,_,_,rfl,_⟩;rfl) ?_ (k:=O v.F4) ⟨0,_,_,_,_,_,_,_,_,_,_,_,rfl,rfl,U⟩;rintro q _ _ ⟨k,w1,w2,w3,w4,w7,w9,Ic,Ol,Om,TW,On,rfl,rfl,hkq⟩;have a2:=aL (XQ v s (L++R) k) l4;have a3:=Je v s (L++R) (λj hj=>(ag j hj).len) k V;refine Ex.nT ?_;refine Ex.seq ?_;refine tb (F6 k (O v.F4)) (λg1=>?_) (λg1=>?_)
 .have g2:=C4 g1
  obtain ⟨e1,e2,e3⟩:=ag k V;have i1:=nP (Y v.F4 k).expr (L++R);have p3:=ZP (Y v.F4 k).expr (L++R) V e2 V e3;have e4:=vN (O v.items+k) V;have p4:Pf A 108 [.d (ak (N4 l4 (XQ v s (L++R) k))),.d (J1 (qA (Y v.F4 k).expr (L++R))),.d (J1 ((Q.take (O v.items+k+1)).drop (O v.items+k))),.d (.bool W)] (.d (ak (N4 l4 (XQ v s (L++R) (k+1))))):=by
   rw [e4,XQ,Z8,Int.natCast_add];exact DA _ _ [(s,(O v.items:Int)+(k:Int))] W D V U
  repeat' (first|refine wS h8 ?_|refine cl (p3) ?_|refine cl (p4) ?_|refine gx ?_|fail)
  exact ⟨q - 1,V,k+1,_,_,_,_,_,_,_,_,_,_,_,rfl,rfl,V⟩
 have g2:=B5 g1;obtain rfl:k=O v.F4:=V
 refine gr ?_;exact ⟨_,rfl,rfl⟩
theorem Eb {s6:List gu}{x:Int}:∀{k},x∈rI s6 k->0<=x/\x<k
 |0,h=>by simp [rI] at h
 |k+1,h=>by
  rw [rI,D7] at h
  rcases h with h|h
  .have:=Eb h;omega
  grind
def cK {c:s5}(hv:F0 c=W):O c.k9<=8/\O c.views<=12:=by
 have h:=(xC hv).2.1;unfold tooMany at h;simp [J3] at h;have h1:=B5 h.1.1;have h2:=B5 h.1.2;omega
set_option maxHeartbeats 16000000 in
def aL8 (c:s5)(hs:G4 c)(hv:F0 c=W):Pf A 18 [cat c] (.d (ak (dc c))):=by
 have p40:=Ng c hs;rw [hv] at p40;have h8:=cK hv;have gY:s5.ns c=O c.k9+O c.views:=rfl;have hc8:∀i,i<O c.k9->O (Y c.k9 i).s6<=8:=λi hi=>(Qp c hv hi).1
 refine Pf.gr 9 ?_;refine tc (!true) p40 (λh1=>?_) (λh1=>?_)
 .cases h1
 refine gr ?_;refine Ex.aY (λk T H=>∃(t:Nat) (w0 w2 w3 w5 w6 w7 w8 w9:c8),T=[w0,.ptr 0 0,w2,w3,.d (Z t),w5,w6,w7,w8,w9]/\H=[.cells (c.enc.map .d)]/\XP w3 (N4 [] (kr c t))/\t+k=O c.k9/\O (kr c t)<=t * 64) ?_ (k:=O c.k9) ⟨0,_,_,_,_,_,_,_,_,rfl,rfl,.inr rfl,U,by simp [kr]⟩;rintro k _ _ ⟨t,w0,w2,w3,w5,w6,w7,w8,w9,rfl,rfl,hw,hk,htl⟩;refine Ex.nT ?_;refine Ex.seq ?_;refine tb (F6 t (O c.k9)) (λh2=>?_) (λh2=>?_)
 .have h3:=C4 h2
  have hst:Y2 c (t:Int)=W:=by simp only [Y2,hv,Bool.true_and,s8,s9,c7,decide_eq_true_eq];omega
  have e1:F6 (t:Int) 0=F:=by simp [s9]
  have e2:cg (O c.k9:Int) t=F:=by simp [s8];omega
  have hit:tY c t=W:=by rw [yT,e1,e2,hv];rfl
  have hcl:=hc8 t V;have hct:O (P4 c t)=O (Y c.k9 t).s6:=by rw [wu c V];simp
  have pA:=ZR c hs t hst (by rw [J9];omega);rw [J9,hct] at pA;have pP:=bx2 c hs t hit;have SQ:∀x∈kX c t,0<=x/\x<O (Y c.k9 t).s6:=λx hx=>by
   unfold kX at hx;rw [J9] at hx;exact Eb hx
  have Du:O (kX c t)<=8:=by have:=od (Y c.k9 t).s6 (O (Y c.k9 t).s6);unfold kX;rw [J9];omega
  have eT:kr c (t+1)=kr c t++(if u7 (Y c.k9 t).erase 1 then iM t (O (Y c.k9 t).s6) (kX c t) else []):=rfl;obtain ⟨n,hn⟩:∃n,O (Y c.k9 t).s6=n:=⟨_,rfl⟩;obtain ⟨P,hP⟩:∃P,kX c t=P:=⟨_,rfl⟩;obtain ⟨i4,hF⟩:∃i4,kr c t=i4:=⟨_,rfl⟩;rw [hn,hP,hF] at eT;rw [hn] at pA SQ hcl;rw [hP] at pP SQ Du;rw [hF] at hw htl;have vM:=dO (t:Int) n;have hel:∀k:Nat,k<n->Y (ue (t:Int) n) k=((t:Int),(k:Int)):=λk hk=>JV hk
  obtain ⟨Q,hQ⟩:∃Q,ue (t:Int) n=Q:=⟨_,rfl⟩;rw [hQ] at pA vM hel;have hq:∀k,O (iM t n (P.take k))<=64:=λk=>by
   have h1:=rZ t n (P.take k);have h2:O (P.take k) * n<=8 * 8:=Nat.mul_le_mul D hcl;omega
  refine gc (And.intro pA pP) ?_;refine Ex.aY (λk T H=>∃(i:Nat) (w0 w2 w3 w8 w9:c8),T=[w0,.ptr 0 0,w2,w3,.d (Z t),.d (J1 Q),.d (ints P),.d (Z i),w8,w9]/\H=[.cells (c.enc.map .d)]/\XP w3 (N4 [] (i4++iM t n (P.take i)))/\i+k=O P/\(u7 (Y c.k9 t).erase 1=F->i=0)) ?_ (k:=O P) ⟨0,_,_,_,_,_,rfl,rfl,by simpa [iM] using hw,U,λ_=>rfl⟩;clear hw;rintro m _ _ ⟨i,w0,w2,w3,w8,w9,rfl,rfl,hw,hm,hi0⟩;refine Ex.nT ?_;refine Ex.seq ?_;refine tb (F6 i (O P)&&u7 (Y c.k9 t).erase 1) (λg2=>?_) (λg2=>?_)
  .simp only [c7] at g2
   have g3:=C4 g2.1;have hpi:=SQ _ (N8 (l:=P) (i:=i) V);have e6:iM t n (P.take (i+1))=iM t n (P.take i)++mX t (Y P i) n:=by
    unfold iM;rw [E2 V];simp
   have hqi:=hq i;have eA:Y Q (Y P i).toNat=((t:Int),Y P i):=by
    rw [hel _ V,Int.toNat_of_nonneg hpi.1]
   refine gr ?_;refine Ex.aY (λk T H=>∃(j:Nat) (w0 w2 w3 w9:c8),T=[w0,.ptr 0 0,w2,w3,.d (Z t),.d (J1 Q),.d (ints P),.d (Z i),.d (Z j),w9]/\H=[.cells (c.enc.map .d)]/\XP w3 (N4 [] (i4++iM t n (P.take i)++mX t (Y P i) j))/\j+k=n) ?_ (k:=n) ⟨0,_,_,_,_,rfl,rfl,by simpa [mX] using hw,U⟩;clear hw;rintro q _ _ ⟨j,w0,w2,w3,w9,rfl,rfl,hw,hq2⟩;have oK:=hw.as;refine Ex.nT ?_;refine Ex.seq ?_;refine tl j (O Q) (λf3=>?_) (λf3=>?_)
   .have hjn:j<n:=V
    have eJ:=hel j hjn;have Zm:O (N4 [] (i4++iM t n (P.take i)++mX t (Y P i) j))<=100000:=by
     have a1:=aL (i4++iM t n (P.take i)++mX t (Y P i) j) [];have a2:=xA t (Y P i) j;simp only [n5,y9] at a1;omega
    obtain ⟨w5,hw5,p50⟩:=bq8 _ ⟨Y Q (Y P i).toNat,Y Q j,F⟩ Zm;refine gr ?_;refine tb (!u7 j (Y P i)) (λf5=>?_) (λf5=>?_)
    .have eN:jZ ⟨Y Q (Y P i).toNat,Y Q j,F⟩ (N4 [] (i4++iM t n (P.take i)++mX t (Y P i) j))=N4 [] (i4++iM t n (P.take i)++mX t (Y P i) (j+1)):=by
      rw [mX,f5,if_pos rfl,<- D3,Z8 [] _ (yJ _ _ _),eA,eJ];rfl
     rw [eN] at hw5
     rcases hw5 with rfl|rfl
     .repeat' (first|refine wS oK ?_|refine Bu (cs:=(A3.enc ⟨Y Q (Y P i).toNat,Y Q j,F⟩).map .d) ?_|refine cl (p50) ?_|refine gx ?_|fail)
      exact ⟨q - 1,V,j+1,_,_,_,_,rfl,rfl,.inl rfl,V⟩
     .repeat' (first|refine wS oK ?_|refine Bu (cs:=(A3.enc ⟨Y Q (Y P i).toNat,Y Q j,F⟩).map .d) ?_|refine cl (p50) ?_|refine gx ?_|fail)
      exact ⟨q - 1,V,j+1,_,_,_,_,rfl,rfl,.inr rfl,V⟩
    .refine gr ?_
     exact ⟨q - 1,V,j+1,_,_,_,_,rfl,rfl,by simpa only [mX,f5,j4,if_false,List.append_nil] using hw,V⟩
   .obtain rfl:j=n:=V
    refine gr ?_;exact ⟨m - 1,V,i+1,_,_,_,_,_,rfl,rfl,by rw [e6,<- D3];exact hw,V,λh=>by rw [h] at g2;simp at g2⟩
  .refine gr ?_
   refine kk ⟨t+1,_,_,_,_,_,_,_,_,rfl,rfl,?_,V,?_⟩
   .rw [eT]
    cases he:u7 (Y c.k9 t).erase 1 with
    |true =>
     rw [he,Bool.and_true] at g2;have:=B5 g2;rw [z7 V] at hw;simpa using hw
    |false =>
     obtain rfl:=hi0 he;simpa [iM] using hw
   .rw [eT,n5]
    have:=hq (O P);rw [H8] at this;split<;>simp<;>omega
 have h3:=B5 h2;obtain rfl:t=O c.k9:=V
 refine gr ?_;refine Ex.T9 (λk T H=>∃(i:Nat) (w3:c8),T=[.any,.ptr 0 0,.any,w3,.any,.any,.any,.any,.any,.d (Z i)]/\H=[.cells (c.enc.map .d)]/\XP w3 (N4 [] (kr c (O c.k9)++EZ c i))/\i+k=O c.views/\O (EZ c i)<=i * 6000) ?_ (k:=O c.views) ⟨0,_,rfl,rfl,by simpa [EZ] using hw,U,by simp [EZ]⟩;clear hw;rintro k _ _ ⟨i,w3,rfl,rfl,hw,hk,hvl⟩;have oK:=hw.as;refine Ex.seq ?_;refine tl i (O c.views) (λh5=>?_) (λh5=>?_)
 .have a1:=aL (kr c (O c.k9)++EZ c i) []
  simp only [n5,y9] at a1;have p51:=ca5 c hs hv (N4 [] (kr c (O c.k9)++EZ c i)) i V V;rw [<- Z8,D3] at p51
  repeat' (first|refine wS oK ?_|refine cl (p51) ?_|refine gx ?_|fail)
  refine kk ⟨i+1,_,rfl,rfl,.inl rfl,V,?_⟩;have:=aG6 hv (i:=i) V;rw [EZ,n5];omega
 .obtain rfl:i=O c.views:=V
  have e:N4 [] (kr c (O c.k9)++EZ c (O c.views))=dc c:=YO (af7 hv);rw [e] at oK
  repeat' (first|refine wS oK ?_|refine gx ?_|fail)
  exact ⟨_,rfl,rfl⟩
def bq2 (l:List A3)(hl:O l<=9223372036854775807):Pf A 16 [.d (ak l),.d (ak l)] (.d (.bool W)):=by
 refine Pf.gr 2 ?_;refine tB (F) ?_ (λh1=>?_) (λh1=>?_)
 .repeat' (first|refine gx ?_|refine fq (λhw=>?_) λhw=>?_|refine ⟨rfl,rfl,_,rfl,?_⟩|refine ⟨rfl,rfl⟩|fail)
  all_goals first|(done)|(done)|(done)|(simp_all [o8]<;>omega)
 .cases h1
 refine gr ?_;refine Ex.T9 (λk T H=>∃(i:Nat),T=[.d (ak l),.d (ak l),.any,.d (Z i)]/\H=[]/\i+k=O l) ?_ (k:=O l) ⟨0,rfl,rfl,U⟩;rintro k _ _ ⟨i,rfl,rfl,hk⟩;refine Ex.seq ?_;refine tl i (O l) (λh3=>?_) (λh3=>?_)
 .refine gr ?_
  refine tb (F) (λh4=>?_) (λh4=>?_)
  .cases h4
  .refine gr ?_
   exact kk ⟨i+1,rfl,rfl,V⟩
 .refine gr ?_
  exact ⟨_,rfl,rfl⟩
theorem bx3:Pf A 58 [.d (.slice 0 []),.func 60 [] []] (.d (.slice 0 [])):=Pf.Tq (n:=50) (by kernel_rfl)
set_option maxHeartbeats 16000000 in
def bq5 (c:s5)(p:C7)(hs:G4 c)(hv:F0 c=W)(ht:O c.k9<=8)(hw:O c.views<=12)(hp:aD (Y1 c) p=W)(hne:dc c=[]):Pf A 21 [cat c,vA p] (.d (ak (Kx [] (O c.k9) p))):=by
 have p46:=Xb c hs;rw [hv] at p46;have p57:=aB8 c hs hv;have p47:=p47 c hs hv ht hw;have Dv:O (Y1 c)<=20:=by unfold Y1;rw [gO];have:s5.ns c=O c.k9+O c.views:=rfl;omega
 obtain ⟨w,hwe⟩:∃w,Y1 c=w:=⟨_,rfl⟩;have WZ:=aB7 (Y1 c) p V;rw [hp] at WZ;rw [hwe] at p57 Dv WZ;rw [hne] at p47;refine Pf.gr 11 ?_;refine tc (!(W&&W)) (And.intro p46 (And.intro p57 WZ)) (λh1=>?_) (λh1=>?_)
 .cases h1
 refine gc p47 ?_;have b0:(y6.cells (c.enc.map .d)).L7<=3:=by rw [BH];omega
 have b1:(y6.cells [.d (Z p.1),.d (Z p.2)]).L7<=3:=by simp [y6.L7,C5,c8.L7]
 repeat' (first|refine Ex.region (Rn.aB3 2 [.cells (c.enc.map .d),.cells [.d (Z p.1),.d (Z p.2)]] [] (h:=?_))|refine cp (bq9 _ _) U ?_|refine Bv bx3 ?_|refine gx ?_|fail)
 have hb0:P0 [.cells (c.enc.map .d),.cells [.d (Z p.1),.d (Z p.2)]]=0:=by
  have b3:C5 (c.enc.map .d)=0:=jD _;simp [P0,b3,y6.L7,C5,c8.L7]
 refine vm ?_;refine vc (m:=0) (rM (H:=[]) (l:=W8) (ds:=[]) (v:= .d (.slice 0 [])) rfl U) rfl ?_;refine vp (rs:=[1]) (vA p) (by rfl) (h2:=?_);refine vp (rs:=[]) (D9 2 S7 [p]) (by rfl) (h2:=?_);refine vcp (ZS (H0:=[.cells (c.enc.map .d),.cells [.d (Z p.1),.d (Z p.2)]]) (.inr (.inl ⟨_,_,rfl⟩)) hb0 (jq []) [p] (by simp [jq]) U) U ?_;refine vmT (v:= .map 2) ?_ ⟨rfl,λ_ _ _ h=>by cases h⟩;refine vn ?_;obtain ⟨S1,hS1⟩:∃S1,og (jq []) [p]=S1:=⟨_,rfl⟩;rw [hS1];obtain ⟨S2,hS2⟩:∃S2,og (jq []) [p]=S2:=⟨_,rfl⟩
 repeat' (first|refine Ex.region (Rn.aB3 3 [.cells (c.enc.map .d),.cells [.d (Z p.1),.d (Z p.2)],.map (cm S1),.dead] [.slot 12] (h:=?_))|refine gx ?_|fail)
 refine vm ?_;refine vc (m:=0) (rM (H:=[]) (l:=W8) (ds:=[]) (v:= .d (ak [])) (bA7 [] []) U) rfl ?_;refine vp (rs:=[1]) (vA p) (by rfl) (h2:=?_);refine vp (rs:=[]) (D9 2 S7 [p]) (by rfl) (h2:=?_);have XY:P0 [.cells (c.enc.map .d),.cells [.d (Z p.1),.d (Z p.2)],.map (cm S1),.dead]=0:=by
  have b3:C5 (c.enc.map .d)=0:=jD _;have b4:=wM S1;simp only [P0,b4];simp [b3,y6.L7,C5,c8.L7]
 have Xa:=ZS (H0:=[.cells (c.enc.map .d),.cells [.d (Z p.1),.d (Z p.2)],.map (cm S1),.dead]) (.inr (.inr (.inr (.inl ⟨_,_,_,_,rfl⟩)))) XY (jq []) [p] (by simp [jq]) U;rw [hS2] at Xa;refine vcp Xa U ?_;have hn2:O S2<=1000000:=by
  have:=oh (jq []) [p];rw [hS2] at this;simp [jq] at this;omega
 have p63:=λq=>aY5 [.cells (c.enc.map .d),.cells [.d (Z p.1),.d (Z p.2)],.map (cm S1),.dead] S2 hn2 q
 have hb6:P0 ([.cells (c.enc.map .d),.cells [.d (Z p.1),.d (Z p.2)],.map (cm S1),.dead]++[.map (cm S2)])<=5:=by rw [Cz,XY];omega
 refine vcT (m:=5) (p63 _) rfl ?_ (qm:=hb6) (hcl:=fG (k:=7) hb6);refine vpT (rs:=[]) (.d (Z (O (sortP S2)))) (by rfl) (h2:=?_) (hv:=⟨rfl,λ_ _ _ h=>by cases h⟩);refine vk ?_;refine vn ?_;obtain ⟨qs,hqs⟩:∃qs,sortP S2=qs:=⟨_,rfl⟩;have hql:O qs<=1000000:=by rw [<- hqs,Y4];exact hn2
 have eF:Kx [] (O c.k9) p=jr (O c.k9) p S1 qs:=by rw [<- hqs,<- hS2,<- hS1];rfl
 rw [eF];rw [hqs];refine gr ?_;refine Ex.au (λk T H=>∃i:Nat,T=[.any,.any,.ptr 0 0,.ptr 1 0,.any,.any,.any,.map 2,D9 5 A3.enc (jr (O c.k9) p S1 (qs.take i)),.any,D9 2 S7 qs,.d (Z (O qs)),.d (Z i)]/\H=[.cells (c.enc.map .d),.cells [.d (Z p.1),.d (Z p.2)],.map (cm S1),.dead,.map (cm S2)]/\i+k=O qs) ?_ (k:=O qs) ⟨0,rfl,rfl,U⟩;rintro k _ _ ⟨i,rfl,rfl,hk⟩;refine Ex.seq ?_;refine tb (F6 i (O qs)) (λh2=>?_) (λh2=>?_)
 .have h3:=C4 h2
  have e1:jr (O c.k9) p S1 (qs.take (i+1))=jr (O c.k9) p S1 (qs.take i)++(if F6 (Y qs i).1 (O c.k9) then [⟨Y qs i,p,decide (Y qs i∈S1)⟩] else []):=by
   rw [E2 V];simp only [jr,List.filter_append,List.map_append]
   congr 1
   simp only [List.filter_cons,List.filter_nil];split<;>simp_all
  obtain ⟨r,hr⟩:∃r,Y qs i=r:=⟨_,rfl⟩;obtain ⟨acc,hacc⟩:∃acc,jr (O c.k9) p S1 (qs.take i)=acc:=⟨_,rfl⟩;have vM:O acc<=1000000:=by
   rw [<- hacc];simp only [jr,A7];refine C9 (List.length_filter_le _ _) ?_;simp;omega
  rw [hacc,hr] at e1;refine gr ?_;rw [hacc,hr];refine tb (F6 r.1 (O c.k9)) (λh4=>?_) (λh4=>?_)
  .repeat' (first|refine lk1 (tq r S1) (DD r S1) ?_|refine Bu (cs:=(A3.enc ⟨r,p,decide (r∈S1)⟩).map .d) ?_|refine oN (enc:=A3.enc) (⟨r,p,decide (r∈S1)⟩:A3) ?_|refine XR (ys:=[(⟨r,p,decide (r∈S1)⟩:A3)]) (h2:=?_)|refine gx ?_|fail)
   exact kk ⟨_,_,O3 (j9 rfl) hb6,i+1,by rw [e1,h4];rfl,rfl,V⟩
  .refine gr ?_
   exact kk ⟨_,_,O3 (j9 rfl) hb6,i+1,by rw [e1,h4];simp;rfl,rfl,V⟩
 .have h3:=B5 h2
  obtain rfl:i=O qs:=V
  rw [H8];refine gr ?_;exact ⟨_,rfl,rfl⟩
def bq4 (c:s5)(p:C7)(hs:G4 c)(hv:F0 c=W)(ht:O c.k9<=8)(hw:O c.views<=12)(hp:aD (Y1 c) p=W):Pf A 21 [cat c,vA p] (.d (ak (Kx (dc c) (O c.k9) p))):=by
 rcases Nat.eq_zero_or_pos (O (dc c)) with h|h
 .have e:=List.length_eq_zero_iff.1 h
  rw [e];exact bq5 c p hs hv ht hw hp e
 .exact ca1 c p hs hv ht hw hp h
end Go.Proofs.YtibjocmpkoepoaaGreat


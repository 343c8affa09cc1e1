import Derived.Test.YtibjocmpkoepoaaGreatN0
import Derived.Test.YtibjocmpkoepoaaGreatT0
set_option linter.all false
open Bool renaming and_eq_true→c9,false_eq_true→j6,not_eq_true'→o9,or_eq_false_iff→B2,true→W,false→F
open Int renaming toNat_natCast→G6
open List renaming cons_append→x4,getElem_of_mem→E0,length_append→j9,length_cons→n9,length_map→A3,length_nil→y4,map_cons→G7,mem_append→G4,mem_cons→K2,nil_append→y5,set_cons_succ→o7,set_cons_zero→o8,take_length→D3,take_of_length_le→s9,length→O
open Nat renaming le_of_ble_eq_true→j5,le_refl→k9,le_trans→o5,lt_or_ge→y8,reduceAdd→K5,zero_le→s8
open Option renaming some→J,none→K
namespace Go.Proofs.YtibjocmpkoepoaaGreat
open Go.z6 Go.z6.S
attribute [local irreducible] Rx Ry Rn Ex Pf
mutual
theorem ET {ty:List Int}:∀a:Y9,a.wf->s7 (a.typ ty).2 0=W->∀t,t∈a.flat->s7 t.op 2=W->0<=t.col/\t.col<O ty
 | .node t l,hw,h,t',ht',h2=>by
  obtain ⟨hok,Vp,Fg⟩:=hw;simp [Y9.typ] at h;split at h
  next h1=>
   simp [Y9.flat,K2] at ht'
   rcases ht' with rfl|ht'
   .have e1:s7 t'.op 1=F:=by simp_all [o6]
    simp [xM,e1,h2,if_true,j6,if_false] at h;split at h
    all_goals simp_all [o6,nO,Bool.not_eq_true,uO,bG,if_true,j6,if_false,c9,gU]
   .exact Ap l Fg h1 t' ht' h2
  simp_all
theorem Ap {ty:List Int}:∀l:List Y9,OT l->s7 (eU ty l).2 0=W->∀t,t∈K9 l->s7 t.op 2=W->0<=t.col/\t.col<O ty
 |[],_,_,t,h,_=>by simp [K9] at h
 |a::l,hw,h,t,ht,h2=>by
  simp [eU] at h;split at h
  next h1=>
   simp [K9,G4] at ht
   rcases ht with ht|ht
   .exact ET a hw.1 h1 t ht h2
   .exact Ap l hw.2 h t ht h2
  simp_all
end
theorem Hy {e:List Q9}{ty:List Int}(h:s7 (K4 e ty).2 0=W):Au e (O ty):=by
 unfold K4 at h;split at h
 .simp [o6] at h
 next a ha=>
  split at h
  .obtain ⟨e1,e2,e3⟩:=ua ha
   have hb:U1 e=W:=by grind [ee]
   refine ⟨?_,.inl hb,λx hx=>?_⟩
   .grind [U1,r7]
   .obtain ⟨t,ht,h1,rfl⟩:=JH hx
    rw [e1] at ht;exact ET a e2 h t ht h1
  grind [o6]
theorem vT (n:Nat):Au [] n:=⟨U,.inr rfl,λx hx=>by simp_all [zl]⟩
theorem CM {ty:List Int}:∀(l:List yV) (seen:List I4),W3 ty seen l=0->∀e,e∈l->Au e.expr (O ty)
 |[],_,_,e,he=>by cases he
 |a::l,seen,h,e,he=>by
  have ih:=CM (ty:=ty) l (seen++[a.name]);unfold W3 at h;split at h
  .omega
  .split at h
   .omega
   .split at h
    .omega
    .split at h
     .rcases K2.1 he with rfl|he
      all_goals simp_all [c9,Bool.true_and,Bool.or_eq_true,not_or,s4,decide_eq_true_eq,List.length_eq_zero_iff,vT]
     grind [o6,Hy]
theorem Ed {l r:List Int}:∀(on:List (Int×Int)),L8 l r on=0->∀i,i<O on->0<=(Y on i).1/\(Y on i).1<O l/\0<=(Y on i).2/\(Y on i).2<O r
 |[],_,i,hi=>by simp at hi
 |p::ps,h,i,hi=>by
  unfold L8 at h;split at h
  .omega
  next h1=>
   split at h
   .omega
   .simp [p9,r7] at h1
    cases i with
    |zero =>
     grind [A7]
    |succ i =>
     have h2:i<O ps:=M
     have:=Ed ps h i h2;simp_all [A7]
theorem Be {c:p7}(hv:C4 c=W){s:I4}{k:Nat}(h:0<=F0 c s k):M4 c s=F0 c s k/\R5 c (M4 c s)=W:=by
 have e1:M4 c s=eH c s:=(FO c s).symm;have hl:=S3 c;have e2:eH c s=F0 c s k:=by
  unfold eH
  grind [F0,s9,zK]
 grind [J8,R5,r7,s4]
def Uw (c:p7)(s:I4):List C8:=yg (M4 c s) (O (M3 c (M4 c s).toNat))
def tE (c:p7)(i:Nat):List C8:=Uw c (Y c.views i).left
def kF (c:p7)(i:Nat):List C8:=if K7 (Y c.views i).right [] then [] else Uw c (Y c.views i).right
def gK (c:p7):List D8:=iG c (O c.j7)++xS c (tE c) (kF c) (O c.views)
def dN (c:p7):List D8:=aL (Y4 (gK c)) (O (gK c))
def uQ (c:p7)(s:I4):O (Uw c s)=O (M3 c (M4 c s).toNat):=de _ _
def Lv {v:Vw}{L R:List C8}(h:KY v L R):O (FE v L R)<=600:=by
 have h1:=lM v.wh (L++R);have h2:=h.wh.len;have h3:=Bv v L R (O v.on);have h4:=h.XE;have h5:=h.o4;have h6:=oC (d9:=jE v (L++R) (O v.items)) (λd hd=>vM h.it h.ag d (List.mem_append_left _ hd))
 grind [jE,FE,j9,n9,y4]
def Ar {v:Vw}{L R:List C8}(h:KY v L R)(s:Int):O (mG s v L R)<=6000:=by
 unfold mG;split
 .have:=xR s L R (O L)
  have:=h.l8;omega
 .have h1:=Lv h
  have h2:O (pX v (L++R))<=8:=by have:=h.o4;grind [pX,jE,AV]
  have h3:=wV s (pX v (L++R)) (FE v L R) (λi hi=>vM h.it h.ag _ (E7 hi)) _ (k9 _);have h4:O (pX v (L++R)) * (64+O (FE v L R))<=8 * 664:=Nat.mul_le_mul h2 V;omega
structure aa6 (c:p7)(i:Nat):Prop where
 ok:KY (Y c.views i) (tE c i) (kF c i)
 lf:R5 c (M4 c (Y c.views i).left)=W/\0<=M4 c (Y c.views i).left/\M4 c (Y c.views i).left<O c.j7+i
 rt:K7 (Y c.views i).right []=F->R5 c (M4 c (Y c.views i).right)=W/\0<=M4 c (Y c.views i).right/\M4 c (Y c.views i).right<O c.j7+i
 nu:s7 (Y c.views i).kind 2=F->O (M3 c (O c.j7+i))=O (Y c.views i).items+O (Y c.views i).E3
 un:s7 (Y c.views i).kind 2=W->O (M3 c (O c.j7+i))=O (tE c i)
def EY {c:p7}(hv:C4 c=W){i:Nat}(hi:i<O c.views):aa6 c i:=by
 obtain ⟨h1,_,h3⟩:=W6 hv;have aO:p7.ns c=O c.j7+O c.views:=rfl;have hnl:=P6 c;have tj:=bK (h1 (O c.j7+i) V) V V;obtain ⟨k,hk⟩:∃k,O c.j7+i=k:=⟨_,rfl⟩;have ev:T7 c k=Y c.views i:=by grind [T7,Nat.add_sub_cancel_left]
 have hg:∀q,q<k->1<=O (M3 c q)/\O (M3 c q)<=8:=λq hq=>by
  grind [Y0]
 rw [hk] at tj;unfold T1 lT rT at tj;rw [ev] at tj;obtain ⟨v,RZ⟩:∃v,Y c.views i=v:=⟨_,rfl⟩;rw [RZ] at tj ev;split at tj
 .omega
 .split at tj
  .omega
  next hl=>
   split at tj
   .omega
   next hsh=>
    simp only [Bool.not_eq_true,B2] at hl;have f1:=A9 hl.1;have f2:K7 v.right []=F->0<=F0 c v.right k:=λh=>by
     simp_all [Bool.not_false,Bool.true_and,A9]
    have b1:=J8 c v.left k;have b2:=J8 c v.right k;obtain ⟨g1,g2⟩:=Be hv f1;have hlf:R5 c (M4 c v.left)=W/\0<=M4 c v.left/\M4 c v.left<(O c.j7:Int)+i:=⟨g2,V,V⟩;have Mq:K7 v.right []=F->R5 c (M4 c v.right)=W/\0<=M4 c v.right/\M4 c v.right<(O c.j7:Int)+i:=λh=>by
     grind [Be]
    have el:tE c i=Uw c v.left:=by simp_all [tE]
    have er:kF c i=if K7 v.right [] then [] else Uw c v.right:=by simp_all [kF]
    have ll:O (tE c i)=O (M3 c (F0 c v.left k).toNat):=by rw [el,uQ,g1]
    have lr:K7 v.right []=F->O (kF c i)=O (M3 c (F0 c v.right k).toNat):=λh=>by
     rw [er,h,if_neg U,uQ,(Be hv (f2 h)).1]
    have lr0:K7 v.right []=W->kF c i=[]:=λh=>M
    have l1:=hg (F0 c v.left k).toNat V;have r1:O (kF c i)<=8:=by
     grind
    have eL:Y (ki c k) (F0 c v.left k).toNat=M3 c (F0 c v.left k).toNat:=S4 c V;have eR:O (if K7 v.right [] then [] else Y (ki c k) (F0 c v.right k).toNat)=O (kF c i):=by
     cases h:K7 v.right [] with
     |true=>simp_all
     |false =>
      have:=f2 h;rw [lr h,if_neg U,S4 c V]
    have hin:O (ins c k)=O (tE c i++kF c i):=by
     unfold ins wA;rw [show Y c.views (k - O c.j7)=v from ev,j9,eL,eR,j9,ll]
    have ect:M3 c k=if s7 v.kind 2 then Y (ki c k) (F0 c v.left k).toNat else X7 v (ins c k):=by
     grind [M3,fC,ins,Y]
    rw [<- RZ] at hlf Mq;rw [<- ll] at l1;have Xc:(O (Y (ki c k) (F0 c v.left k).toNat):Nat)=O (tE c i):=by rw [eL,ll]
    obtain ⟨RT,hRT⟩:∃RT,(if K7 v.right [] then [] else Y (ki c k) (F0 c v.right k).toNat)=RT:=⟨_,rfl⟩;rw [hRT] at tj eR
    by_cases h2:s7 v.kind 2=W
    .rw [if_pos h2] at tj
     have PR:Z6 v=W:=M
     unfold Z6 at PR;rw [if_pos h2] at PR;simp only [c9,o9,o6,decide_eq_true_eq,beq_iff_eq] at PR;have ZM:O v.on=0:=V
     have hit:O v.items=0:=V
     have hag:O v.E3=0:=V
     have oF:O (tE c i)=O (kF c i):=by
      rw [<- Xc,<- eR];refine Decidable.byContradiction λhne=>?_
      simp_all [mW]
     refine ⟨?_,hlf,Mq,?_,?_⟩
     .rw [RZ]
      refine ⟨V,l1.2,r1,V,V,λj hj=>V,?_,λj hj=>V,λj hj=>V,λ_=>V⟩;simp_all [vT]
     all_goals simp_all
    .rw [if_neg h2] at tj
     have h2f:s7 v.kind 2=F:=M
     have PR:Z6 v=W:=M
     have hR:iF v=W:=by
      grind [Z6]
     unfold iF at hR;simp only [c9,r7,decide_eq_true_eq] at hR;obtain ⟨⟨_,ho8⟩,ZD⟩:=hR;split at tj
     .simp_all [o6]
     next h3=>
      have h3:L8 (Y (ki c k) (F0 c v.left k).toNat) RT v.on=0:=by simp_all [o6]
      have hpo:=Ed v.on h3;split at tj
      .simp_all
      next h4=>
       split at tj
       .omega
       .have hce:=CM (aM v) [] tj
        rw [hin] at hce;have ZR:Au v.wh (O (tE c i++kF c i)):=by
         rcases Nat.eq_zero_or_pos (O v.wh) with h0|h0
         all_goals grind [List.length_eq_zero_iff,vT,Hy,e0,D0,s4]
        refine ⟨?_,hlf,Mq,?_,?_⟩
        .rw [RZ]
         refine ⟨V,l1.2,r1,V,V,λj hj=>?_,ZR,λj hj=>?_,λj hj=>?_,λh=>absurd h h2⟩
         .simp_all
         .have:=hce ⟨F,(Y v.items j).name, -1,(Y v.items j).expr⟩ (List.mem_append_left _ (List.mem_map.2 ⟨_,E7 hj,rfl⟩))
          exact this
         .have:=hce ⟨W,(Y v.E3 j).name,(Y v.E3 j).func,(Y v.E3 j).expr⟩ (List.mem_append_right _ (List.mem_map.2 ⟨_,E7 hj,rfl⟩))
          exact this
        all_goals simp_all [if_neg,X7,absurd]
def FF (c:p7)(hv:C4 c=W){i:Nat}(hi:i<O c.j7):O (Y c.j7 i).o4<=8/\1<=O (Y c.j7 i).o4:=by
 have h:=Y0 hv (i+1) i V (by grind [p7.ns]);simp_all [M3,Y,fC,if_pos,A3]
def UQ {c:p7}(hs:D9 c)(hv:C4 c=W){i:Nat}(hi:i<O c.views):Ru c i (tE c i) (kF c i):=by
 obtain ⟨ok,⟨l1,l2,l3⟩,hr,_,_⟩:=EY hv hi;have aO:p7.ns c=O c.j7+O c.views:=rfl;refine ⟨ok,?_,λh=>?_,λh=>?_,Ar ok⟩
 .have:=Y0 hv ((M4 c (Y c.views i).left).toNat+1) (M4 c (Y c.views i).left).toNat V V
  exact Sq c hs _ l1 V
 .obtain ⟨r1,r2,r3⟩:=hr h
  have:=Y0 hv ((M4 c (Y c.views i).right).toNat+1) (M4 c (Y c.views i).right).toNat V V;have e:kF c i=Uw c (Y c.views i).right:=by simp_all [kF,if_neg]
  rw [e];exact Sq c hs _ r1 V
 simp_all [kF,if_pos]
def cR (l:List D8):z6.Data:=x3 D8.enc l
def p47 (c:p7)(hs:D9 c)(hv:C4 c=W)(ht:O c.j7<=8)(hw:O c.views<=12):Pf A 47 [cat c] (.d (cR (dN c))) :=
 at4 c hs hv ht (λ_ hi=>(FF c hv hi).1) hw (tE c) (kF c) λ_ hi=>UQ hs hv hi
end Go.Proofs.YtibjocmpkoepoaaGreat
namespace Go.z6.S
def adT {A:Prog}{l:G9}{b:Nat}{dr:Bool}{j8 ops:List x9}{T:List c7}{H:k8}{n:Nat}{rl:List c7}{l6:List Touch}{Q:List c7->k8->List c7->Prop}{x y:A4}{c d:Int}{u:List Nat}{s:Nat}{T2:List c7}
  (hx:rq T n rl x= .d (.int .i64 c):=by rfl) (hy:rq T n rl y= .d (.int .i64 d):=by rfl) (h0: -9223372036854775808<=c+d/\c+d<9223372036854775808:=by omega) (hs:T[s]?.isSome=W:=by rfl) (hT:T.set s (.d (.int .i64 (c+d)))=T2:=by simp only [o8,o7]<;>rfl)
  (h2:Ry A l b dr j8 ops T2 H (n+1) (.d (.int .i64 (c+d))::rl) (.slot s::l6) Q):Ry A l b dr j8 (⟨.bin .add x y,J s,K,u⟩::ops) T H n rl l6 Q :=
 Ry.oQ (v:= .d (.int .i64 (c+d))) (rs:=[]) rfl (by simp only [l5,hx,hy,AE (Or.inl ⟨rfl,rfl⟩) h0.1 h0.2]) rfl rfl hs (by rw [hT];exact h2)
end Go.z6.S
namespace Go.Proofs.YtibjocmpkoepoaaGreat
open Go.z6 Go.z6.S
attribute [local irreducible] Rx Ry Rn Ex Pf
def yU (c:p7):Nat->List Int
 |0=>[]
 |n+1=>yU c n++[(O (M3 c n):Int)]
theorem dw (c:p7):∀n,O (yU c n)=n
 |0=>rfl
 |n+1=>by simp [yU,dw c n]
theorem Fa (c:p7):∀{n i},i<n->Y (yU c n) i=(O (M3 c i):Int)
 |n+1,i,h=>by
  have hl:=dw c n
  rcases y8 i n with h1|h1
  .rw [<- Fa c h1,yU,A7 D,A7 V,List.getElem_append_left V]
  .obtain rfl:i=n:=V
   rw [yU,A7 (by simp [hl]),List.getElem_append_right V];simp
def R2 (c:p7):List Int:=yU c (p7.ns c)
def ax8 (c:p7)(hs:D9 c)(hv:C4 c=W):Pf A 57 [cat c] (.d (ints (R2 c))):=by
 have aO:p7.ns c=O c.j7+O c.views:=rfl;obtain ⟨f0,f1,_⟩:=id hs.sm.dP;have e:ints (R2 c)=x3 (λn=>[Z n]) (R2 c):=by simp [ints,x3,List.flatMap_singleton']
 rw [e];refine Pf.go 6 ?_
 repeat' (first|refine adT (h2:=?_)|refine gx ?_|fail)
 refine Ex.J1 (λk T H=>∃(i:Nat),T=[.any,.ptr 0 0,.any,A8 1 (λn=>[Z n]) (yU c i),.any,.d (Z (O c.j7+O c.views)),.d (Z i)]/\H=[.cells (c.enc.map .d)]/\i+k=p7.ns c) ?_ (k:=p7.ns c) ⟨0,rfl,rfl,U⟩;rintro k _ _ ⟨i,rfl,rfl,hk⟩;have Fg:=dw c i;refine Ex.seq ?_;refine tb (D0 i ((O c.j7:Int)+O c.views)) (λh2=>?_) (λh2=>?_)
 .have h3:=A5 h2
  have hi:R5 c (i:Int)=W:=by
   unfold R5;rw [hv];simp [r7,s4];omega
  have p1:=Nq c hs (i:Int) hi;rw [G6] at p1
  repeat' (first|refine cl (p1) ?_|refine ap1 (enc:=λn=>[Z n]) (a:=(O (M3 c i):Int)) (h2:=?_)|refine gx ?_|fail)
  exact kk ⟨i+1,rfl,rfl,V⟩
 .have h3:=A9 h2
  obtain rfl:i=p7.ns c:=V
  refine gr ?_;exact ⟨_,rfl,rfl⟩
def O3 (w:List Int)(p:C8):Bool:=U4 0 p.1&&(D0 p.1 (O w)&&(U4 0 p.2&&D0 p.2 (Y w p.1.toNat)))
def ax7 (w:List Int)(p:C8)(hw:O w<=1000000):Pf A 56 [.d (ints w),qC p] (.d (.bool (O3 w p))):=by
 refine Pf.go 2 ?_;unfold qC
 repeat' (first|refine gy ?_|refine fq (λhw=>?_) λhw=>?_|refine ⟨_,rfl,?_⟩|fail)
 all_goals simp_all [j4,O3]
def DC (p:C8):Key:= .st [.i .i64 p.1,.i .i64 p.2]
def gB (S:List C8):List (Key×c7):=S.map λp=>(DC p,.d (.bool W))
theorem Bp (p q:C8):Data.aZ (.st [.i,.i]) (DC p) (DC q)=J (decide (p=q)):=by
 obtain ⟨a,b⟩:=p;obtain ⟨c,d⟩:=q;have e:(decide ((a,b)=(c,d)))=(a==c&&(b==d&&W)):=by
  grind
 rw [e];rfl
theorem zW (p:C8):∀S,aA (.st [.i,.i]) (DC p) (gB S)=J (if p∈S then J (.d (.bool W)) else K)
 |[]=>rfl
 |q::S=>by
  have ih:=zW p S;simp [gB,G7,aA,Bp] at ih ⊢
  grind
def MR (p:C8)(S:List C8):((if p∈S then J (c7.d (.bool W)) else K).getD (.d (.bool F)))= .d (.bool (decide (p∈S))):=by
 grind
theorem wH (p:C8):∀S,bM (.st [.i,.i]) (DC p) (.d (.bool W)) (gB S)=J (gB (kR S p))
 |[]=>rfl
 |q::S=>by
  have ih:=wH p S
  grind [gB,bM,Bp,kR,decide_false]
def zN (p:C8):Data.aZ (.st [.i,.i]) (DC p) (DC p)=J W:=by rw [Bp];simp
def DL (S:List C8):(x6.map (gB S)).H7=0:=by
 have:∀S:List C8,A2 ((gB S).map (·.2))=0:=λS=>by
  induction S with
  |nil=>rfl
  |cons q S ih=>simp_all [gB,A2,c7.H7]
 exact this S
theorem yZ (p:C8):∀(l S:List C8),eZ S (l++[p])=kR (eZ S l) p
 |[],_=>rfl
 |q::l,S=>by rw [x4,eZ,yZ p l,eZ]
theorem Ad (f:D8):∀(fs:List D8) (S:List C8),pass S (fs++[f])=V5 (pass S fs) f
 |[],_=>rfl
 |g::fs,S=>by rw [x4,pass,Ad f fs,pass]
def Ln {fs:List D8}{S:List C8}{n:Nat}(h:aP fs S<n)(hp:O (pass S fs)=O S):zi fs n S=pass S fs:=by
 obtain ⟨n,rfl⟩:∃m,n=m+1:=⟨n - 1,V⟩;simp_all [zi,if_pos,lP]
def Lo {fs:List D8}{S:List C8}{n:Nat}(h:aP fs S<n)(hp:O (pass S fs)≠O S):∃m,n=m+1/\zi fs n S=zi fs m (pass S fs)/\aP fs (pass S fs)<m:=by
 obtain ⟨n,rfl⟩:∃m,n=m+1:=⟨n - 1,V⟩;obtain ⟨f,hf,h1,h2⟩:=wZ fs S hp;have:=qw (λq hq=>lQ fs hq) hf h1 h2
 grind [zi]
def Kq {S:List C8}{f:D8}(h:(decide (f.src∈S)&& !decide (f.dst∈S))=W):V5 S f=kR S f.dst/\O (kR S f.dst)=O S+1:=by
 simp_all [V5,kR]
def EC {S:List C8}{f:D8}(h:(decide (f.src∈S)&& !decide (f.dst∈S))=F):V5 S f=S:=by
 simp_all [V5,if_neg]
set_option maxHeartbeats 16000000 in
def at6 {H0:k8}(hH:(∃a,H0=[a])\/(∃a b,H0=[a,b])\/(∃a b d,H0=[a,b,d])\/(∃a b d e,H0=[a,b,d,e])\/∃a b d e f,H0=[a,b,d,e,f])(h0:C9 H0=0)(fs:List D8)(l:List C8)(BY:O fs<=1000000)(hl:O l<=1000000) :
  Pm A 61 [.d (x3 D8.enc fs),.d (E4 l)] H0 N9 (.map (O H0)) (H0++[.map (gB (yS fs l))]):=by
 have key:Pq A 61 [.d (x3 D8.enc fs),.d (E4 l)] H0 N9 λv H1=>v= .map (O H0)/\H1=H0++[.map (gB (yS fs l))]:=by
  have hcl:∀(T:List c7) (S:List C8) (r:k8) (mask:List Bool),A2 (Q5 mask T)<=O H0+1->clean mask 0 (O H0+1) ⟨T,H0++[.map (gB S)]++r⟩=⟨Q5 mask T,H0++[.map (gB S)]⟩:=by
   intro T S r mask hT;have e:(H0++[x6.map (gB S)]++r).take (O H0+1)=H0++[.map (gB S)]:=by
    have:O H0+1=O (H0++[x6.map (gB S)]):=U
    rw [this,List.take_left]
   rw [A6 hT ?_,e];rw [e,List.drop_zero];have hb:∀H:k8,C9 (H++[.map (gB S)])=C9 H:=λH=>by
    induction H with
    |nil=>simp [C9,DL]
    |cons a H ih=>simp only [x4,C9,ih]
   rw [hb,h0];exact s8 _
  let n0:=O H0
  let hp:List C8->k8:=λS=>H0++[.map (gB S)]
  rcases hH with ⟨a,rfl⟩|⟨a,b,rfl⟩|⟨a,b,d,rfl⟩|⟨a,b,d,e,rfl⟩|⟨a,b,d,e,f,rfl⟩
  all_goals
   refine Pq.run (b:=_) [.d (x3 D8.enc fs),.d (E4 l),.any,.any,.any,.any,.any,.any,.any,.any,.any,.any,.any] rfl rfl rfl rfl rfl ?_
   repeat' (first|refine mkm (h2:=?_)|refine gx ?_|fail)
   refine Ex.L4 (λk T H=>∃i:Nat,T=[.d (x3 D8.enc fs),.any,.any,.map n0,.any,.any,.any,.d (E4 l),.d (Z (O l)),.d (Z i),.any,.any,.any]/\H=hp (eZ [] (l.take i))/\i+k=O l) ?_ (k:=O l) ⟨0,rfl,rfl,U⟩;rintro k _ _ ⟨i,rfl,rfl,hk⟩;simp only [hp,n0,x4,y5,n9,y4,K5];refine Ex.seq ?_;refine tb (D0 i (O l)) (λh2=>?_) (λh2=>?_)
   .have h3:=A5 h2
    have e1:eZ [] (l.take (i+1))=kR (eZ [] (l.take i)) (Y l i):=by rw [D2 V,yZ]
    repeat' (first|refine mp (wH (Y l i) _) (zN _) (h2:=?_)|refine gx ?_|fail)
    exact kk ⟨_,_,hcl _ _ _ _ (j5 rfl),i+1,rfl,by rw [e1];rfl,V⟩
   have h3:=A9 h2;obtain rfl:i=O l:=V
   rw [D3];refine gr ?_;refine Ex.L4 (λk T H=>∃(g:Bool) (S:List C8),T=[.d (x3 D8.enc fs),.any,.any,.map n0,.any,.d (.bool g),.any,.any,.any,.any,.any,.any,.any]/\H=hp S/\(g=F->yS fs l=S)/\(g=W->∃n,yS fs l=zi fs n S/\aP fs S<n/\n<=k)) ?_ (k:=O fs+1) ⟨W,_,rfl,rfl,U,λ_=>⟨_,rfl,by have:=wQ fs (eZ [] l);omega,k9 _⟩⟩;rintro k _ _ ⟨g,S,rfl,rfl,hg1,hg2⟩;simp only [hp,n0,x4,y5,n9,y4,K5];cases g with
   |false =>
    refine Ex.seq ?_;refine tb (F) (λh2=>?_) (λh2=>?_)
    .cases h2
    refine gr ?_;exact ⟨_,_,rfl,rfl,by rw [hg1 rfl]⟩
   |true =>
    obtain ⟨n,e2,e3,e4⟩:=hg2 rfl;refine Ex.seq ?_;refine tb (W) (λh2=>?_) (λh2=>?_)
    .refine gr ?_
     refine Ex.L4 (λm T H=>∃(j:Nat) (g:Bool),T=[.d (x3 D8.enc fs),.any,.any,.map n0,.any,.d (.bool g),.any,.any,.any,.any,.d (x3 D8.enc fs),.d (Z (O fs)),.d (Z j)]/\H=hp (pass S (fs.take j))/\j+m=O fs/\g=decide (O (pass S (fs.take j))≠O S)) ?_ (k:=O fs) ⟨0,F,rfl,rfl,U,by simp [pass]⟩;rintro m _ _ ⟨j,g,rfl,rfl,hm,hg⟩;simp only [hp,n0,x4,y5,n9,y4,K5];refine Ex.seq ?_;refine tl j (O fs) (λh4=>?_) (λh4=>?_)
     .have e5:pass S (fs.take (j+1))=V5 (pass S (fs.take j)) (Y fs j):=by rw [D2 V,Ad]
      have e6:=(lP (fs.take j) S).1;refine gr ?_;obtain ⟨f,hf⟩:∃f,Y fs j=f:=⟨_,rfl⟩;obtain ⟨R,hR⟩:∃R,pass S (fs.take j)=R:=⟨_,rfl⟩;rw [hf,hR] at e5;rw [hR] at e6 hg;rw [hf,hR];refine tB (decide (f.src∈R)&& !decide (f.dst∈R)) ?_ (λh5=>?_) (λh5=>?_)
      .repeat' (first|refine Xx ?_|refine lk1 (zW _ _) (MR _ _) ?_|refine gx ?_|refine fq (λhw=>?_) λhw=>?_|refine ⟨rfl,rfl,_,rfl,?_⟩|refine ⟨rfl,rfl⟩|fail)
       all_goals exact cc
      .obtain ⟨e7,e8⟩:=Kq h5
       repeat' (first|refine Xx ?_|refine mp (wH f.dst _) (zN _) (h2:=?_)|refine gx ?_|fail)
       exact ⟨m - 1,V,_,_,hcl _ _ _ _ (j5 rfl),j+1,W,rfl,by rw [e5,e7];rfl,V,by rw [e5,e7];simp;omega⟩
      .refine gr ?_
       exact ⟨m - 1,V,_,_,hcl _ _ _ _ (j5 rfl),j+1,g,rfl,by rw [e5,EC h5];rfl,V,by rw [e5,EC h5];exact hg⟩
     .obtain rfl:j=O fs:=V
      rw [D3] at hg ⊢;refine gr ?_;refine kk ⟨_,_,hcl _ _ _ _ (j5 rfl),g,pass S fs,rfl,rfl,λh=>?_,λh=>?_⟩
      .rw [e2,Ln e3]
       simpa [h] using hg
      .obtain ⟨n',rfl,e7,e8⟩:=Lo e3 (by simpa [h] using hg)
       exact ⟨n',by rw [e2,e7],e8,V⟩
    .cases h2
 obtain ⟨v,H1,⟨rfl,rfl⟩,h⟩:=key;exact h
end Go.Proofs.YtibjocmpkoepoaaGreat
namespace Go.Proofs.YtibjocmpkoepoaaGreat
open Go.z6 Go.z6.S
def QW {a b:D8}(h:mh a b=W):a.src=b.src/\a.dst=b.dst:=by
 grind [mh]
theorem CJ {xs:List D8}{f:D8}:∀k,k<=O xs->f∈aL xs k->f∈xs
 |0,_,h=>by simp [aL] at h
 |k+1,hk,h=>by
  rw [aL,G4] at h
  rcases h with h|h
  .exact CJ k V h
  grind [List.mem_singleton,E7]
theorem vI (xs:List D8):∀k,∀i,i<k->∃g∈aL xs k,g.src=(Y xs i).src/\g.dst=(Y xs i).dst
 |0,i,h=>V
 |k+1,i,h=>by
  rcases y8 i k with h1|h1
  .obtain ⟨g,hg,e⟩:=vI xs k i h1
   grind [aL,List.mem_append_left]
  .obtain rfl:i=k:=V
   rw [aL];split
   next hc=>
    simp [c9,decide_eq_true_eq] at hc;obtain ⟨e1,e2⟩:=QW hc.2;obtain ⟨g,hg,e3,e4⟩:=vI xs i (i - 1) V
    grind
   simp_all
theorem CR {c:p7}{f:D8}(h:f∈dN c):f∈gK c:=by
 have:=CJ _ (Nat.le_of_eq (dY (gK c)).length_eq.symm) h
 grind [dY]
def CQ {c:p7}{f:D8}(h:f∈gK c):∃g∈dN c,g.src=f.src/\g.dst=f.dst:=by
 have h1:=(dY (gK c)).mem_iff.2 h;obtain ⟨i,hi,e⟩:=E0 h1;have h2:i<O (gK c):=by rw [<- (dY (gK c)).length_eq];exact hi
 obtain ⟨g,hg,e1,e2⟩:=vI (Y4 (gK c)) (O (gK c)) i h2;rw [A7 hi,e] at e1 e2;exact ⟨g,hg,e1,e2⟩
def LB (c:p7):O (dN c)<=O (gK c):=vJ _ _
attribute [local irreducible] Rx Ry Rn Ex Pf
theorem tL:∀l:List C8,bJ l=l.flatMap E8
 |[]=>rfl
 |(a,b)::l=>by rw [bJ,tL l];rfl
theorem tw:∀S:List C8,oJ (gB S)=J S
 |[]=>rfl
 |(a,b)::S=>by
  have ih:=tw S;simp_all [gB,DC,G7,oJ]
def at7 (H0:k8)(S:List C8)(hS:O S<=1000000)(l:G9):Pm A 63 [.map (O H0)] (H0++[.map (gB S)]) l (A8 2 E8 (sortP S)) (H0++[.map (gB S)]):=by
 refine Pm.bw rfl ?_;simp_all [uP,tw,if_true,A8,Y6,tL]
def P8 (c:p7):(x6.cells (c.enc.map .d)).H7=0:=by rfl
def Le (H0:k8)(S:List C8):C9 (H0++[.map (gB S)])=C9 H0:=by
 induction H0 with
 |nil=>simp [C9,DL]
 |cons a H ih=>grind [C9]
def GG {fs:List D8}{S:List C8}{f:D8}(hf:f∈fs):O (V5 S f)+aP fs (V5 S f)<=O S+aP fs S:=by
 by_cases hc:f.src∈S/\f.dst∉S
 .have e:V5 S f=S++[f.dst]:=by simp_all [V5]
  have h:=qw (S:=S) (S' :=V5 S f) (λq hq=>An hq) hf hc.2 (by rw [e];simp)
  grind
 simp_all [V5,if_neg]
theorem mS {fs:List D8}:∀(gs:List D8) (S:List C8),(∀g∈gs,g∈fs)->O (pass S gs)+aP fs (pass S gs)<=O S+aP fs S
 |[],_,_=>k9 _
 |g::gs,S,h=>o5 (mS gs (V5 S g) λx hx=>h x (List.mem_cons_of_mem _ hx)) (GG (h g List.mem_cons_self))
theorem CG {fs:List D8}:∀(n:Nat) (S:List C8),O (zi fs n S)<=O S+aP fs S
 |0,S=>Nat.le_add_right _ _
 |n+1,S=>by
  unfold zi;split
  .omega
  .exact o5 (CG n _) (mS fs S λ_ h=>h)
def xe (fs:List D8)(l:List C8):O (yS fs l)<=O l+O fs:=by
 grind [CG,eZ,uZ,wQ,yS]
def jI {c:p7}(hv:C4 c=W)(ht:O c.j7<=8)(hw:O c.views<=12):O (dN c)<=100000:=by
 have h1:=LB c;have hT:∀k,k<=O c.j7->O (iG c k)<=64 * k:=λk=>by
  induction k with
  |zero=>grind [iG]
  |succ k ih =>
   intro hk;rw [iG,j9];have h2:=(FF c hv (i:=k) V).1;have h3:=jo (Y c.j7 k).o4 (O (Y c.j7 k).o4);have h4:O (gG c k)<=8:=by grind [gG,G6]
   have h5:=mB k (O (Y c.j7 k).o4) (gG c k);have h6:O (gG c k) * O (Y c.j7 k).o4<=8 * 8:=Nat.mul_le_mul h4 h2
   grind
 have hV:∀k,k<=O c.views->O (xS c (tE c) (kF c) k)<=6000 * k:=λk=>by
  induction k with
  |zero=>grind [xS]
  |succ k ih =>
   intro hk;have h2:=Ar (EY hv (i:=k) V).ok ((O c.j7:Int)+(k:Int))
   grind [xS,j9]
 grind [gK]
set_option maxHeartbeats 4000000 in
def at2 (c:p7)(hs:D9 c)(hv:C4 c=W)(ht:O c.j7<=8)(hw:O c.views<=12)(l:List C8)(hl:O l<=500000) :
  Pf A 23 [cat c,.d (E4 l)] (A8 2 E8 (sj (dN c) (l.filter (O3 (R2 c))))):=by
 have XP:=Ut c hs;rw [hv] at XP;have p57:=ax8 c hs hv;have p47:=p47 c hs hv ht hw;have Fg:O (R2 c)<=20:=by unfold R2;rw [dw];have:p7.ns c=O c.j7+O c.views:=rfl;omega
 have hd:=jI hv ht hw;have hn:O (yS (dN c) (l.filter (O3 (R2 c))))<=1000000:=o5 (xe _ _) (by have:=List.length_filter_le (O3 (R2 c)) l;omega);obtain ⟨w,Vz⟩:∃w,R2 c=w:=⟨_,rfl⟩;rw [Vz] at p57 Fg hn ⊢;refine Pf.gr 8 ?_;refine tc (!true) XP (λh1=>?_) (λh1=>?_)
 .cases h1
 refine gc p57 ?_;refine Ex.L4 (λk T H=>∃i:Nat,T=[.any,.any,.ptr 0 0,.any,A8 2 E8 ((l.take i).filter (O3 w)),.d (ints w),.any,.d (E4 l),.d (Z (O l)),.d (Z i)]/\H=[.cells (c.enc.map .d)]/\i+k=O l) ?_ (k:=O l) ⟨0,rfl,rfl,U⟩;rintro k _ _ ⟨i,rfl,rfl,hk⟩;refine Ex.seq ?_;refine tb (D0 i (O l)) (λh2=>?_) (λh2=>?_)
 .have h3:=A5 h2
  have e1:(l.take (i+1)).filter (O3 w)=(l.take i).filter (O3 w)++(if O3 w (Y l i) then [Y l i] else []):=by
   rw [D2 V,List.filter_append]
   congr 1
   simp only [List.filter_cons,List.filter_nil]
  have e2:O ((l.take i).filter (O3 w))<=500000:=o5 (List.length_filter_le _ _) D;obtain ⟨acc,hacc⟩:∃acc,(l.take i).filter (O3 w)=acc:=⟨_,rfl⟩;refine gr ?_;obtain ⟨p,hp⟩:∃p,Y l i=p:=⟨_,rfl⟩;rw [hacc,hp] at e1;rw [hacc] at e2;rw [hacc,hp];have p56:=ax7 w p V;refine tc (O3 w p) p56 (λh4=>?_) (λh4=>?_)
  .repeat' (first|refine oN (enc:=E8) p ?_|refine yY (ys:=[p]) (h2:=?_)|refine gx ?_|fail)
   exact kk ⟨_,_,A6 (j5 rfl) (j5 rfl),i+1,by rw [e1,h4];rfl,rfl,V⟩
  .refine gr ?_
   exact kk ⟨_,_,A6 (j5 rfl) (j5 rfl),i+1,by rw [e1,h4];simp;rfl,rfl,V⟩
 .have h3:=A9 h2
  obtain rfl:i=O l:=V
  rw [D3];have Uq:=at6 (H0:=[.cells (c.enc.map .d)]) (.inl ⟨_,rfl⟩) (by simp [C9,P8]) (dN c) (l.filter (O3 w)) V (o5 (List.length_filter_le _ _) V);have p63:=λq=>at7 [.cells (c.enc.map .d)] (yS (dN c) (l.filter (O3 w))) hn q
  have hb:C9 ([.cells (c.enc.map .d)]++[.map (gB (yS (dN c) (l.filter (O3 w))))])<=2:=by rw [Le];simp [C9,P8]
  repeat' (first|refine mN p47 ?_|refine cp Uq (Nat.le_add_right _ _) ?_|refine c1 (p63 _) rfl ?_ (fe:=hb) (hcl:=I8 hb)|refine gx ?_|fail)
  exact ⟨_,rfl,rfl⟩
end Go.Proofs.YtibjocmpkoepoaaGreat


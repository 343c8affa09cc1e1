import Derived.Test.YtibjocmpkoepoaaGreatN0
import Derived.Test.YtibjocmpkoepoaaGreatT0
set_option linter.all false
open Bool renaming and_eq_true→c9,false_eq_true→j5,not_eq_true'→o5,or_eq_false_iff→D5,true→W,false→F
open List renaming cons_append→x6,length_append→l5,length_cons→o8,length_map→A9,length_nil→B1,map_cons→G4,mem_append→N9,nil_append→y5,set_cons_succ→o6,set_cons_zero→o4,take_of_length_le→A4,length→O
open Nat renaming le_of_ble_eq_true→j6,le_refl→k9,le_trans→s5,reduceAdd→N6,zero_le→s9
open Option renaming some→J,none→K
namespace Go.Proofs.YtibjocmpkoepoaaGreat
open Go.A5 Go.A5.S
attribute [local irreducible] Rx Ry Rn Ex Pf
mutual
theorem KP {ty:List Int}:∀a:bF,a.wf->x5 (a.typ ty).2 0=W->∀t,t∈a.flat->x5 t.op 2=W->0<=t.col/\t.col<O ty
 | .node t l,hw,h,t',ht',h2=>by
  obtain ⟨hok,har,Mq⟩:=hw;simp [bF.typ] at h;split at h
  next h1=>
   simp [bF.flat,List.mem_cons] at ht'
   rcases ht' with rfl|ht'
   .have e1:x5 t'.op 1=F:=by simp_all [o9]
    simp [Cm,e1,h2,if_true,j5,if_false] at h;split at h
    all_goals simp_all [o9,rR,Bool.not_eq_true,Aj,eo,if_true,j5,if_false,c9,kM]
   .exact Fm l Mq h1 t' ht' h2
  simp_all
theorem Fm {ty:List Int}:∀l:List bF,Ya l->x5 (iH ty l).2 0=W->∀t,t∈O2 l->x5 t.op 2=W->0<=t.col/\t.col<O ty
 |[],_,_,t,h,_=>by simp [O2] at h
 |a::l,hw,h,t,ht,h2=>by
  simp [iH] at h;split at h
  next h1=>
   simp [O2,N9] at ht
   rcases ht with ht|ht
   .exact KP a hw.1 h1 t ht h2
   .exact Fm l hw.2 h t ht h2
  simp_all
end
theorem OD {e:List X0}{ty:List Int}(h:x5 (M8 e ty).2 0=W):Gy e (O ty):=by
 unfold M8 at h;split at h
 .simp [o9] at h
 next a ha=>
  split at h
  .obtain ⟨e1,e2,e3⟩:=yE ha
   have hb:aW e=W:=by grind [gX]
   refine ⟨?_,.inl hb,λx hx=>?_⟩
   .grind [aW,x8]
   .obtain ⟨t,ht,h1,rfl⟩:=Sv hx
    rw [e1] at ht;exact KP a e2 h t ht h1
  grind [o9]
theorem Ba (n:Nat):Gy [] n:=⟨U,.inr rfl,λx hx=>by simp_all [Ej]⟩
theorem IT {ty:List Int}:∀(l:List DY) (seen:List K0),aP ty seen l=0->∀e,e∈l->Gy e.expr (O ty)
 |[],_,_,e,he=>by cases he
 |a::l,seen,h,e,he=>by
  have ih:=IT (ty:=ty) l (seen++[a.name]);unfold aP at h;split at h
  .omega
  .split at h
   .omega
   .split at h
    .omega
    .split at h
     .rcases List.mem_cons.1 he with rfl|he
      all_goals simp_all [c9,Bool.true_and,Bool.or_eq_true,not_or,A1,decide_eq_true_eq,List.length_eq_zero_iff,Ba]
     grind [o9,OD]
theorem JX {l r:List Int}:∀(on:List (Int×Int)),P5 l r on=0->∀i,i<O on->0<=(Y on i).1/\(Y on i).1<O l/\0<=(Y on i).2/\(Y on i).2<O r
 |[],_,i,hi=>by simp at hi
 |p::ps,h,i,hi=>by
  unfold P5 at h;split at h
  .omega
  next h1=>
   split at h
   .omega
   .simp [s4,x8] at h1
    cases i with
    |zero =>
     grind [F9]
    |succ i =>
     have h2:i<O ps:=M
     have:=JX ps h i h2;simp_all [F9]
theorem Hj {c:p9}(hv:F1 c=W){s:K0}{k:Nat}(h:0<=F8 c s k):X6 c s=F8 c s k/\bG c (X6 c s)=W:=by
 have e1:X6 c s=jt c s:=(al2 c s).symm;have hl:=Z6 c;have e2:jt c s=F8 c s k:=by
  unfold jt
  grind [F8,A4,EC]
 grind [L9,bG,x8,A1]
def plN (c:p9)(s:K0):List J9:=plA (X6 c s) (O (T6 c (X6 c s).toNat))
def Ss (c:p9)(i:Nat):List J9:=plN c (Y c.views i).left
def Kr (c:p9)(i:Nat):List J9:=if O4 (Y c.views i).right [] then [] else plN c (Y c.views i).right
def Yf (c:p9):List O1:=DM c (O c.j7)++DP c (Ss c) (Kr c) (O c.views)
def rE (c:p9):List O1:=jq (dV (Yf c)) (O (Yf c))
def Pk (c:p9)(s:K0):O (plN c s)=O (T6 c (X6 c s).toNat):=HB _ _
def TY {v:Vw}{L R:List J9}(h:TE v L R):O (TX v L R)<=600:=by
 have h1:=pU v.wh (L++R);have h2:=h.wh.len;have h3:=Hw v L R (O v.on);have h4:=h.on8;have h5:=h.o7;have h6:=ta (d8:=sU v (L++R) (O v.items)) (λd hd=>AR h.it h.ag d (List.mem_append_left _ hd))
 grind [sU,TX,l5,o8,B1]
def Fp {v:Vw}{L R:List J9}(h:TE v L R)(s:Int):O (ve s v L R)<=6000:=by
 unfold ve;split
 .have:=Cs s L R (O L)
  have:=h.l8;omega
 .have h1:=TY h
  have h2:O (GW v (L++R))<=8:=by have:=h.o7;grind [GW,sU,MO]
  have h3:=BK s (GW v (L++R)) (TX v L R) (λi hi=>AR h.it h.ag _ (H6 hi)) _ (k9 _);have h4:O (GW v (L++R)) * (64+O (TX v L R))<=8 * 664:=Nat.mul_le_mul h2 V;omega
structure aU8 (c:p9)(i:Nat):Prop where
 ok:TE (Y c.views i) (Ss c i) (Kr c i)
 lf:bG c (X6 c (Y c.views i).left)=W/\0<=X6 c (Y c.views i).left/\X6 c (Y c.views i).left<O c.j7+i
 rt:O4 (Y c.views i).right []=F->bG c (X6 c (Y c.views i).right)=W/\0<=X6 c (Y c.views i).right/\X6 c (Y c.views i).right<O c.j7+i
 nu:x5 (Y c.views i).kind 2=F->O (T6 c (O c.j7+i))=O (Y c.views i).items+O (Y c.views i).I6
 un:x5 (Y c.views i).kind 2=W->O (T6 c (O c.j7+i))=O (Ss c i)
def ag6 {c:p9}(hv:F1 c=W){i:Nat}(hi:i<O c.views):aU8 c i:=by
 obtain ⟨h1,_,h3⟩:=bW hv;have eD:p9.ns c=O c.j7+O c.views:=rfl;have hnl:=V0 c;have xS:=eC (h1 (O c.j7+i) V) V V;obtain ⟨k,hk⟩:∃k,O c.j7+i=k:=⟨_,rfl⟩;have ev:Z0 c k=Y c.views i:=by grind [Z0,Nat.add_sub_cancel_left]
 have hg:∀q,q<k->1<=O (T6 c q)/\O (T6 c q)<=8:=λq hq=>by
  grind [jE]
 rw [hk] at xS;unfold Y3 lT rT at xS;rw [ev] at xS;obtain ⟨v,hvd⟩:∃v,Y c.views i=v:=⟨_,rfl⟩;rw [hvd] at xS ev;split at xS
 .omega
 .split at xS
  .omega
  next hl=>
   split at xS
   .omega
   next hsh=>
    simp only [Bool.not_eq_true,D5] at hl;have f1:=D4 hl.1;have f2:O4 v.right []=F->0<=F8 c v.right k:=λh=>by
     simp_all [Bool.not_false,Bool.true_and,D4]
    have b1:=L9 c v.left k;have b2:=L9 c v.right k;obtain ⟨g1,g2⟩:=Hj hv f1;have hlf:bG c (X6 c v.left)=W/\0<=X6 c v.left/\X6 c v.left<(O c.j7:Int)+i:=⟨g2,V,V⟩;have UH:O4 v.right []=F->bG c (X6 c v.right)=W/\0<=X6 c v.right/\X6 c v.right<(O c.j7:Int)+i:=λh=>by
     grind [Hj]
    have el:Ss c i=plN c v.left:=by simp_all [Ss]
    have er:Kr c i=if O4 v.right [] then [] else plN c v.right:=by simp_all [Kr]
    have ll:O (Ss c i)=O (T6 c (F8 c v.left k).toNat):=by rw [el,Pk,g1]
    have lr:O4 v.right []=F->O (Kr c i)=O (T6 c (F8 c v.right k).toNat):=λh=>by
     rw [er,h,if_neg U,Pk,(Hj hv (f2 h)).1]
    have lr0:O4 v.right []=W->Kr c i=[]:=λh=>M
    have l1:=hg (F8 c v.left k).toNat V;have r1:O (Kr c i)<=8:=by
     grind
    have eL:Y (od c k) (F8 c v.left k).toNat=T6 c (F8 c v.left k).toNat:=W7 c V;have eR:O (if O4 v.right [] then [] else Y (od c k) (F8 c v.right k).toNat)=O (Kr c i):=by
     cases h:O4 v.right [] with
     |true=>simp_all
     |false =>
      have:=f2 h;rw [lr h,if_neg U,W7 c V]
    have hin:O (ins c k)=O (Ss c i++Kr c i):=by
     unfold ins Bo;rw [show Y c.views (k - O c.j7)=v from ev,l5,eL,eR,l5,ll]
    have ect:T6 c k=if x5 v.kind 2 then Y (od c k) (F8 c v.left k).toNat else bf v (ins c k):=by
     grind [T6,iZ,ins,Y]
    rw [<- hvd] at hlf UH;rw [<- ll] at l1;have ht0:(O (Y (od c k) (F8 c v.left k).toNat):Nat)=O (Ss c i):=by rw [eL,ll]
    obtain ⟨RT,hRT⟩:∃RT,(if O4 v.right [] then [] else Y (od c k) (F8 c v.right k).toNat)=RT:=⟨_,rfl⟩;rw [hRT] at xS eR
    by_cases h2:x5 v.kind 2=W
    .rw [if_pos h2] at xS
     have YQ:bQ v=W:=M
     unfold bQ at YQ;rw [if_pos h2] at YQ;simp only [c9,o5,o9,decide_eq_true_eq,beq_iff_eq] at YQ;have hon:O v.on=0:=V
     have hit:O v.items=0:=V
     have hag:O v.I6=0:=V
     have xR:O (Ss c i)=O (Kr c i):=by
      rw [<- ht0,<- eR];refine Decidable.byContradiction λhne=>?_
      simp_all [qV]
     refine ⟨?_,hlf,UH,?_,?_⟩
     .rw [hvd]
      refine ⟨V,l1.2,r1,V,V,λj hj=>V,?_,λj hj=>V,λj hj=>V,λ_=>V⟩;simp_all [Ba]
     all_goals simp_all
    .rw [if_neg h2] at xS
     have h2f:x5 v.kind 2=F:=M
     have YQ:bQ v=W:=M
     have hR:lU v=W:=by
      grind [bQ]
     unfold lU at hR;simp only [c9,x8,decide_eq_true_eq] at hR;obtain ⟨⟨_,ho8⟩,hc8⟩:=hR;split at xS
     .simp_all [o9]
     next h3=>
      have h3:P5 (Y (od c k) (F8 c v.left k).toNat) RT v.on=0:=by simp_all [o9]
      have hpo:=JX v.on h3;split at xS
      .simp_all
      next h4=>
       split at xS
       .omega
       .have hce:=IT (de v) [] xS
        rw [hin] at hce;have hwh:Gy v.wh (O (Ss c i++Kr c i)):=by
         rcases Nat.eq_zero_or_pos (O v.wh) with h0|h0
         all_goals grind [List.length_eq_zero_iff,Ba,OD,e0,F0,A1]
        refine ⟨?_,hlf,UH,?_,?_⟩
        .rw [hvd]
         refine ⟨V,l1.2,r1,V,V,λj hj=>?_,hwh,λj hj=>?_,λj hj=>?_,λh=>absurd h h2⟩
         .simp_all
         .have:=hce ⟨F,(Y v.items j).name, -1,(Y v.items j).expr⟩ (List.mem_append_left _ (List.mem_map.2 ⟨_,H6 hj,rfl⟩))
          exact this
         .have:=hce ⟨W,(Y v.I6 j).name,(Y v.I6 j).func,(Y v.I6 j).expr⟩ (List.mem_append_right _ (List.mem_map.2 ⟨_,H6 hj,rfl⟩))
          exact this
        all_goals simp_all [if_neg,bf,absurd]
def Ua (c:p9)(hv:F1 c=W){i:Nat}(hi:i<O c.j7):O (Y c.j7 i).o7<=8/\1<=O (Y c.j7 i).o7:=by
 have h:=jE hv (i+1) i V (by grind [p9.ns]);simp_all [T6,Y,iZ,if_pos,A9]
def at6 {c:p9}(hs:G8 c)(hv:F1 c=W){i:Nat}(hi:i<O c.views):ab0 c i (Ss c i) (Kr c i):=by
 obtain ⟨ok,⟨l1,l2,l3⟩,hr,_,_⟩:=ag6 hv hi;have eD:p9.ns c=O c.j7+O c.views:=rfl;refine ⟨ok,?_,λh=>?_,λh=>?_,Fp ok⟩
 .have:=jE hv ((X6 c (Y c.views i).left).toNat+1) (X6 c (Y c.views i).left).toNat V V
  exact ae9 c hs _ l1 V
 .obtain ⟨r1,r2,r3⟩:=hr h
  have:=jE hv ((X6 c (Y c.views i).right).toNat+1) (X6 c (Y c.views i).right).toNat V V;have e:Kr c i=plN c (Y c.views i).right:=by simp_all [Kr,if_neg]
  rw [e];exact ae9 c hs _ r1 V
 simp_all [Kr,if_pos]
def bg0 (l:List O1):A5.Data:=y6 O1.enc l
def p47 (c:p9)(hs:G8 c)(hv:F1 c=W)(ht:O c.j7<=8)(hw:O c.views<=12):Pf A 47 [cat c] (.d (bg0 (rE c))) :=
 bn3 c hs hv ht (λ_ hi=>(Ua c hv hi).1) hw (Ss c) (Kr c) λ_ hi=>at6 hs hv hi
end Go.Proofs.YtibjocmpkoepoaaGreat
namespace Go.A5.S
def adT {A:Prog}{l:J2}{b:Nat}{dr:Bool}{j8 ops:List o3}{T:List c7}{H:j9}{n:Nat}{rl:List c7}{l6:List Touch}{Q:List c7->j9->List c7->Prop}{x y:y4}{c d:Int}{u:List Nat}{s:Nat}{T2:List c7}
  (hx:rq T n rl x= .d (.int .i64 c):=by rfl) (hy:rq T n rl y= .d (.int .i64 d):=by rfl) (h0: -9223372036854775808<=c+d/\c+d<9223372036854775808:=by omega) (hs:T[s]?.isSome=W:=by rfl) (hT:T.set s (.d (.int .i64 (c+d)))=T2:=by simp only [o4,o6]<;>rfl)
  (h2:Ry A l b dr j8 ops T2 H (n+1) (.d (.int .i64 (c+d))::rl) (.slot s::l6) Q):Ry A l b dr j8 (⟨.bin .add x y,J s,K,u⟩::ops) T H n rl l6 Q :=
 Ry.tF (v:= .d (.int .i64 (c+d))) (rs:=[]) rfl (by simp only [k8,hx,hy,GF (Or.inl ⟨rfl,rfl⟩) h0.1 h0.2]) rfl rfl hs (by rw [hT];exact h2)
end Go.A5.S
namespace Go.Proofs.YtibjocmpkoepoaaGreat
open Go.A5 Go.A5.S
attribute [local irreducible] Rx Ry Rn Ex Pf
def NU (c:p9):Nat->List Int
 |0=>[]
 |n+1=>NU c n++[(O (T6 c n):Int)]
theorem mT (c:p9):∀n,O (NU c n)=n
 |0=>rfl
 |n+1=>by simp [NU,mT c n]
def cT (c:p9):List Int:=NU c (p9.ns c)
def br6 (c:p9)(hs:G8 c)(hv:F1 c=W):Pf A 57 [cat c] (.d (ints (cT c))):=by
 have eD:p9.ns c=O c.j7+O c.views:=rfl;obtain ⟨f0,f1,_⟩:=id hs.sm.iC;have e:ints (cT c)=y6 (λn=>[Z n]) (cT c):=by simp [ints,y6,List.flatMap_singleton']
 rw [e];refine Pf.go 6 ?_
 repeat' (first|refine adT (h2:=?_)|refine gx ?_|fail)
 refine Ex.M4 (λk T H=>∃(i:Nat),T=[.any,.ptr 0 0,.any,B9 1 (λn=>[Z n]) (NU c i),.any,.d (Z (O c.j7+O c.views)),.d (Z i)]/\H=[.cells (c.enc.map .d)]/\i+k=p9.ns c) ?_ (k:=p9.ns c) ⟨0,rfl,rfl,U⟩;rintro k _ _ ⟨i,rfl,rfl,hk⟩;have Mq:=mT c i;refine Ex.seq ?_;refine tb (F0 i ((O c.j7:Int)+O c.views)) (λh2=>?_) (λh2=>?_)
 .have h3:=C8 h2
  have hi:bG c (i:Int)=W:=by
   unfold bG;rw [hv];simp [x8,A1];omega
  have p1:=Vy c hs (i:Int) hi;rw [Int.toNat_natCast] at p1
  repeat' (first|refine cl (p1) ?_|refine ap1 (enc:=λn=>[Z n]) (a:=(O (T6 c i):Int)) (h2:=?_)|refine gx ?_|fail)
  exact kk ⟨i+1,rfl,rfl,V⟩
 .have h3:=D4 h2
  obtain rfl:i=p9.ns c:=V
  refine gr ?_;exact ⟨_,rfl,rfl⟩
def aM (w:List Int)(p:J9):Bool:=aH 0 p.1&&(F0 p.1 (O w)&&(aH 0 p.2&&F0 p.2 (Y w p.1.toNat)))
def br5 (w:List Int)(p:J9)(hw:O w<=1000000):Pf A 56 [.d (ints w),Ka p] (.d (.bool (aM w p))):=by
 refine Pf.go 2 ?_;unfold Ka
 repeat' (first|refine gy ?_|refine fq (λhw=>?_) λhw=>?_|refine ⟨_,rfl,?_⟩|fail)
 all_goals simp_all [j4,aM]
def JD (p:J9):Key:= .st [.i .i64 p.1,.i .i64 p.2]
def jU (S:List J9):List (Key×c7):=S.map λp=>(JD p,.d (.bool W))
theorem Ht (p q:J9):Data.dK (.st [.i,.i]) (JD p) (JD q)=J (decide (p=q)):=by
 obtain ⟨a,b⟩:=p;obtain ⟨c,d⟩:=q;have e:(decide ((a,b)=(c,d)))=(a==c&&(b==d&&W)):=by
  grind
 rw [e];rfl
theorem EO (p:J9):∀S,cA (.st [.i,.i]) (JD p) (jU S)=J (if p∈S then J (.d (.bool W)) else K)
 |[]=>rfl
 |q::S=>by
  have ih:=EO p S;simp [jU,G4,cA,Ht] at ih ⊢
  grind
def Vb (p:J9)(S:List J9):((if p∈S then J (c7.d (.bool W)) else K).getD (.d (.bool F)))= .d (.bool (decide (p∈S))):=by
 grind
theorem Bt (p:J9):∀S,eE (.st [.i,.i]) (JD p) (.d (.bool W)) (jU S)=J (jU (zC S p))
 |[]=>rfl
 |q::S=>by
  have ih:=Bt p S
  grind [jU,eE,Ht,zC,decide_false]
def EF (p:J9):Data.dK (.st [.i,.i]) (JD p) (JD p)=J W:=by rw [Ht];simp
def JJ (S:List J9):(x4.map (jU S)).J4=0:=by
 have:∀S:List J9,A8 ((jU S).map (·.2))=0:=λS=>by
  induction S with
  |nil=>rfl
  |cons q S ih=>simp_all [jU,A8,c7.J4]
 exact this S
theorem Eb (p:J9):∀(l S:List J9),oG S (l++[p])=zC (oG S l) p
 |[],_=>rfl
 |q::l,S=>by rw [x6,oG,Eb p l,oG]
theorem EY (f:O1):∀(fs:List O1) (S:List J9),pass S (fs++[f])=bV (pass S fs) f
 |[],_=>rfl
 |g::fs,S=>by rw [x6,pass,EY f fs,pass]
def TR {fs:List O1}{S:List J9}{n:Nat}(h:gI fs S<n)(hp:O (pass S fs)=O S):Ml fs n S=pass S fs:=by
 obtain ⟨n,rfl⟩:∃m,n=m+1:=⟨n - 1,V⟩;simp_all [Ml,if_pos,uI]
def TS {fs:List O1}{S:List J9}{n:Nat}(h:gI fs S<n)(hp:O (pass S fs)≠O S):∃m,n=m+1/\Ml fs n S=Ml fs m (pass S fs)/\gI fs (pass S fs)<m:=by
 obtain ⟨n,rfl⟩:∃m,n=m+1:=⟨n - 1,V⟩;obtain ⟨f,hf,h1,h2⟩:=BO fs S hp;have:=uF (λq hq=>pX fs hq) hf h1 h2
 grind [Ml]
def Tc {S:List J9}{f:O1}(h:(decide (f.src∈S)&& !decide (f.dst∈S))=W):bV S f=zC S f.dst/\O (zC S f.dst)=O S+1:=by
 simp_all [bV,zC]
def Kz {S:List J9}{f:O1}(h:(decide (f.src∈S)&& !decide (f.dst∈S))=F):bV S f=S:=by
 simp_all [bV,if_neg]
set_option maxHeartbeats 16000000 in
def bn4 {H0:j9}(hH:(∃a,H0=[a])\/(∃a b,H0=[a,b])\/(∃a b d,H0=[a,b,d])\/(∃a b d e,H0=[a,b,d,e])\/∃a b d e f,H0=[a,b,d,e,f])(h0:F3 H0=0)(fs:List O1)(l:List J9)(Ig:O fs<=1000000)(hl:O l<=1000000) :
  Pm A 61 [.d (y6 O1.enc fs),.d (R4 l)] H0 R5 (.map (O H0)) (H0++[.map (jU (BP fs l))]):=by
 have key:Pq A 61 [.d (y6 O1.enc fs),.d (R4 l)] H0 R5 λv H1=>v= .map (O H0)/\H1=H0++[.map (jU (BP fs l))]:=by
  have hcl:∀(T:List c7) (S:List J9) (r:j9) (mask:List Bool),A8 (U7 mask T)<=O H0+1->clean mask 0 (O H0+1) ⟨T,H0++[.map (jU S)]++r⟩=⟨U7 mask T,H0++[.map (jU S)]⟩:=by
   intro T S r mask hT;have e:(H0++[x4.map (jU S)]++r).take (O H0+1)=H0++[.map (jU S)]:=by
    have:O H0+1=O (H0++[x4.map (jU S)]):=U
    rw [this,List.take_left]
   rw [G5 hT ?_,e];rw [e,List.drop_zero];have hb:∀H:j9,F3 (H++[.map (jU S)])=F3 H:=λH=>by
    induction H with
    |nil=>simp [F3,JJ]
    |cons a H ih=>simp only [x6,F3,ih]
   rw [hb,h0];exact s9 _
  let n0:=O H0
  let hp:List J9->j9:=λS=>H0++[.map (jU S)]
  rcases hH with ⟨a,rfl⟩|⟨a,b,rfl⟩|⟨a,b,d,rfl⟩|⟨a,b,d,e,rfl⟩|⟨a,b,d,e,f,rfl⟩
  all_goals
   refine Pq.run (b:=_) [.d (y6 O1.enc fs),.d (R4 l),.any,.any,.any,.any,.any,.any,.any,.any,.any,.any,.any] rfl rfl rfl rfl rfl ?_
   repeat' (first|refine mkm (h2:=?_)|refine gx ?_|fail)
   refine Ex.S4 (λk T H=>∃i:Nat,T=[.d (y6 O1.enc fs),.any,.any,.map n0,.any,.any,.any,.d (R4 l),.d (Z (O l)),.d (Z i),.any,.any,.any]/\H=hp (oG [] (l.take i))/\i+k=O l) ?_ (k:=O l) ⟨0,rfl,rfl,U⟩;rintro k _ _ ⟨i,rfl,rfl,hk⟩;simp only [hp,n0,x6,y5,o8,B1,N6];refine Ex.seq ?_;refine tb (F0 i (O l)) (λh2=>?_) (λh2=>?_)
   .have h3:=C8 h2
    have e1:oG [] (l.take (i+1))=zC (oG [] (l.take i)) (Y l i):=by rw [H8 V,Eb]
    repeat' (first|refine mp (Bt (Y l i) _) (EF _) (h2:=?_)|refine gx ?_|fail)
    exact kk ⟨_,_,hcl _ _ _ _ (j6 rfl),i+1,rfl,by rw [e1];rfl,V⟩
   have h3:=D4 h2;obtain rfl:i=O l:=V
   rw [List.take_length];refine gr ?_;refine Ex.S4 (λk T H=>∃(g:Bool) (S:List J9),T=[.d (y6 O1.enc fs),.any,.any,.map n0,.any,.d (.bool g),.any,.any,.any,.any,.any,.any,.any]/\H=hp S/\(g=F->BP fs l=S)/\(g=W->∃n,BP fs l=Ml fs n S/\gI fs S<n/\n<=k)) ?_ (k:=O fs+1) ⟨W,_,rfl,rfl,U,λ_=>⟨_,rfl,by have:=BE fs (oG [] l);omega,k9 _⟩⟩;rintro k _ _ ⟨g,S,rfl,rfl,hg1,hg2⟩;simp only [hp,n0,x6,y5,o8,B1,N6];cases g with
   |false =>
    refine Ex.seq ?_;refine tb (F) (λh2=>?_) (λh2=>?_)
    .cases h2
    refine gr ?_;exact ⟨_,_,rfl,rfl,by rw [hg1 rfl]⟩
   |true =>
    obtain ⟨n,e2,e3,e4⟩:=hg2 rfl;refine Ex.seq ?_;refine tb (W) (λh2=>?_) (λh2=>?_)
    .refine gr ?_
     refine Ex.S4 (λm T H=>∃(j:Nat) (g:Bool),T=[.d (y6 O1.enc fs),.any,.any,.map n0,.any,.d (.bool g),.any,.any,.any,.any,.d (y6 O1.enc fs),.d (Z (O fs)),.d (Z j)]/\H=hp (pass S (fs.take j))/\j+m=O fs/\g=decide (O (pass S (fs.take j))≠O S)) ?_ (k:=O fs) ⟨0,F,rfl,rfl,U,by simp [pass]⟩;rintro m _ _ ⟨j,g,rfl,rfl,hm,hg⟩;simp only [hp,n0,x6,y5,o8,B1,N6];refine Ex.seq ?_;refine tl j (O fs) (λh4=>?_) (λh4=>?_)
     .have e5:pass S (fs.take (j+1))=bV (pass S (fs.take j)) (Y fs j):=by rw [H8 V,EY]
      have e6:=(uI (fs.take j) S).1;refine gr ?_;obtain ⟨f,hf⟩:∃f,Y fs j=f:=⟨_,rfl⟩;obtain ⟨R,hR⟩:∃R,pass S (fs.take j)=R:=⟨_,rfl⟩;rw [hf,hR] at e5;rw [hR] at e6 hg;rw [hf,hR];refine tB (decide (f.src∈R)&& !decide (f.dst∈R)) ?_ (λh5=>?_) (λh5=>?_)
      .repeat' (first|refine lqo ?_|refine lk1 (EO _ _) (Vb _ _) ?_|refine gx ?_|refine fq (λhw=>?_) λhw=>?_|refine ⟨rfl,rfl,_,rfl,?_⟩|refine ⟨rfl,rfl⟩|fail)
       all_goals exact cc
      .obtain ⟨e7,e8⟩:=Tc h5
       repeat' (first|refine lqo ?_|refine mp (Bt f.dst _) (EF _) (h2:=?_)|refine gx ?_|fail)
       exact ⟨m - 1,V,_,_,hcl _ _ _ _ (j6 rfl),j+1,W,rfl,by rw [e5,e7];rfl,V,by rw [e5,e7];simp;omega⟩
      .refine gr ?_
       exact ⟨m - 1,V,_,_,hcl _ _ _ _ (j6 rfl),j+1,g,rfl,by rw [e5,Kz h5];rfl,V,by rw [e5,Kz h5];exact hg⟩
     .obtain rfl:j=O fs:=V
      rw [List.take_length] at hg ⊢;refine gr ?_;refine kk ⟨_,_,hcl _ _ _ _ (j6 rfl),g,pass S fs,rfl,rfl,λh=>?_,λh=>?_⟩
      .rw [e2,TR e3]
       simpa [h] using hg
      .obtain ⟨n',rfl,e7,e8⟩:=TS e3 (by simpa [h] using hg)
       exact ⟨n',by rw [e2,e7],e8,V⟩
    .cases h2
 obtain ⟨v,H1,⟨rfl,rfl⟩,h⟩:=key;exact h
end Go.Proofs.YtibjocmpkoepoaaGreat
namespace Go.Proofs.YtibjocmpkoepoaaGreat
open Go.A5 Go.A5.S
def Uc (c:p9):O (rE c)<=O (Yf c):=AO _ _
attribute [local irreducible] Rx Ry Rn Ex Pf
theorem yh:∀l:List J9,ey l=l.flatMap V5
 |[]=>rfl
 |(a,b)::l=>by rw [ey,yh l];rfl
theorem xW:∀S:List J9,tu (jU S)=J S
 |[]=>rfl
 |(a,b)::S=>by
  have ih:=xW S;simp_all [jU,JD,G4,tu]
def bn5 (H0:j9)(S:List J9)(hS:O S<=1000000)(l:J2):Pm A 63 [.map (O H0)] (H0++[.map (jU S)]) l (B9 2 V5 (sortP S)) (H0++[.map (jU S)]):=by
 refine Pm.dR rfl ?_;simp_all [Ak,xW,if_true,B9,wV,yh]
def nC (c:p9):(x4.cells (c.enc.map .d)).J4=0:=by rfl
def TI (H0:j9)(S:List J9):F3 (H0++[.map (jU S)])=F3 H0:=by
 induction H0 with
 |nil=>simp [F3,JJ]
 |cons a H ih=>grind [F3]
def NN {fs:List O1}{S:List J9}{f:O1}(hf:f∈fs):O (bV S f)+gI fs (bV S f)<=O S+gI fs S:=by
 by_cases hc:f.src∈S/\f.dst∉S
 .have e:bV S f=S++[f.dst]:=by simp_all [bV]
  have h:=uF (S:=S) (S' :=bV S f) (λq hq=>Fk hq) hf hc.2 (by rw [e];simp)
  grind
 simp_all [bV,if_neg]
theorem EX {fs:List O1}:∀(gs:List O1) (S:List J9),(∀g∈gs,g∈fs)->O (pass S gs)+gI fs (pass S gs)<=O S+gI fs S
 |[],_,_=>k9 _
 |g::gs,S,h=>s5 (EX gs (bV S g) λx hx=>h x (List.mem_cons_of_mem _ hx)) (NN (h g List.mem_cons_self))
theorem IM {fs:List O1}:∀(n:Nat) (S:List J9),O (Ml fs n S)<=O S+gI fs S
 |0,S=>Nat.le_add_right _ _
 |n+1,S=>by
  unfold Ml;split
  .omega
  .exact s5 (IM n _) (EX fs S λ_ h=>h)
def Kj (fs:List O1)(l:List J9):O (BP fs l)<=O l+O fs:=by
 grind [IM,oG,Iv,BE,BP]
def AS {c:p9}(hv:F1 c=W)(ht:O c.j7<=8)(hw:O c.views<=12):O (rE c)<=100000:=by
 have h1:=Uc c;have hT:∀k,k<=O c.j7->O (DM c k)<=64 * k:=λk=>by
  induction k with
  |zero=>grind [DM]
  |succ k ih =>
   intro hk;rw [DM,l5];have h2:=(Ua c hv (i:=k) V).1;have h3:=uL (Y c.j7 k).o7 (O (Y c.j7 k).o7);have h4:O (uK c k)<=8:=by grind [uK,Int.toNat_natCast]
   have h5:=uZ k (O (Y c.j7 k).o7) (uK c k);have h6:O (uK c k) * O (Y c.j7 k).o7<=8 * 8:=Nat.mul_le_mul h4 h2
   grind
 have hV:∀k,k<=O c.views->O (DP c (Ss c) (Kr c) k)<=6000 * k:=λk=>by
  induction k with
  |zero=>grind [DP]
  |succ k ih =>
   intro hk;have h2:=Fp (ag6 hv (i:=k) V).ok ((O c.j7:Int)+(k:Int))
   grind [DP,l5]
 grind [Yf]
set_option maxHeartbeats 4000000 in
def bn2 (c:p9)(hs:G8 c)(hv:F1 c=W)(ht:O c.j7<=8)(hw:O c.views<=12)(l:List J9)(hl:O l<=500000) :
  Pf A 23 [cat c,.d (R4 l)] (B9 2 V5 (rG (rE c) (l.filter (aM (cT c))))):=by
 have p46:=ar3 c hs;rw [hv] at p46;have p57:=br6 c hs hv;have p47:=p47 c hs hv ht hw;have Mq:O (cT c)<=20:=by unfold cT;rw [mT];have:p9.ns c=O c.j7+O c.views:=rfl;omega
 have hd:=AS hv ht hw;have hn:O (BP (rE c) (l.filter (aM (cT c))))<=1000000:=s5 (Kj _ _) (by have:=List.length_filter_le (aM (cT c)) l;omega);obtain ⟨w,hwe⟩:∃w,cT c=w:=⟨_,rfl⟩;rw [hwe] at p57 Mq hn ⊢;refine Pf.gr 8 ?_;refine tc (!true) p46 (λh1=>?_) (λh1=>?_)
 .cases h1
 refine gc p57 ?_;refine Ex.S4 (λk T H=>∃i:Nat,T=[.any,.any,.ptr 0 0,.any,B9 2 V5 ((l.take i).filter (aM w)),.d (ints w),.any,.d (R4 l),.d (Z (O l)),.d (Z i)]/\H=[.cells (c.enc.map .d)]/\i+k=O l) ?_ (k:=O l) ⟨0,rfl,rfl,U⟩;rintro k _ _ ⟨i,rfl,rfl,hk⟩;refine Ex.seq ?_;refine tb (F0 i (O l)) (λh2=>?_) (λh2=>?_)
 .have h3:=C8 h2
  have e1:(l.take (i+1)).filter (aM w)=(l.take i).filter (aM w)++(if aM w (Y l i) then [Y l i] else []):=by
   rw [H8 V,List.filter_append]
   congr 1
   simp only [List.filter_cons,List.filter_nil]
  have e2:O ((l.take i).filter (aM w))<=500000:=s5 (List.length_filter_le _ _) D;obtain ⟨acc,hacc⟩:∃acc,(l.take i).filter (aM w)=acc:=⟨_,rfl⟩;refine gr ?_;obtain ⟨p,hp⟩:∃p,Y l i=p:=⟨_,rfl⟩;rw [hacc,hp] at e1;rw [hacc] at e2;rw [hacc,hp];have p56:=br5 w p V;refine tc (aM w p) p56 (λh4=>?_) (λh4=>?_)
  .repeat' (first|refine oN (enc:=V5) p ?_|refine Yg (ys:=[p]) (h2:=?_)|refine gx ?_|fail)
   exact kk ⟨_,_,G5 (j6 rfl) (j6 rfl),i+1,by rw [e1,h4];rfl,rfl,V⟩
  .refine gr ?_
   exact kk ⟨_,_,G5 (j6 rfl) (j6 rfl),i+1,by rw [e1,h4];simp;rfl,rfl,V⟩
 .have h3:=D4 h2
  obtain rfl:i=O l:=V
  rw [List.take_length];have p61:=bn4 (H0:=[.cells (c.enc.map .d)]) (.inl ⟨_,rfl⟩) (by simp [F3,nC]) (rE c) (l.filter (aM w)) V (s5 (List.length_filter_le _ _) V);have p63:=λq=>bn5 [.cells (c.enc.map .d)] (BP (rE c) (l.filter (aM w))) hn q
  have hb:F3 ([.cells (c.enc.map .d)]++[.map (jU (BP (rE c) (l.filter (aM w))))])<=2:=by rw [TI];simp [F3,nC]
  repeat' (first|refine sO p47 ?_|refine cp p61 (Nat.le_add_right _ _) ?_|refine c1 (p63 _) rfl ?_ (iP:=hb) (hcl:=K6 hb)|refine gx ?_|fail)
  exact ⟨_,rfl,rfl⟩
end Go.Proofs.YtibjocmpkoepoaaGreat


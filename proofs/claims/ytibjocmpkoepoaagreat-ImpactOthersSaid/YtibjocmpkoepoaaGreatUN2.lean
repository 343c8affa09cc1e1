import Derived.Test.YtibjocmpkoepoaaGreatUN0
import Derived.Test.YtibjocmpkoepoaaGreatUT0
set_option linter.all false
open Bool renaming and_eq_true→c9,false_eq_true→j6,not_eq_true'→o3,or_eq_false_iff→C7,true→W,false→F
open List renaming cons_append→x7,getElem_of_mem→E9,length_append→k8,length_cons→o8,length_map→A1,length_nil→A4,map_cons→E8,mem_append→A5,mem_singleton→L1,nil_append→y6,set_cons_succ→o4,set_cons_zero→o5,take_length→I8,take_of_length_le→s4,length→O
open Nat renaming le_of_ble_eq_true→j4,le_refl→j9,le_trans→p7,reduceAdd→K2,zero_le→x3
open Option renaming some→J,none→K
namespace Go.Proofs.YtibjocmpkoepoaaGreat
open Go.y9 Go.y9.S
attribute [local irreducible] Rx Ry Rn Ex Pf
mutual
theorem DX {ty:List Int}:∀a:X8,a.wf->x4 (a.typ ty).2 0=W->∀t,t∈a.flat->x4 t.op 2=W->0<=t.col/\t.col<O ty
 | .node t l,hw,h,t',ht',h2=>by
  obtain ⟨hok,Ua,Ei⟩:=hw;simp [X8.typ] at h;split at h
  next h1=>
   simp [X8.flat,List.mem_cons] at ht'
   rcases ht' with rfl|ht'
   .have e1:x4 t'.op 1=F:=by simp_all [o6]
    simp [wO,e1,h2,if_true,j6,if_false] at h;split at h
    all_goals simp_all [o6,kI,Bool.not_eq_true,tZ,bt,if_true,j6,if_false,c9,ej]
   .exact zB l Ei h1 t' ht' h2
  simp_all
theorem zB {ty:List Int}:∀l:List X8,Nr l->x4 (ew ty l).2 0=W->∀t,t∈K4 l->x4 t.op 2=W->0<=t.col/\t.col<O ty
 |[],_,_,t,h,_=>by simp [K4] at h
 |a::l,hw,h,t,ht,h2=>by
  simp [ew] at h;split at h
  next h1=>
   simp [K4,A5] at ht
   rcases ht with ht|ht
   .exact DX a hw.1 h1 t ht h2
   .exact zB l hw.2 h t ht h2
  simp_all
end
theorem Gv {e:List R2}{ty:List Int}(h:x4 (J7 e ty).2 0=W):xd e (O ty):=by
 unfold J7 at h;split at h
 .simp [o6] at h
 next a ha=>
  split at h
  .obtain ⟨e1,e2,e3⟩:=sY ha
   have hb:V6 e=W:=by grind [dN]
   refine ⟨?_,.inl hb,λx hx=>?_⟩
   .grind [V6,x6]
   .obtain ⟨t,ht,h1,rfl⟩:=IG hx
    rw [e1] at ht;exact DX a e2 h t ht h1
  grind [o6]
theorem uU (n:Nat):xd [] n:=⟨U,.inr rfl,λx hx=>by simp_all [yh]⟩
theorem BU {ty:List Int}:∀(l:List xS) (seen:List G4),V1 ty seen l=0->∀e,e∈l->xd e.expr (O ty)
 |[],_,_,e,he=>by cases he
 |a::l,seen,h,e,he=>by
  have ih:=BU (ty:=ty) l (seen++[a.name]);unfold V1 at h;split at h
  .omega
  .split at h
   .omega
   .split at h
    .omega
    .split at h
     .rcases List.mem_cons.1 he with rfl|he
      all_goals simp_all [c9,Bool.true_and,Bool.or_eq_true,not_or,y4,decide_eq_true_eq,List.length_eq_zero_iff,uU]
     grind [o6,Gv]
theorem Dj {l r:List Int}:∀(on:List (Int×Int)),L6 l r on=0->∀i,i<O on->0<=(Y on i).1/\(Y on i).1<O l/\0<=(Y on i).2/\(Y on i).2<O r
 |[],_,i,hi=>by simp at hi
 |p::ps,h,i,hi=>by
  unfold L6 at h;split at h
  .omega
  next h1=>
   split at h
   .omega
   .simp [p9,x6] at h1
    cases i with
    |zero =>
     grind [D6]
    |succ i =>
     have h2:i<O ps:=M
     have:=Dj ps h i h2;simp_all [D6]
theorem Ap {c:o9}(hv:D0 c=W){s:G4}{k:Nat}(h:0<=E5 c s k):O9 c s=E5 c s k/\X9 c (O9 c s)=W:=by
 have e1:O9 c s=eV c s:=(RL c s).symm;have hl:=S7 c;have e2:eV c s=E5 c s k:=by
  unfold eV
  grind [E5,s4,yK]
 grind [J2,X9,x6,y4]
def Ul (c:o9)(s:G4):List D7:=OW (O9 c s) (O (O7 c (O9 c s).toNat))
def IE (c:o9)(i:Nat):List D7:=Ul c (Y c.views i).left
def Bo (c:o9)(i:Nat):List D7:=if K3 (Y c.views i).right [] then [] else Ul c (Y c.views i).right
def HJ (c:o9):List J8:=rB c (O c.j7)++rF c (IE c) (Bo c) (O c.views)
def jM (c:o9):List J8:=dB (aY (HJ c)) (O (HJ c))
def Hj (c:o9)(s:G4):O (Ul c s)=O (O7 c (O9 c s).toNat):=AK _ _
def Kl {v:Vw}{L R:List D7}(h:zM v L R):O (EJ v L R)<=600:=by
 have h1:=kG v.wh (L++R);have h2:=h.wh.len;have h3:=AF v L R (O v.on);have h4:=h.on8;have h5:=h.o7;have h6:=nq (d9:=mq v (L++R) (O v.items)) (λd hd=>uL h.it h.ag d (List.mem_append_left _ hd))
 grind [mq,EJ,k8,o8,A4]
def zD {v:Vw}{L R:List D7}(h:zM v L R)(s:Int):O (jJ s v L R)<=6000:=by
 unfold jJ;split
 .have:=wT s L R (O L)
  have:=h.l8;omega
 .have h1:=Kl h
  have h2:O (uK v (L++R))<=8:=by have:=h.o7;grind [uK,mq,EK]
  have h3:=vT s (uK v (L++R)) (EJ v L R) (λi hi=>uL h.it h.ag _ (C5 hi)) _ (j9 _);have h4:O (uK v (L++R)) * (64+O (EJ v L R))<=8 * 664:=Nat.mul_le_mul h2 V;omega
structure YE (c:o9)(i:Nat):Prop where
 ok:zM (Y c.views i) (IE c i) (Bo c i)
 lf:X9 c (O9 c (Y c.views i).left)=W/\0<=O9 c (Y c.views i).left/\O9 c (Y c.views i).left<O c.j7+i
 rt:K3 (Y c.views i).right []=F->X9 c (O9 c (Y c.views i).right)=W/\0<=O9 c (Y c.views i).right/\O9 c (Y c.views i).right<O c.j7+i
 nu:x4 (Y c.views i).kind 2=F->O (O7 c (O c.j7+i))=O (Y c.views i).items+O (Y c.views i).F6
 un:x4 (Y c.views i).kind 2=W->O (O7 c (O c.j7+i))=O (IE c i)
def MW {c:o9}(hv:D0 c=W){i:Nat}(hi:i<O c.views):YE c i:=by
 obtain ⟨h1,_,h3⟩:=Z1 hv;have aa:o9.ns c=O c.j7+O c.views:=rfl;have hnl:=Q1 c;have sx:=bz (h1 (O c.j7+i) V) V V;obtain ⟨k,hk⟩:∃k,O c.j7+i=k:=⟨_,rfl⟩;have ev:T1 c k=Y c.views i:=by grind [T1,Nat.add_sub_cancel_left]
 have hg:∀q,q<k->1<=O (O7 c q)/\O (O7 c q)<=8:=λq hq=>by
  grind [fo]
 rw [hk] at sx;unfold S4 lT rT at sx;rw [ev] at sx;obtain ⟨v,Yk⟩:∃v,Y c.views i=v:=⟨_,rfl⟩;rw [Yk] at sx ev;split at sx
 .omega
 .split at sx
  .omega
  next hl=>
   split at sx
   .omega
   next hsh=>
    simp only [Bool.not_eq_true,C7] at hl;have f1:=B8 hl.1;have f2:K3 v.right []=F->0<=E5 c v.right k:=λh=>by
     simp_all [Bool.not_false,Bool.true_and,B8]
    have b1:=J2 c v.left k;have b2:=J2 c v.right k;obtain ⟨g1,g2⟩:=Ap hv f1;have hlf:X9 c (O9 c v.left)=W/\0<=O9 c v.left/\O9 c v.left<(O c.j7:Int)+i:=⟨g2,V,V⟩;have Lb:K3 v.right []=F->X9 c (O9 c v.right)=W/\0<=O9 c v.right/\O9 c v.right<(O c.j7:Int)+i:=λh=>by
     grind [Ap]
    have el:IE c i=Ul c v.left:=by simp_all [IE]
    have er:Bo c i=if K3 v.right [] then [] else Ul c v.right:=by simp_all [Bo]
    have ll:O (IE c i)=O (O7 c (E5 c v.left k).toNat):=by rw [el,Hj,g1]
    have lr:K3 v.right []=F->O (Bo c i)=O (O7 c (E5 c v.right k).toNat):=λh=>by
     rw [er,h,if_neg U,Hj,(Ap hv (f2 h)).1]
    have lr0:K3 v.right []=W->Bo c i=[]:=λh=>M
    have l1:=hg (E5 c v.left k).toNat V;have r1:O (Bo c i)<=8:=by
     grind
    have eL:Y (jy c k) (E5 c v.left k).toNat=O7 c (E5 c v.left k).toNat:=R6 c V;have eR:O (if K3 v.right [] then [] else Y (jy c k) (E5 c v.right k).toNat)=O (Bo c i):=by
     cases h:K3 v.right [] with
     |true=>simp_all
     |false =>
      have:=f2 h;rw [lr h,if_neg U,R6 c V]
    have hin:O (ins c k)=O (IE c i++Bo c i):=by
     unfold ins vt;rw [show Y c.views (k - O c.j7)=v from ev,k8,eL,eR,k8,ll]
    have ect:O7 c k=if x4 v.kind 2 then Y (jy c k) (E5 c v.left k).toNat else W1 v (ins c k):=by
     grind [O7,eP,ins,Y]
    rw [<- Yk] at hlf Lb;rw [<- ll] at l1;have VI:(O (Y (jy c k) (E5 c v.left k).toNat):Nat)=O (IE c i):=by rw [eL,ll]
    obtain ⟨RT,hRT⟩:∃RT,(if K3 v.right [] then [] else Y (jy c k) (E5 c v.right k).toNat)=RT:=⟨_,rfl⟩;rw [hRT] at sx eR
    by_cases h2:x4 v.kind 2=W
    .rw [if_pos h2] at sx
     have Oh:Y6 v=W:=M
     unfold Y6 at Oh;rw [if_pos h2] at Oh;simp only [c9,o3,o6,decide_eq_true_eq,beq_iff_eq] at Oh;have Yg:O v.on=0:=V
     have hit:O v.items=0:=V
     have hag:O v.F6=0:=V
     have qo:O (IE c i)=O (Bo c i):=by
      rw [<- VI,<- eR];refine Decidable.byContradiction λhne=>?_
      simp_all [lU]
     refine ⟨?_,hlf,Lb,?_,?_⟩
     .rw [Yk]
      refine ⟨V,l1.2,r1,V,V,λj hj=>V,?_,λj hj=>V,λj hj=>V,λ_=>V⟩;simp_all [uU]
     all_goals simp_all
    .rw [if_neg h2] at sx
     have h2f:x4 v.kind 2=F:=M
     have Oh:Y6 v=W:=M
     have hR:gU v=W:=by
      grind [Y6]
     unfold gU at hR;simp only [c9,x6,decide_eq_true_eq] at hR;obtain ⟨⟨_,ho8⟩,hc8⟩:=hR;split at sx
     .simp_all [o6]
     next h3=>
      have h3:L6 (Y (jy c k) (E5 c v.left k).toNat) RT v.on=0:=by simp_all [o6]
      have hpo:=Dj v.on h3;split at sx
      .simp_all
      next h4=>
       split at sx
       .omega
       .have hce:=BU (aA v) [] sx
        rw [hin] at hce;have Yn:xd v.wh (O (IE c i++Bo c i)):=by
         rcases Nat.eq_zero_or_pos (O v.wh) with h0|h0
         all_goals grind [List.length_eq_zero_iff,uU,Gv,e0,D5,y4]
        refine ⟨?_,hlf,Lb,?_,?_⟩
        .rw [Yk]
         refine ⟨V,l1.2,r1,V,V,λj hj=>?_,Yn,λj hj=>?_,λj hj=>?_,λh=>absurd h h2⟩
         .simp_all
         .have:=hce ⟨F,(Y v.items j).name, -1,(Y v.items j).expr⟩ (List.mem_append_left _ (List.mem_map.2 ⟨_,C5 hj,rfl⟩))
          exact this
         .have:=hce ⟨W,(Y v.F6 j).name,(Y v.F6 j).func,(Y v.F6 j).expr⟩ (List.mem_append_right _ (List.mem_map.2 ⟨_,C5 hj,rfl⟩))
          exact this
        all_goals simp_all [if_neg,W1,absurd]
def Kn (c:o9)(hv:D0 c=W){i:Nat}(hi:i<O c.j7):O (Y c.j7 i).o7<=8/\1<=O (Y c.j7 i).o7:=by
 have h:=fo hv (i+1) i V (by grind [o9.ns]);simp_all [O7,Y,eP,if_pos,A1]
def TB {c:o9}(hs:E7 c)(hv:D0 c=W){i:Nat}(hi:i<O c.views):PS c i (IE c i) (Bo c i):=by
 obtain ⟨ok,⟨l1,l2,l3⟩,hr,_,_⟩:=MW hv hi;have aa:o9.ns c=O c.j7+O c.views:=rfl;refine ⟨ok,?_,λh=>?_,λh=>?_,zD ok⟩
 .have:=fo hv ((O9 c (Y c.views i).left).toNat+1) (O9 c (Y c.views i).left).toNat V V
  exact QK c hs _ l1 V
 .obtain ⟨r1,r2,r3⟩:=hr h
  have:=fo hv ((O9 c (Y c.views i).right).toNat+1) (O9 c (Y c.views i).right).toNat V V;have e:Bo c i=Ul c (Y c.views i).right:=by simp_all [Bo,if_neg]
  rw [e];exact QK c hs _ r1 V
 simp_all [Bo,if_pos]
def ae1 (l:List J8):y9.Data:=s7 J8.enc l
def p47 (c:o9)(hs:E7 c)(hv:D0 c=W)(ht:O c.j7<=8)(hw:O c.views<=12):Pf A 47 [cat c] (.d (ae1 (jM c))) :=
 al7 c hs hv ht (λ_ hi=>(Kn c hv hi).1) hw (IE c) (Bo c) λ_ hi=>TB hs hv hi
end Go.Proofs.YtibjocmpkoepoaaGreat
namespace Go.y9.S
def adT {A:Prog}{l:F9}{b:Nat}{dr:Bool}{j8 ops:List x9}{T:List c7}{H:k9}{n:Nat}{rl:List c7}{l6:List Touch}{Q:List c7->k9->List c7->Prop}{x y:A3}{c d:Int}{u:List Nat}{s:Nat}{T2:List c7}
  (hx:rq T n rl x= .d (.int .i64 c):=by rfl) (hy:rq T n rl y= .d (.int .i64 d):=by rfl) (h0: -9223372036854775808<=c+d/\c+d<9223372036854775808:=by omega) (hs:T[s]?.isSome=W:=by rfl) (hT:T.set s (.d (.int .i64 (c+d)))=T2:=by simp only [o5,o4]<;>rfl)
  (h2:Ry A l b dr j8 ops T2 H (n+1) (.d (.int .i64 (c+d))::rl) (.slot s::l6) Q):Ry A l b dr j8 (⟨.bin .add x y,J s,K,u⟩::ops) T H n rl l6 Q :=
 Ry.nL (v:= .d (.int .i64 (c+d))) (rs:=[]) rfl (by simp only [l5,hx,hy,zP (Or.inl ⟨rfl,rfl⟩) h0.1 h0.2]) rfl rfl hs (by rw [hT];exact h2)
end Go.y9.S
namespace Go.Proofs.YtibjocmpkoepoaaGreat
open Go.y9 Go.y9.S
attribute [local irreducible] Rx Ry Rn Ex Pf
def FR (c:o9):Nat->List Int
 |0=>[]
 |n+1=>FR c n++[(O (O7 c n):Int)]
theorem iP (c:o9):∀n,O (FR c n)=n
 |0=>rfl
 |n+1=>by simp [FR,iP c n]
def cN (c:o9):List Int:=FR c (o9.ns c)
def aq1 (c:o9)(hs:E7 c)(hv:D0 c=W):Pf A 57 [cat c] (.d (ints (cN c))):=by
 have aa:o9.ns c=O c.j7+O c.views:=rfl;obtain ⟨f0,f1,_⟩:=id hs.sm.eD;have e:ints (cN c)=s7 (λn=>[Z n]) (cN c):=by simp [ints,s7,List.flatMap_singleton']
 rw [e];refine Pf.go 6 ?_
 repeat' (first|refine adT (h2:=?_)|refine gx ?_|fail)
 refine Ex.J4 (λk T H=>∃(i:Nat),T=[.any,.ptr 0 0,.any,A8 1 (λn=>[Z n]) (FR c i),.any,.d (Z (O c.j7+O c.views)),.d (Z i)]/\H=[.cells (c.enc.map .d)]/\i+k=o9.ns c) ?_ (k:=o9.ns c) ⟨0,rfl,rfl,U⟩;rintro k _ _ ⟨i,rfl,rfl,hk⟩;have Ei:=iP c i;refine Ex.seq ?_;refine tb (D5 i ((O c.j7:Int)+O c.views)) (λh2=>?_) (λh2=>?_)
 .have h3:=A7 h2
  have hi:X9 c (i:Int)=W:=by
   unfold X9;rw [hv];simp [x6,y4];omega
  have p1:=LX c hs (i:Int) hi;rw [Int.toNat_natCast] at p1
  repeat' (first|refine cl (p1) ?_|refine ap1 (enc:=λn=>[Z n]) (a:=(O (O7 c i):Int)) (h2:=?_)|refine gx ?_|fail)
  exact kk ⟨i+1,rfl,rfl,V⟩
 .have h3:=B8 h2
  obtain rfl:i=o9.ns c:=V
  refine gr ?_;exact ⟨_,rfl,rfl⟩
def Y5 (w:List Int)(p:D7):Bool:=T5 0 p.1&&(D5 p.1 (O w)&&(T5 0 p.2&&D5 p.2 (Y w p.1.toNat)))
def aq0 (w:List Int)(p:D7)(hw:O w<=1000000):Pf A 56 [.d (ints w),Fv p] (.d (.bool (Y5 w p))):=by
 refine Pf.go 2 ?_;unfold Fv
 repeat' (first|refine gy ?_|refine fq (λhw=>?_) λhw=>?_|refine ⟨_,rfl,?_⟩|fail)
 all_goals simp_all [j5,Y5]
def CE (p:D7):Key:= .st [.i .i64 p.1,.i .i64 p.2]
def fP (S:List D7):List (Key×c7):=S.map λp=>(CE p,.d (.bool W))
theorem Az (p q:D7):Data.aP (.st [.i,.i]) (CE p) (CE q)=J (decide (p=q)):=by
 obtain ⟨a,b⟩:=p;obtain ⟨c,d⟩:=q;have e:(decide ((a,b)=(c,d)))=(a==c&&(b==d&&W)):=by
  grind
 rw [e];rfl
theorem yW (p:D7):∀S,Z8 (.st [.i,.i]) (CE p) (fP S)=J (if p∈S then J (.d (.bool W)) else K)
 |[]=>rfl
 |q::S=>by
  have ih:=yW p S;simp [fP,E8,Z8,Az] at ih ⊢
  grind
def Lu (p:D7)(S:List D7):((if p∈S then J (c7.d (.bool W)) else K).getD (.d (.bool F)))= .d (.bool (decide (p∈S))):=by
 grind
theorem vB (p:D7):∀S,bA (.st [.i,.i]) (CE p) (.d (.bool W)) (fP S)=J (fP (tf S p))
 |[]=>rfl
 |q::S=>by
  have ih:=vB p S
  grind [fP,bA,Az,tf,decide_false]
def yN (p:D7):Data.aP (.st [.i,.i]) (CE p) (CE p)=J W:=by rw [Az];simp
def CL (S:List D7):(s6.map (fP S)).F4=0:=by
 have:∀S:List D7,A2 ((fP S).map (·.2))=0:=λS=>by
  induction S with
  |nil=>rfl
  |cons q S ih=>simp_all [fP,A2,c7.F4]
 exact this S
theorem xW (p:D7):∀(l S:List D7),jL S (l++[p])=tf (jL S l) p
 |[],_=>rfl
 |q::l,S=>by rw [x7,jL,xW p l,jL]
theorem zi (f:J8):∀(fs:List J8) (S:List D7),pass S (fs++[f])=Z0 (pass S fs) f
 |[],_=>rfl
 |g::fs,S=>by rw [x7,pass,zi f fs,pass]
def Kf {fs:List J8}{S:List D7}{n:Nat}(h:dh fs S<n)(hp:O (pass S fs)=O S):Ec fs n S=pass S fs:=by
 obtain ⟨n,rfl⟩:∃m,n=m+1:=⟨n - 1,V⟩;simp_all [Ec,if_pos,oV]
def Kg {fs:List J8}{S:List D7}{n:Nat}(h:dh fs S<n)(hp:O (pass S fs)≠O S):∃m,n=m+1/\Ec fs n S=Ec fs m (pass S fs)/\dh fs (pass S fs)<m:=by
 obtain ⟨n,rfl⟩:∃m,n=m+1:=⟨n - 1,V⟩;obtain ⟨f,hf,h1,h2⟩:=vY fs S hp;have:=oR (λq hq=>kJ fs hq) hf h1 h2
 grind [Ec]
def Jo {S:List D7}{f:J8}(h:(decide (f.src∈S)&& !decide (f.dst∈S))=W):Z0 S f=tf S f.dst/\O (tf S f.dst)=O S+1:=by
 simp_all [Z0,tf]
def DI {S:List D7}{f:J8}(h:(decide (f.src∈S)&& !decide (f.dst∈S))=F):Z0 S f=S:=by
 simp_all [Z0,if_neg]
set_option maxHeartbeats 16000000 in
def al8 {H0:k9}(hH:(∃a,H0=[a])\/(∃a b,H0=[a,b])\/(∃a b d,H0=[a,b,d])\/(∃a b d e,H0=[a,b,d,e])\/∃a b d e f,H0=[a,b,d,e,f])(h0:D3 H0=0)(fs:List J8)(l:List D7)(yE:O fs<=1000000)(hl:O l<=1000000) :
  Pm A 61 [.d (s7 J8.enc fs),.d (N7 l)] H0 N6 (.map (O H0)) (H0++[.map (fP (we fs l))]):=by
 have key:Pq A 61 [.d (s7 J8.enc fs),.d (N7 l)] H0 N6 λv H1=>v= .map (O H0)/\H1=H0++[.map (fP (we fs l))]:=by
  have hcl:∀(T:List c7) (S:List D7) (r:k9) (mask:List Bool),A2 (P8 mask T)<=O H0+1->clean mask 0 (O H0+1) ⟨T,H0++[.map (fP S)]++r⟩=⟨P8 mask T,H0++[.map (fP S)]⟩:=by
   intro T S r mask hT;have e:(H0++[s6.map (fP S)]++r).take (O H0+1)=H0++[.map (fP S)]:=by
    have:O H0+1=O (H0++[s6.map (fP S)]):=U
    rw [this,List.take_left]
   rw [B2 hT ?_,e];rw [e,List.drop_zero];have hb:∀H:k9,D3 (H++[.map (fP S)])=D3 H:=λH=>by
    induction H with
    |nil=>simp [D3,CL]
    |cons a H ih=>simp only [x7,D3,ih]
   rw [hb,h0];exact x3 _
  let n0:=O H0
  let hp:List D7->k9:=λS=>H0++[.map (fP S)]
  rcases hH with ⟨a,rfl⟩|⟨a,b,rfl⟩|⟨a,b,d,rfl⟩|⟨a,b,d,e,rfl⟩|⟨a,b,d,e,f,rfl⟩
  all_goals
   refine Pq.run (b:=_) [.d (s7 J8.enc fs),.d (N7 l),.any,.any,.any,.any,.any,.any,.any,.any,.any,.any,.any] rfl rfl rfl rfl rfl ?_
   repeat' (first|refine mkm (h2:=?_)|refine gx ?_|fail)
   refine Ex.L9 (λk T H=>∃i:Nat,T=[.d (s7 J8.enc fs),.any,.any,.map n0,.any,.any,.any,.d (N7 l),.d (Z (O l)),.d (Z i),.any,.any,.any]/\H=hp (jL [] (l.take i))/\i+k=O l) ?_ (k:=O l) ⟨0,rfl,rfl,U⟩;rintro k _ _ ⟨i,rfl,rfl,hk⟩;simp only [hp,n0,x7,y6,o8,A4,K2];refine Ex.seq ?_;refine tb (D5 i (O l)) (λh2=>?_) (λh2=>?_)
   .have h3:=A7 h2
    have e1:jL [] (l.take (i+1))=tf (jL [] (l.take i)) (Y l i):=by rw [E4 V,xW]
    repeat' (first|refine mp (vB (Y l i) _) (yN _) (h2:=?_)|refine gx ?_|fail)
    exact kk ⟨_,_,hcl _ _ _ _ (j4 rfl),i+1,rfl,by rw [e1];rfl,V⟩
   have h3:=B8 h2;obtain rfl:i=O l:=V
   rw [I8];refine gr ?_;refine Ex.L9 (λk T H=>∃(g:Bool) (S:List D7),T=[.d (s7 J8.enc fs),.any,.any,.map n0,.any,.d (.bool g),.any,.any,.any,.any,.any,.any,.any]/\H=hp S/\(g=F->we fs l=S)/\(g=W->∃n,we fs l=Ec fs n S/\dh fs S<n/\n<=k)) ?_ (k:=O fs+1) ⟨W,_,rfl,rfl,U,λ_=>⟨_,rfl,by have:=vN fs (jL [] l);omega,j9 _⟩⟩;rintro k _ _ ⟨g,S,rfl,rfl,hg1,hg2⟩;simp only [hp,n0,x7,y6,o8,A4,K2];cases g with
   |false =>
    refine Ex.seq ?_;refine tb (F) (λh2=>?_) (λh2=>?_)
    .cases h2
    refine gr ?_;exact ⟨_,_,rfl,rfl,by rw [hg1 rfl]⟩
   |true =>
    obtain ⟨n,e2,e3,e4⟩:=hg2 rfl;refine Ex.seq ?_;refine tb (W) (λh2=>?_) (λh2=>?_)
    .refine gr ?_
     refine Ex.L9 (λm T H=>∃(j:Nat) (g:Bool),T=[.d (s7 J8.enc fs),.any,.any,.map n0,.any,.d (.bool g),.any,.any,.any,.any,.d (s7 J8.enc fs),.d (Z (O fs)),.d (Z j)]/\H=hp (pass S (fs.take j))/\j+m=O fs/\g=decide (O (pass S (fs.take j))≠O S)) ?_ (k:=O fs) ⟨0,F,rfl,rfl,U,by simp [pass]⟩;rintro m _ _ ⟨j,g,rfl,rfl,hm,hg⟩;simp only [hp,n0,x7,y6,o8,A4,K2];refine Ex.seq ?_;refine tl j (O fs) (λh4=>?_) (λh4=>?_)
     .have e5:pass S (fs.take (j+1))=Z0 (pass S (fs.take j)) (Y fs j):=by rw [E4 V,zi]
      have e6:=(oV (fs.take j) S).1;refine gr ?_;obtain ⟨f,hf⟩:∃f,Y fs j=f:=⟨_,rfl⟩;obtain ⟨R,hR⟩:∃R,pass S (fs.take j)=R:=⟨_,rfl⟩;rw [hf,hR] at e5;rw [hR] at e6 hg;rw [hf,hR];refine tB (decide (f.src∈R)&& !decide (f.dst∈R)) ?_ (λh5=>?_) (λh5=>?_)
      .repeat' (first|refine lqo ?_|refine lk1 (yW _ _) (Lu _ _) ?_|refine gx ?_|refine fq (λhw=>?_) λhw=>?_|refine ⟨rfl,rfl,_,rfl,?_⟩|refine ⟨rfl,rfl⟩|fail)
       all_goals exact cc
      .obtain ⟨e7,e8⟩:=Jo h5
       repeat' (first|refine lqo ?_|refine mp (vB f.dst _) (yN _) (h2:=?_)|refine gx ?_|fail)
       exact ⟨m - 1,V,_,_,hcl _ _ _ _ (j4 rfl),j+1,W,rfl,by rw [e5,e7];rfl,V,by rw [e5,e7];simp;omega⟩
      .refine gr ?_
       exact ⟨m - 1,V,_,_,hcl _ _ _ _ (j4 rfl),j+1,g,rfl,by rw [e5,DI h5];rfl,V,by rw [e5,DI h5];exact hg⟩
     .obtain rfl:j=O fs:=V
      rw [I8] at hg ⊢;refine gr ?_;refine kk ⟨_,_,hcl _ _ _ _ (j4 rfl),g,pass S fs,rfl,rfl,λh=>?_,λh=>?_⟩
      .rw [e2,Kf e3]
       simpa [h] using hg
      .obtain ⟨n',rfl,e7,e8⟩:=Kg e3 (by simpa [h] using hg)
       exact ⟨n',by rw [e2,e7],e8,V⟩
    .cases h2
 obtain ⟨v,H1,⟨rfl,rfl⟩,h⟩:=key;exact h
end Go.Proofs.YtibjocmpkoepoaaGreat
namespace Go.Proofs.YtibjocmpkoepoaaGreat
open Go.y9 Go.y9.S
theorem BS {xs:List J8}{f:J8}:∀k,k<=O xs->f∈dB xs k->f∈xs
 |0,_,h=>by simp [dB] at h
 |k+1,hk,h=>by
  rw [dB,A5] at h
  rcases h with h|h
  .exact BS k V h
  grind [L1,C5]
def Kr {c:o9}{f:J8}(h:f∈jM c):f∈HJ c:=by
 have:=BS _ (Nat.le_of_eq (nN (HJ c)).length_eq.symm) h
 grind [nN]
def Kq (c:o9):O (jM c)<=O (HJ c):=uH _ _
attribute [local irreducible] Rx Ry Rn Ex Pf
theorem kN:∀l:List D7,V9 l=l.flatMap K6
 |[]=>rfl
 |(a,b)::l=>by rw [V9,kN l];rfl
theorem sB:∀S:List D7,nE (fP S)=J S
 |[]=>rfl
 |(a,b)::S=>by
  have ih:=sB S;simp_all [fP,CE,E8,nE]
def al9 (H0:k9)(S:List D7)(hS:O S<=1000000)(l:F9):Pm A 63 [.map (O H0)] (H0++[.map (fP S)]) l (A8 2 K6 (sortP S)) (H0++[.map (fP S)]):=by
 refine Pm.aB rfl ?_;simp_all [ua,sB,if_true,A8,X0,kN]
def iV (c:o9):(s6.cells (c.enc.map .d)).F4=0:=by rfl
def JU (H0:k9)(S:List D7):D3 (H0++[.map (fP S)])=D3 H0:=by
 induction H0 with
 |nil=>simp [D3,CL]
 |cons a H ih=>grind [D3]
def FK {fs:List J8}{S:List D7}{f:J8}(hf:f∈fs):O (Z0 S f)+dh fs (Z0 S f)<=O S+dh fs S:=by
 by_cases hc:f.src∈S/\f.dst∉S
 .have e:Z0 S f=S++[f.dst]:=by simp_all [Z0]
  have h:=oR (S:=S) (S' :=Z0 S f) (λq hq=>zz hq) hf hc.2 (by rw [e];simp)
  grind
 simp_all [Z0,if_neg]
theorem zh {fs:List J8}:∀(gs:List J8) (S:List D7),(∀g∈gs,g∈fs)->O (pass S gs)+dh fs (pass S gs)<=O S+dh fs S
 |[],_,_=>j9 _
 |g::gs,S,h=>p7 (zh gs (Z0 S g) λx hx=>h x (List.mem_cons_of_mem _ hx)) (FK (h g List.mem_cons_self))
theorem BP {fs:List J8}:∀(n:Nat) (S:List D7),O (Ec fs n S)<=O S+dh fs S
 |0,S=>Nat.le_add_right _ _
 |n+1,S=>by
  unfold Ec;split
  .omega
  .exact p7 (BP n _) (zh fs S λ_ h=>h)
def Dv (fs:List J8)(l:List D7):O (we fs l)<=O l+O fs:=by
 grind [BP,jL,BA,vN,we]
def uM {c:o9}(hv:D0 c=W)(ht:O c.j7<=8)(hw:O c.views<=12):O (jM c)<=100000:=by
 have h1:=Kq c;have hT:∀k,k<=O c.j7->O (rB c k)<=64 * k:=λk=>by
  induction k with
  |zero=>grind [rB]
  |succ k ih =>
   intro hk;rw [rB,k8];have h2:=(Kn c hv (i:=k) V).1;have h3:=pe (Y c.j7 k).o7 (O (Y c.j7 k).o7);have h4:O (oZ c k)<=8:=by grind [oZ,Int.toNat_natCast]
   have h5:=pZ k (O (Y c.j7 k).o7) (oZ c k);have h6:O (oZ c k) * O (Y c.j7 k).o7<=8 * 8:=Nat.mul_le_mul h4 h2
   grind
 have hV:∀k,k<=O c.views->O (rF c (IE c) (Bo c) k)<=6000 * k:=λk=>by
  induction k with
  |zero=>grind [rF]
  |succ k ih =>
   intro hk;have h2:=zD (MW hv (i:=k) V).ok ((O c.j7:Int)+(k:Int))
   grind [rF,k8]
 grind [HJ]
set_option maxHeartbeats 4000000 in
def al6 (c:o9)(hs:E7 c)(hv:D0 c=W)(ht:O c.j7<=8)(hw:O c.views<=12)(l:List D7)(hl:O l<=500000) :
  Pf A 23 [cat c,.d (N7 l)] (A8 2 K6 (xO (jM c) (l.filter (Y5 (cN c))))):=by
 have Wi:=OU c hs;rw [hv] at Wi;have p57:=aq1 c hs hv;have p47:=p47 c hs hv ht hw;have Ei:O (cN c)<=20:=by unfold cN;rw [iP];have:o9.ns c=O c.j7+O c.views:=rfl;omega
 have hd:=uM hv ht hw;have hn:O (we (jM c) (l.filter (Y5 (cN c))))<=1000000:=p7 (Dv _ _) (by have:=List.length_filter_le (Y5 (cN c)) l;omega);obtain ⟨w,hwe⟩:∃w,cN c=w:=⟨_,rfl⟩;rw [hwe] at p57 Ei hn ⊢;refine Pf.gr 8 ?_;refine tc (!true) Wi (λh1=>?_) (λh1=>?_)
 .cases h1
 refine gc p57 ?_;refine Ex.L9 (λk T H=>∃i:Nat,T=[.any,.any,.ptr 0 0,.any,A8 2 K6 ((l.take i).filter (Y5 w)),.d (ints w),.any,.d (N7 l),.d (Z (O l)),.d (Z i)]/\H=[.cells (c.enc.map .d)]/\i+k=O l) ?_ (k:=O l) ⟨0,rfl,rfl,U⟩;rintro k _ _ ⟨i,rfl,rfl,hk⟩;refine Ex.seq ?_;refine tb (D5 i (O l)) (λh2=>?_) (λh2=>?_)
 .have h3:=A7 h2
  have e1:(l.take (i+1)).filter (Y5 w)=(l.take i).filter (Y5 w)++(if Y5 w (Y l i) then [Y l i] else []):=by
   rw [E4 V,List.filter_append]
   congr 1
   simp only [List.filter_cons,List.filter_nil]
  have e2:O ((l.take i).filter (Y5 w))<=500000:=p7 (List.length_filter_le _ _) D;obtain ⟨acc,hacc⟩:∃acc,(l.take i).filter (Y5 w)=acc:=⟨_,rfl⟩;refine gr ?_;obtain ⟨p,hp⟩:∃p,Y l i=p:=⟨_,rfl⟩;rw [hacc,hp] at e1;rw [hacc] at e2;rw [hacc,hp];have p56:=aq0 w p V;refine tc (Y5 w p) p56 (λh4=>?_) (λh4=>?_)
  .repeat' (first|refine oN (enc:=K6) p ?_|refine Ew (ys:=[p]) (h2:=?_)|refine gx ?_|fail)
   exact kk ⟨_,_,B2 (j4 rfl) (j4 rfl),i+1,by rw [e1,h4];rfl,rfl,V⟩
  .refine gr ?_
   exact kk ⟨_,_,B2 (j4 rfl) (j4 rfl),i+1,by rw [e1,h4];simp;rfl,rfl,V⟩
 .have h3:=B8 h2
  obtain rfl:i=O l:=V
  rw [I8];have SX:=al8 (H0:=[.cells (c.enc.map .d)]) (.inl ⟨_,rfl⟩) (by simp [D3,iV]) (jM c) (l.filter (Y5 w)) V (p7 (List.length_filter_le _ _) V);have p63:=λq=>al9 [.cells (c.enc.map .d)] (we (jM c) (l.filter (Y5 w))) hn q
  have hb:D3 ([.cells (c.enc.map .d)]++[.map (fP (we (jM c) (l.filter (Y5 w))))])<=2:=by rw [JU];simp [D3,iV]
  repeat' (first|refine iX p47 ?_|refine cp SX (Nat.le_add_right _ _) ?_|refine c1 (p63 _) rfl ?_ (cQ:=hb) (hcl:=G9 hb)|refine gx ?_|fail)
  exact ⟨_,rfl,rfl⟩
end Go.Proofs.YtibjocmpkoepoaaGreat
namespace Go.Proofs.YtibjocmpkoepoaaGreat
open Go.y9 Go.y9.S
theorem oP {ps:List D7}{to:D7}{d:Bool}{f:J8}(h:f∈tV ps to d):f.src∈ps/\f.dst=to/\f.dat=d:=by
 obtain ⟨p,hp,rfl⟩:=List.mem_map.1 h;simp_all
theorem CQ {s p:Int}{f:J8}:∀{k},f∈rD s p k->f.src.1=s/\f.dst.1=s/\f.dat=F
 |0,h=>by simp [rD] at h
 |k+1,h=>by
  rw [rD,A5] at h
  rcases h with h|h
  .exact CQ h
  .split at h
   .obtain ⟨h1,h2,h3⟩:=oP h
    simp_all
   .cases h
theorem CP {c:o9}{f:J8}:∀{k},f∈rB c k->f.src.1=f.dst.1/\f.dat=F/\0<=f.dst.1/\f.dst.1<k
 |0,h=>by simp [rB] at h
 |k+1,h=>by
  rw [rB,A5] at h
  rcases h with h|h
  .obtain ⟨a,b,d,e⟩:=CP h
   grind
  .split at h
   .obtain ⟨p,_,h⟩:=List.mem_flatMap.1 h
    grind [CQ]
   .cases h
theorem CR {s:Int}{L R:List D7}{f:J8}(h0:O L<=O R):∀{k},k<=O L->f∈qc s L R k->f.src∈L++R/\f.dst.1=s
 |0,_,h=>by simp [qc] at h
 |k+1,hk,h=>by
  rw [qc,A5,A5] at h
  rcases h with h|h|h
  .exact CR h0 V h
  .obtain ⟨h1,h2,_⟩:=oP h
   grind [List.mem_append_left,C5,List.mem_append_right]
  .obtain ⟨h1,h2,_⟩:=oP h
   grind [List.mem_append_left,C5,List.mem_append_right]
theorem CN {s:Int}{ds:List (List D7)}{cs:List D7}{f:J8}:∀{k},k<=O ds->f∈tH s ds cs k->(f.src∈ds.flatten\/f.src∈cs)/\f.dst.1=s
 |0,_,h=>by simp [tH] at h
 |k+1,hk,h=>by
  rw [tH,A5,A5] at h
  rcases h with h|h|h
  .exact CN V h
  .obtain ⟨h1,h2,_⟩:=oP h
   grind [List.mem_flatten,C5]
  grind [oP]
def vG {e:List R2}{ps:List D7}(h:xd e (O ps)){q:D7}(hq:q∈nA e ps):q∈ps:=by
 obtain ⟨x,hx,rfl⟩:=List.mem_map.1 hq;have:=h.col x hx;simp_all [C5]
theorem CM {v:Vw}{L R:List D7}(ok:zM v L R){q:D7}(hq:q∈(mq v (L++R) (O v.items)).flatten):q∈L++R:=by
 obtain ⟨d,hd,hq⟩:=List.mem_flatten.1 hq;obtain ⟨x,hx,rfl⟩:=List.mem_map.1 hd;rw [I8] at hx;obtain ⟨i,hi,rfl⟩:=E9 hx;rw [<- D6 hi] at hq;exact vG (ok.it i hi) hq
theorem Lx {v:Vw}{L R:List D7}(ok:zM v L R){q:D7}(hq:q∈(uK v (L++R)).flatten):q∈L++R:=by
 rw [uK,List.flatten_append,A5] at hq
 rcases hq with hq|hq
 .exact CM ok hq
 .obtain ⟨d,hd,hq⟩:=List.mem_flatten.1 hq
  obtain ⟨x,hx,rfl⟩:=List.mem_map.1 hd;rw [I8] at hx;obtain ⟨i,hi,rfl⟩:=E9 hx;rw [<- D6 hi] at hq;exact vG (ok.ag i hi) hq
theorem Lw {v:Vw}{L R:List D7}(ok:zM v L R){q:D7}(hq:q∈EJ v L R):q∈L++R:=by
 unfold EJ at hq;simp only [A5] at hq
 rcases hq with (((hq|hq)|hq)|hq)|hq
 .exact vG ok.wh hq
 .rw [L1] at hq
  rw [hq];exact List.mem_append_left _ (C5 ok.l0)
 .split at hq
  next h=>
   have:=A7 h;simp_all [List.mem_append_right,C5]
  .cases hq
 .obtain ⟨p,hp,hq⟩:=List.mem_flatMap.1 hq
  rw [I8] at hp;obtain ⟨i,hi,rfl⟩:=E9 hp;have h:=ok.on i hi;rw [D6 hi] at h
  grind [List.mem_append_left,C5,List.mem_append_right]
 grind [CM]
def II {s:Int}{v:Vw}{L R:List D7}(ok:zM v L R){f:J8}(h:f∈jJ s v L R):f.src∈L++R/\f.dst.1=s:=by
 unfold jJ at h;split at h
 next h2=>
  exact CR (ok.un h2) (j9 _) h
 .obtain ⟨h1,h2⟩:=CN (j9 _) h
  grind [Lx,Lw]
theorem CS {c:o9}{L R:Nat->List D7}{f:J8}:∀{k},f∈rF c L R k↔∃i,i<k/\f∈jJ ((O c.j7:Int)+(i:Int)) (Y c.views i) (L i) (R i)
 |0=>by simp [rF]
 |k+1=>by
  rw [rF,A5,CS (k:=k)]
  grind
theorem AD {s:Int}{p:D7}:∀{n},p∈OW s n->p.1=s/\0<=p.2/\p.2<n
 |0,h=>by simp [OW] at h
 |n+1,h=>by
  rw [OW,A5] at h
  rcases h with h|h
  .obtain ⟨a,b,d⟩:=AD h
   omega
  grind
def NK {c:o9}(hv:D0 c=W){f:J8}(h:f∈jM c) :
  (f.src.1=f.dst.1/\f.dat=F/\0<=f.dst.1/\f.dst.1<O c.j7)\/((O c.j7:Int)<=f.dst.1/\0<=f.src.1/\f.src.1<f.dst.1):=by
 have h:=Kr h
 rcases A5.1 h with h|h
 .grind [CP]
 .obtain ⟨i,hi,h⟩:=CS.1 h
  obtain ⟨ok,⟨_,l2,l3⟩,hr,_,_⟩:=MW hv hi;obtain ⟨h1,h2⟩:=II ok h
  rcases A5.1 h1 with h1|h1
  .have:=AD h1
   omega
  .unfold Bo at h1
   split at h1
   .cases h1
   .have:=AD h1
    grind
end Go.Proofs.YtibjocmpkoepoaaGreat


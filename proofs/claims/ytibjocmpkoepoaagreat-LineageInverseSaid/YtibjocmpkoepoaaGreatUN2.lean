import Derived.Test.YtibjocmpkoepoaaGreatUN0
import Derived.Test.YtibjocmpkoepoaaGreatUT2
set_option linter.all false
open Bool renaming and_eq_true → c7, false_eq_true → j3, not_eq_true' → n5, or_eq_false_iff → F3
open List renaming cons_append → A5, length_append → o8, length_cons → p7, length_map → B0, length_nil → A3, map_cons → F4, mem_append → M4, mem_append_left → E0, mem_append_right → E7, mem_cons → B4, mem_map → F5, mem_singleton → q6, nil_append → D8, set_cons_succ → q7, set_cons_zero → q8, take_of_length_le → B5
open Nat renaming le_of_ble_eq_true → j5, le_refl → o5, le_trans → B6, lt_or_ge → y4, zero_le → I7
namespace Go.Proofs.YtibjocmpkoepoaaGreat
open Go.x9 Go.x9.S
attribute [local irreducible] Rx Ry Rn Ex Pf
mutual
theorem JL {ty:List Int}:∀ a:aH,a.wf->s8 (a.typ ty).2 0=true->∀ t,t ∈ a.flat->s8 t.op 2=true->0<=t.col/\t.col<ty.length
 | .node t l,hw,h,t',ht',h2=>by
  obtain ⟨hok,har,Ia⟩:=hw;simp [aH.typ] at h;split at h
  .rename_i h1
   simp [aH.flat,B4] at ht'
   rcases ht' with rfl|ht'
   .have e1:s8 t'.op 1=false:=by simp_all [o6]
    simp [Bq,e1,h2,if_true,j3,if_false] at h;split at h
    all_goals simp_all [o6,Ac,Bool.not_eq_true,yu,cS,if_true,j3,if_false,c7,qD]
   .exact DW l Ia h1 t' ht' h2
  simp_all
theorem DW {ty:List Int}:∀ l:List aH,Xw l->s8 (gv ty l).2 0=true->∀ t,t ∈ M3 l->s8 t.op 2=true->0<=t.col/\t.col<ty.length
 |[],_,_,t,h,_=>by simp [M3] at h
 |a::l,hw,h,t,ht,h2=>by
  simp [gv] at h;split at h
  .rename_i h1
   simp [M3,M4] at ht
   rcases ht with ht|ht
   .exact JL a hw.1 h1 t ht h2
   .exact DW l hw.2 h t ht h2
  simp_all
end
theorem NA {e:List Y6}{ty:List Int}(h:s8 (G7 e ty).2 0=true):Cf e ty.length:=by
 unfold G7 at h;split at h
 .simp [o6] at h
 .rename_i a ha
  split at h
  .obtain ⟨e1,e2,e3⟩:=xx ha
   have hb:Z6 e=true:=by grind [fJ]
   refine ⟨?_,.inl hb,fun x hx=> ?_⟩
   .grind [Z6,s9]
   .obtain ⟨t,ht,h1,rfl⟩:=Rb hx
    rw [e1] at ht;exact JL a e2 h t ht h1
  grind [o6]
theorem zK (n:Nat):Cf [] n:=⟨by simp,.inr rfl,fun x hx=>by simp_all [CM]⟩
theorem Ho {ty:List Int}:∀ (l:List yP) (seen:List L3),V7 ty seen l=0->∀ e,e ∈ l->Cf e.expr ty.length
 |[],_,_,e,he=>by cases he
 |a::l,seen,h,e,he=>by
  have ih:=Ho (ty:=ty) l (seen++[a.name]);unfold V7 at h;split at h
  .omega
  .split at h
   .omega
   .split at h
    .omega
    .split at h
     .rcases B4.1 he with rfl|he
      all_goals simp_all [c7,Bool.true_and,Bool.or_eq_true,not_or,y3,decide_eq_true_eq,List.length_eq_zero_iff,zK]
     grind [o6,NA]
theorem IQ {l r:List Int}:∀ (on:List (Int×Int)),I4 l r on=0->∀ i,i<on.length->0<=(nth on i).1/\(nth on i).1<l.length/\0<=(nth on i).2/\(nth on i).2<r.length
 |[],_,i,hi=>by simp at hi
 |p::ps,h,i,hi=>by
  unfold I4 at h;split at h
  .omega
  .rename_i h1
   split at h
   .omega
   .simp [y7,s9] at h1
    cases i with
    |zero =>
     grind [I9]
    |succ i =>
     have h2:i<ps.length:=by simp_all
     have:=IQ ps h i h2;simp_all [I9]
theorem Fl {c:y5}(hv:K1 c=true){s:L3}{k:Nat}(h:0<=J1 c s k):aR c s=J1 c s k/\aS c (aR c s)=true:=by
 have e1:aR c s=zS c s:=(ai9 c s).symm;have hl:=jX c;have e2:zS c s=J1 c s k:=by
  unfold zS
  grind [J1,B5,Dd]
 grind [M7,aS,s9,y3]
def plN (c:y5)(s:L3):List G8:=Se (aR c s) (P4 c (aR c s).toNat).length
def Ih (c:y5)(i:Nat):List G8:=plN c (nth c.views i).left
def FR (c:y5)(i:Nat):List G8:=if M0 (nth c.views i).right [] then [] else plN c (nth c.views i).right
def xO (c:y5):List C5:=vP c c.k9.length++vS c (Ih c) (FR c) c.views.length
def cH (c:y5):List C5:=dR (bY (xO c)) (xO c).length
def Od (c:y5)(s:L3):(plN c s).length=(P4 c (aR c s).toNat).length:=tw _ _
def SM {v:Vw}{L R:List G8}(h:EL v L R):(Hq v L R).length<=600:=by
 have h1:=nW v.wh (L++R);have h2:=h.wh.len;have h3:=FG v L R v.on.length;have h4:=h.on8;have h5:=h.p8;have h6:=rD (D:=nI v (L++R) v.items.length) (fun d hd=>zx h.it h.ag d (E0 _ hd))
 grind [nI,Hq,o8,p7,A3]
def DY {v:Vw}{L R:List G8}(h:EL v L R)(s:Int):(jK s v L R).length<=6000:=by
 unfold jK;split
 .have:=By s L R L.length
  have:=h.l8;omega
 .have h1:=SM h
  have h2:(xQ v (L++R)).length<=8:=by have:=h.p8;grind [xQ,nI,Hr]
  have h3:=AE s (xQ v (L++R)) (Hq v L R) (fun i hi=>zx h.it h.ag _ (O7 hi)) _ (o5 _);have h4:(xQ v (L++R)).length * (64+(Hq v L R).length)<=8 * 664:=Nat.mul_le_mul h2 (by omega);omega
structure aS4 (c:y5)(i:Nat):Prop where
 ok:EL (nth c.views i) (Ih c i) (FR c i)
 lf:aS c (aR c (nth c.views i).left)=true/\0<=aR c (nth c.views i).left/\aR c (nth c.views i).left<c.k9.length+i
 rt:M0 (nth c.views i).right []=false->aS c (aR c (nth c.views i).right)=true/\0<=aR c (nth c.views i).right/\aR c (nth c.views i).right<c.k9.length+i
 nu:s8 (nth c.views i).kind 2=false->(P4 c (c.k9.length+i)).length=(nth c.views i).items.length+(nth c.views i).D4.length
 un:s8 (nth c.views i).kind 2=true->(P4 c (c.k9.length+i)).length=(Ih c i).length
def DZ {c:y5}(hv:K1 c=true){i:Nat}(hi:i<c.views.length):aS4 c i:=by
 obtain ⟨h1,_,h3⟩:=BB hv;have eV:y5.ns c=c.k9.length+c.views.length:=rfl;have hnl:=bg c;have wN:=iJ (h1 (c.k9.length+i) (by omega)) (by omega) (by omega);obtain ⟨k,hk⟩:∃ k,c.k9.length+i=k:=⟨_,rfl⟩;have ev:X0 c k=nth c.views i:=by grind [X0,Nat.add_sub_cancel_left]
 have hg:∀ q,q<k->1<=(P4 c q).length/\(P4 c q).length<=8:=fun q hq=>by
  grind [bT]
 rw [hk] at wN;unfold V9 lT rT at wN;rw [ev] at wN;obtain ⟨v,hvd⟩:∃ v,nth c.views i=v:=⟨_,rfl⟩;rw [hvd] at wN ev;split at wN
 .omega
 .split at wN
  .omega
  .rename_i hl
   split at wN
   .omega
   .rename_i hsh
    simp only [Bool.not_eq_true,F3] at hl;have f1:=B8 hl.1;have f2:M0 v.right []=false->0<=J1 c v.right k:=fun h=>by
     simp_all [Bool.not_false,Bool.true_and,B8]
    have b1:=M7 c v.left k;have b2:=M7 c v.right k;obtain ⟨g1,g2⟩:=Fl hv f1;have hlf:aS c (aR c v.left)=true/\0<=aR c v.left/\aR c v.left<(c.k9.length:Int)+i:=⟨g2,by omega,by omega⟩;have hrt:M0 v.right []=false->aS c (aR c v.right)=true/\0<=aR c v.right/\aR c v.right<(c.k9.length:Int)+i:=fun h=>by
     grind [Fl]
    have el:Ih c i=plN c v.left:=by simp_all [Ih]
    have er:FR c i=if M0 v.right [] then [] else plN c v.right:=by simp_all [FR]
    have ll:(Ih c i).length=(P4 c (J1 c v.left k).toNat).length:=by rw [el,Od,g1]
    have lr:M0 v.right []=false->(FR c i).length=(P4 c (J1 c v.right k).toNat).length:=fun h=>by
     rw [er,h,if_neg (by simp),Od,(Fl hv (f2 h)).1]
    have lr0:M0 v.right []=true->FR c i=[]:=fun h=>by simp_all
    have l1:=hg (J1 c v.left k).toNat (by omega);have r1:(FR c i).length<=8:=by
     grind
    have eL:nth (mH c k) (J1 c v.left k).toNat=P4 c (J1 c v.left k).toNat:=V2 c (by omega);have eR:(if M0 v.right [] then [] else nth (mH c k) (J1 c v.right k).toNat).length=(FR c i).length:=by
     cases h:M0 v.right [] with
     |true=>simp_all
     |false =>
      have:=f2 h;rw [lr h,if_neg (by simp),V2 c (by omega)]
    have hin:(ins c k).length=(Ih c i++FR c i).length:=by
     unfold ins Aa;rw [show nth c.views (k - c.k9.length)=v from ev,o8,eL,eR,o8,ll]
    have ect:P4 c k=if s8 v.kind 2 then nth (mH c k) (J1 c v.left k).toNat else W9 v (ins c k):=by
     grind [P4,gq,ins,nth]
    rw [<- hvd] at hlf hrt;rw [<- ll] at l1;have ht0:((nth (mH c k) (J1 c v.left k).toNat).length:Nat)=(Ih c i).length:=by rw [eL,ll]
    obtain ⟨RT,hRT⟩:∃ RT,(if M0 v.right [] then [] else nth (mH c k) (J1 c v.right k).toNat)=RT:=⟨_,rfl⟩;rw [hRT] at wN eR
    by_cases h2:s8 v.kind 2=true
    .rw [if_pos h2] at wN
     have Yq:bH v=true:=by simp_all
     unfold bH at Yq;rw [if_pos h2] at Yq;simp only [c7,n5,o6,decide_eq_true_eq,beq_iff_eq] at Yq;have hon:v.on.length=0:=by omega
     have hit:v.items.length=0:=by omega
     have hag:v.D4.length=0:=by omega
     have wM:(Ih c i).length=(FR c i).length:=by
      rw [<- ht0,<- eR];refine Decidable.byContradiction fun hne=> ?_
      simp_all [pZ]
     refine ⟨?_,hlf,hrt,?_,?_⟩
     .rw [hvd]
      refine ⟨by omega,l1.2,r1,by omega,by omega,fun j hj=>by omega,?_,fun j hj=>by omega,fun j hj=>by omega,fun _=>by omega⟩;simp_all [zK]
     all_goals simp_all
    .rw [if_neg h2] at wN
     have h2f:s8 v.kind 2=false:=by simp_all
     have Yq:bH v=true:=by simp_all
     have hR:jW v=true:=by
      grind [bH]
     unfold jW at hR;simp only [c7,s9,decide_eq_true_eq] at hR;obtain ⟨⟨_,ho8⟩,hc8⟩:=hR;split at wN
     .simp_all [o6]
     .rename_i h3
      have h3:I4 (nth (mH c k) (J1 c v.left k).toNat) RT v.on=0:=by simp_all [o6]
      have hpo:=IQ v.on h3;split at wN
      .simp_all
      .rename_i h4
       split at wN
       .omega
       .have hce:=Ho (Z3 v) [] wN
        rw [hin] at hce;have hwh:Cf v.wh (Ih c i++FR c i).length:=by
         rcases Nat.eq_zero_or_pos v.wh.length with h0|h0
         all_goals grind [List.length_eq_zero_iff,zK,NA,e0,F0,y3]
        refine ⟨?_,hlf,hrt,?_,?_⟩
        .rw [hvd]
         refine ⟨by omega,l1.2,r1,by omega,by omega,fun j hj=> ?_,hwh,fun j hj=> ?_,fun j hj=> ?_,fun h=>absurd h h2⟩
         .simp_all
         .have:=hce ⟨false,(nth v.items j).name, -1,(nth v.items j).expr⟩ (E0 _ (F5.2 ⟨_,O7 hj,rfl⟩))
          exact this
         .have:=hce ⟨true,(nth v.D4 j).name,(nth v.D4 j).func,(nth v.D4 j).expr⟩ (E7 _ (F5.2 ⟨_,O7 hj,rfl⟩))
          exact this
        all_goals simp_all [if_neg,W9,absurd]
def LI (c:y5)(hv:K1 c=true){i:Nat}(hi:i<c.k9.length):(nth c.k9 i).p8.length<=8/\1<=(nth c.k9 i).p8.length:=by
 have h:=bT hv (i+1) i (by omega) (by grind [y5.ns]);simp_all [P4,nth,gq,if_pos,B0]
def at1 {c:y5}(hs:O4 c)(hv:K1 c=true){i:Nat}(hi:i<c.views.length):ZX c i (Ih c i) (FR c i):=by
 obtain ⟨ok,⟨l1,l2,l3⟩,hr,_,_⟩:=DZ hv hi;have eV:y5.ns c=c.k9.length+c.views.length:=rfl;refine ⟨ok,?_,fun h=> ?_,fun h=> ?_,DY ok⟩
 .have:=bT hv ((aR c (nth c.views i).left).toNat+1) (aR c (nth c.views i).left).toNat (by omega) (by omega)
  exact ae2 c hs _ l1 (by omega)
 .obtain ⟨r1,r2,r3⟩:=hr h
  have:=bT hv ((aR c (nth c.views i).right).toNat+1) (aR c (nth c.views i).right).toNat (by omega) (by omega);have e:FR c i=plN c (nth c.views i).right:=by simp_all [FR,if_neg]
  rw [e];exact ae2 c hs _ r1 (by omega)
 simp_all [FR,if_pos]
def sQ (l:List C5):x9.Data:=z8 C5.enc l
def Ob (c:y5)(hs:O4 c)(hv:K1 c=true)(ht:c.k9.length<=8)(hw:c.views.length<=8):Pf A 47 [cat c] (.d (sQ (cH c))) :=
 bj8 c hs hv ht (fun _ hi=>(LI c hv hi).1) hw (Ih c) (FR c) fun _ hi=>at1 hs hv hi
end Go.Proofs.YtibjocmpkoepoaaGreat
namespace Go.x9.S
def adT {A:Prog}{l:F2}{b:Nat}{dr:Bool}{j9 ops:List p6}{T:List c8}{H:o9}{n:Nat}{rl:List c8}{o7:List Touch}{Q:List c8->o9->List c8->Prop}{x y:y6}{c d:Int}{u:List Nat}{s:Nat}{T2:List c8}
  (hx:rq T n rl x= .d (.int .i64 c):=by rfl) (hy:rq T n rl y= .d (.int .i64 d):=by rfl) (h0: -9223372036854775808<=c+d/\c+d<9223372036854775808:=by omega) (hs:T[s]?.isSome=true:=by rfl) (hT:T.set s (.d (.int .i64 (c+d)))=T2:=by simp only [q8,q7]<;>rfl)
  (h2:Ry A l b dr j9 ops T2 H (n+1) (.d (.int .i64 (c+d))::rl) (.slot s::o7) Q):Ry A l b dr j9 (⟨.bin .add x y,some s,none,u⟩::ops) T H n rl o7 Q :=
 Ry.vv (v:= .d (.int .i64 (c+d))) (rs:=[]) rfl (by simp only [n9,hx,hy,EN (Or.inl ⟨rfl,rfl⟩) h0.1 h0.2]) rfl rfl hs (by rw [hT];exact h2)
end Go.x9.S
namespace Go.Proofs.YtibjocmpkoepoaaGreat
open Go.x9 Go.x9.S
attribute [local irreducible] Rx Ry Rn Ex Pf
def JT (c:y5):Nat->List Int
 |0=>[]
 |n+1=>JT c n++[((P4 c n).length:Int)]
theorem jb (c:y5):∀ n,(JT c n).length=n
 |0=>rfl
 |n+1=>by simp [JT,jb c n]
theorem JU (c:y5):∀ {n i},i<n->nth (JT c n) i=((P4 c i).length:Int)
 |n+1,i,h=>by
  have hl:=jb c n
  rcases y4 i n with h1|h1
  .rw [<- JU c h1,JT,I9 (by simp;omega),I9 (by omega),List.getElem_append_left (by omega)]
  .obtain rfl:i=n:=by omega
   rw [JT,I9 (by simp [hl]),List.getElem_append_right (by omega)];simp
def gW (c:y5):List Int:=JT c (y5.ns c)
def ap2 (c:y5)(hs:O4 c)(hv:K1 c=true):Pf A 57 [cat c] (.d (ints (gW c))):=by
 have eV:y5.ns c=c.k9.length+c.views.length:=rfl;obtain ⟨f0,f1,_⟩:=id hs.sm.qy;have e:ints (gW c)=z8 (fun n=>[num n]) (gW c):=by simp [ints,z8,List.flatMap_singleton']
 rw [e];refine Pf.run [cat c,.any,.any,.any,.any,.any,.any] rfl rfl rfl rfl ?_
 repeat' (first|refine adT (h2:= ?_)|refine gx ?_|fail)
 refine Ex.M5 (fun k T H=>∃ (i:Nat) (w0 w2 w4:c8),T=[w0,.ptr 0 0,w2,C4 1 (fun n=>[num n]) (JT c i),w4,.d (num (c.k9.length+c.views.length)),.d (num i)]/\H=[.cells (c.enc.map .d)]/\i+k=y5.ns c) (by rintro _ _ _ ⟨_,_,_,_,rfl,rfl,_⟩;rfl) ?_ (k:=y5.ns c) ⟨0,_,_,_,rfl,rfl,by simp⟩;rintro k _ _ ⟨i,w0,w2,w4,rfl,rfl,hk⟩;have Ia:=jb c i;refine Ex.nT ?_;refine Ex.seq ?_;refine tb (F0 i ((c.k9.length:Int)+c.views.length)) (fun h2=> ?_) (fun h2=> ?_)
 .have h3:=A9 h2
  have hi:aS c (i:Int)=true:=by
   unfold aS;rw [hv];simp [s9,y3];omega
  have p1:=ae3 c hs (i:Int) hi;rw [Int.toNat_natCast] at p1
  repeat' (first|refine cl (p1) ?_|refine ap1 (enc:=fun n=>[num n]) (a:=((P4 c i).length:Int)) (h2:= ?_)|refine gx ?_|fail)
  exact ⟨k - 1,by omega,i+1,_,_,_,rfl,rfl,by omega⟩
 .have h3:=B8 h2
  obtain rfl:i=y5.ns c:=by omega
  refine gr ?_;exact ⟨_,rfl,rfl⟩
def jm (w:List Int)(p:G8):Bool:=ah 0 p.1&&(F0 p.1 w.length&&(ah 0 p.2&&F0 p.2 (nth w p.1.toNat)))
def ap0 (w:List Int)(p:G8)(hw:w.length<=1000000):Pf A 56 [.d (ints w),yx p] (.d (.bool (jm w p))):=by
 refine Pf.run [.d (ints w),yx p,.any,.any] rfl rfl rfl rfl ?_;unfold yx
 repeat' (first|refine gx ?_|refine fk (h1:=fun hw=> ?_) (h2:=fun hw=> ?_)|refine R8 (h1:=fun hw=> ?_) (h2:=fun hw=> ?_)|refine Ex.O6 ?_|refine Ex.P0 ?_|refine Ex.cond rfl (fun ht=> ?_) (fun ht=> ?_)|refine Ex.test (Rn.text ?_)|refine Ex.test (Rn.draw ?_)|refine ⟨_,rfl,fun ht=> ?_,fun ht=> ?_⟩|refine ⟨_,rfl,?_⟩|fail)
 all_goals simp_all [j7,jm]
def Fz (p:G8):Key:= .st [.i .i64 p.1,.i .i64 p.2]
def Z9 (S:List G8):List (Key×c8):=S.map fun p=>(Fz p,.d (.bool true))
def FA (p q:G8):Data.aT (.st [.i,.i]) (Fz p) (Fz q)=some (decide (p=q)):=by
 obtain ⟨a,b⟩:=p;obtain ⟨c,d⟩:=q;have e:(decide ((a,b)=(c,d)))=(a==c&&(b==d&&true)):=by
  rw [Bool.eq_iff_iff];simp
 rw [e];rfl
theorem pQ (p:G8):∀ S,bB (.st [.i,.i]) (Fz p) (Z9 S)=some (if p ∈ S then some (.d (.bool true)) else none)
 |[]=>rfl
 |q::S=>by
  have ih:=pQ p S;simp only [Z9,F4,bB,FA] at ih ⊢
  by_cases h:p=q
  .simp [h]
  .simp only [h,decide_false,ih,B4,false_or]
def Af (p:G8)(S:List G8):((if p ∈ S then some (c8.d (.bool true)) else none).getD (.d (.bool false)))= .d (.bool (decide (p ∈ S))):=by
 by_cases h:p ∈ S<;>simp [h]
theorem Ag (p:G8):∀ S,de (.st [.i,.i]) (Fz p) (.d (.bool true)) (Z9 S)=some (Z9 (uz S p))
 |[]=>rfl
 |q::S=>by
  have ih:=Ag p S;simp only [Z9,F4,de,FA] at ih ⊢
  by_cases h:p=q
  .subst h
   simp [uz]
  .simp only [h,decide_false,ih]
   unfold uz
   by_cases h2:p ∈ S
   .simp [h2]
   .simp [h2,h]
def Dh (p:G8):Data.aT (.st [.i,.i]) (Fz p) (Fz p)=some true:=by rw [FA];simp
def ta (S:List G8):(u0.map (Z9 S)).K5=0:=by
 have:∀ S:List G8,A4 ((Z9 S).map (·.2))=0:=fun S=>by
  induction S with
  |nil=>rfl
  |cons q S ih=>simpa [Z9,A4,c8.K5] using ih
 exact this S
theorem CF (p:G8):∀ (l S:List G8),lK S (l++[p])=uz (lK S l) p
 |[],_=>rfl
 |q::l,S=>by rw [A5,lK,CF p l,lK]
theorem Dw (f:C5):∀ (fs:List C5) (S:List G8),pass S (fs++[f])=aB (pass S fs) f
 |[],_=>rfl
 |g::fs,S=>by rw [A5,pass,Dw f fs,pass]
def SH {fs:List C5}{S:List G8}{n:Nat}(h:eY fs S<n)(hp:(pass S fs).length=S.length):Lj fs n S=pass S fs:=by
 obtain ⟨n,rfl⟩:∃ m,n=m+1:=⟨n - 1,by omega⟩;rw [Lj,if_pos hp,((tr fs S).2 hp).1]
def SI {fs:List C5}{S:List G8}{n:Nat}(h:eY fs S<n)(hp:(pass S fs).length≠S.length):∃ m,n=m+1/\Lj fs n S=Lj fs m (pass S fs)/\eY fs (pass S fs)<m:=by
 obtain ⟨n,rfl⟩:∃ m,n=m+1:=⟨n - 1,by omega⟩;obtain ⟨f,hf,h1,h2⟩:=AG fs S hp;have:=tg (fun q hq=>ot fs hq) hf h1 h2;exact ⟨n,rfl,by rw [Lj,if_neg hp],by omega⟩
def RJ {S:List G8}{f:C5}(h:(decide (f.src ∈ S)&& !decide (f.dst ∈ S))=true):aB S f=uz S f.dst/\(uz S f.dst).length=S.length+1:=by
 simp at h;unfold aB uz;simp [h]
def JA {S:List G8}{f:C5}(h:(decide (f.src ∈ S)&& !decide (f.dst ∈ S))=false):aB S f=S:=by
 unfold aB;rw [if_neg];intro hc;simp [hc.1,hc.2] at h
set_option maxHeartbeats 16000000 in
def Ue {H0:o9}(hH:(∃ a,H0=[a])\/(∃ a b,H0=[a,b])\/(∃ a b d,H0=[a,b,d])\/(∃ a b d e,H0=[a,b,d,e])\/∃ a b d e f,H0=[a,b,d,e,f])(h0:L8 H0=0)(fs:List C5)(l:List G8)(uU:fs.length<=1000000)(hl:l.length<=1000000) :
  Pm A 61 [.d (z8 C5.enc fs),.d (W5 l)] H0 S8 (.map H0.length) (H0++[.map (Z9 (ov fs l))]):=by
 have key:Pq A 61 [.d (z8 C5.enc fs),.d (W5 l)] H0 S8 fun v H1=>v= .map H0.length/\H1=H0++[.map (Z9 (ov fs l))]:=by
  have hcl:∀ (T:List c8) (S:List G8) (r:o9) (mask:List Bool),A4 (U9 mask T)<=H0.length+1->clean mask 0 (H0.length+1) ⟨T,H0++[.map (Z9 S)]++r⟩=⟨U9 mask T,H0++[.map (Z9 S)]⟩:=by
   intro T S r mask hT;have e:(H0++[u0.map (Z9 S)]++r).take (H0.length+1)=H0++[.map (Z9 S)]:=by
    have:H0.length+1=(H0++[u0.map (Z9 S)]).length:=by simp
    rw [this,List.take_left]
   rw [L5 hT ?_,e];rw [e,List.drop_zero];have hb:∀ H:o9,L8 (H++[.map (Z9 S)])=L8 H:=fun H=>by
    induction H with
    |nil=>simp [L8,ta]
    |cons a H ih=>simp only [A5,L8,ih]
   rw [hb,h0];exact I7 _
  let n0:=H0.length
  let hp:List G8->o9:=fun S=>H0++[.map (Z9 S)]
  rcases hH with ⟨a,rfl⟩|⟨a,b,rfl⟩|⟨a,b,d,rfl⟩|⟨a,b,d,e,rfl⟩|⟨a,b,d,e,f,rfl⟩
  all_goals
   refine Pq.run (b:=_) [.d (z8 C5.enc fs),.d (W5 l),.any,.any,.any,.any,.any,.any,.any,.any,.any,.any,.any] rfl rfl rfl rfl rfl ?_
   repeat' (first|refine mkm (h2:= ?_)|refine gx ?_|fail)
   refine Ex.T7 (fun k T H=>∃ i:Nat,T=[.d (z8 C5.enc fs),.any,.any,.map n0,.any,.any,.any,.d (W5 l),.d (num l.length),.d (num i),.any,.any,.any]/\H=hp (lK [] (l.take i))/\i+k=l.length) ?_ (k:=l.length) ⟨0,rfl,rfl,by simp⟩;rintro k _ _ ⟨i,rfl,rfl,hk⟩;simp only [hp,n0,A5,D8,p7,A3,Nat.reduceAdd];refine Ex.seq ?_;refine tb (F0 i l.length) (fun h2=> ?_) (fun h2=> ?_)
   .have h3:=A9 h2
    have e1:lK [] (l.take (i+1))=uz (lK [] (l.take i)) (nth l i):=by rw [J3 (by omega),CF]
    repeat' (first|refine mp (Ag (nth l i) _) (Dh _) (h2:= ?_)|refine gx ?_|fail)
    exact ⟨k - 1,by omega,_,_,hcl _ _ _ _ (j5 rfl),i+1,rfl,by rw [e1];rfl,by omega⟩
   have h3:=B8 h2;obtain rfl:i=l.length:=by omega
   rw [List.take_length];refine gr ?_;refine Ex.T7 (fun k T H=>∃ (g:Bool) (S:List G8),T=[.d (z8 C5.enc fs),.any,.any,.map n0,.any,.d (.bool g),.any,.any,.any,.any,.any,.any,.any]/\H=hp S/\(g=false->ov fs l=S)/\(g=true->∃ n,ov fs l=Lj fs n S/\eY fs S<n/\n<=k)) ?_ (k:=fs.length+1) ⟨true,_,rfl,rfl,by simp,fun _=>⟨_,rfl,by have:=Aq fs (lK [] l);omega,o5 _⟩⟩;rintro k _ _ ⟨g,S,rfl,rfl,hg1,hg2⟩;simp only [hp,n0,A5,D8,p7,A3,Nat.reduceAdd];cases g with
   |false =>
    refine Ex.seq ?_;refine tb (false) (fun h2=> ?_) (fun h2=> ?_)
    .cases h2
    refine gr ?_;exact ⟨_,_,rfl,rfl,by rw [hg1 rfl]⟩
   |true =>
    obtain ⟨n,e2,e3,e4⟩:=hg2 rfl;refine Ex.seq ?_;refine tb (true) (fun h2=> ?_) (fun h2=> ?_)
    .refine gr ?_
     refine Ex.T7 (fun m T H=>∃ (j:Nat) (g:Bool),T=[.d (z8 C5.enc fs),.any,.any,.map n0,.any,.d (.bool g),.any,.any,.any,.any,.d (z8 C5.enc fs),.d (num fs.length),.d (num j)]/\H=hp (pass S (fs.take j))/\j+m=fs.length/\g=decide ((pass S (fs.take j)).length≠S.length)) ?_ (k:=fs.length) ⟨0,false,rfl,rfl,by simp,by simp [pass]⟩;rintro m _ _ ⟨j,g,rfl,rfl,hm,hg⟩;simp only [hp,n0,A5,D8,p7,A3,Nat.reduceAdd];refine Ex.seq ?_;refine tb (F0 j fs.length) (fun h3=> ?_) (fun h3=> ?_)
     .have h4:=A9 h3
      have e5:pass S (fs.take (j+1))=aB (pass S (fs.take j)) (nth fs j):=by rw [J3 (by omega),Dw]
      have e6:=(tr (fs.take j) S).1;refine gr ?_;obtain ⟨f,hf⟩:∃ f,nth fs j=f:=⟨_,rfl⟩;obtain ⟨R,hR⟩:∃ R,pass S (fs.take j)=R:=⟨_,rfl⟩;rw [hf,hR] at e5;rw [hR] at e6 hg;rw [hf,hR];refine tB (decide (f.src ∈ R)&& !decide (f.dst ∈ R)) ?_ (fun h5=> ?_) (fun h5=> ?_)
      .repeat' (first|refine lqo ?_|refine lk1 (pQ _ _) (Af _ _) ?_|refine gx ?_|refine fk (h1:=fun hw=> ?_) (h2:=fun hw=> ?_)|refine R8 (h1:=fun hw=> ?_) (h2:=fun hw=> ?_)|refine ⟨rfl,rfl,_,rfl,?_⟩|refine ⟨rfl,rfl⟩|fail)
       all_goals exact cc
      .obtain ⟨e7,e8⟩:=RJ h5
       repeat' (first|refine lqo ?_|refine mp (Ag f.dst _) (Dh _) (h2:= ?_)|refine gx ?_|fail)
       exact ⟨m - 1,by omega,_,_,hcl _ _ _ _ (j5 rfl),j+1,true,rfl,by rw [e5,e7];rfl,by omega,by rw [e5,e7];simp;omega⟩
      .refine gr ?_
       exact ⟨m - 1,by omega,_,_,hcl _ _ _ _ (j5 rfl),j+1,g,rfl,by rw [e5,JA h5];rfl,by omega,by rw [e5,JA h5];exact hg⟩
     .have h4:=B8 h3
      obtain rfl:j=fs.length:=by omega
      rw [List.take_length] at hg ⊢;refine gr ?_;refine ⟨k - 1,by omega,_,_,hcl _ _ _ _ (j5 rfl),g,pass S fs,rfl,rfl,fun h=> ?_,fun h=> ?_⟩
      .rw [e2,SH e3]
       simpa [h] using hg
      .obtain ⟨n',rfl,e7,e8⟩:=SI e3 (by simpa [h] using hg)
       exact ⟨n',by rw [e2,e7],e8,by omega⟩
    .cases h2
 obtain ⟨v,H1,⟨rfl,rfl⟩,h⟩:=key;exact h
end Go.Proofs.YtibjocmpkoepoaaGreat
namespace Go.Proofs.YtibjocmpkoepoaaGreat
open Go.x9 Go.x9.S
def Og {fs gs:List C5}{l:List G8}(h:∀ f ∈ fs,∃ g ∈ gs,g.src=f.src/\g.dst=f.dst){q:G8}(hr:mW fs l q):mW gs l q:=by
 induction hr with
 |base hp=>exact .base hp
 |step hf _ ih =>
  obtain ⟨g,hg,e1,e2⟩:=h _ hf;rw [<- e2];exact .step hg (e1 ▸ ih)
def Zb {fs gs:List C5}{l:List G8}(h:∀ f,f ∈ fs↔f ∈ gs)(q:G8):mW fs l q↔mW gs l q :=
 ⟨Og fun f hf=>⟨f,(h f).1 hf,rfl,rfl⟩,Og fun f hf=>⟨f,(h f).2 hf,rfl,rfl⟩⟩
def Zl {a b:C5}(h:xe a b=true):a.src=b.src/\a.dst=b.dst:=by
 unfold xe at h;simp only [Bool.and_true,c7,beq_iff_eq] at h;exact ⟨Prod.ext h.1.1 h.1.2,Prod.ext h.2.1 h.2.2⟩
theorem Hl {xs:List C5}{f:C5}:∀ k,k<=xs.length->f ∈ dR xs k->f ∈ xs
 |0,_,h=>by simp [dR] at h
 |k+1,hk,h=>by
  rw [dR,M4] at h
  rcases h with h|h
  .exact Hl k (by omega) h
  .split at h
   .cases h
   .rw [q6] at h
    rw [h];exact O7 (by omega)
theorem zu (xs:List C5):∀ k,∀ i,i<k->∃ g ∈ dR xs k,g.src=(nth xs i).src/\g.dst=(nth xs i).dst
 |0,i,h=>by omega
 |k+1,i,h=>by
  rcases y4 i k with h1|h1
  .obtain ⟨g,hg,e⟩:=zu xs k i h1
   exact ⟨g,by rw [dR];exact E0 _ hg,e⟩
  .obtain rfl:i=k:=by omega
   rw [dR];split
   .rename_i hc
    simp only [c7,decide_eq_true_eq] at hc;obtain ⟨e1,e2⟩:=Zl hc.2;obtain ⟨g,hg,e3,e4⟩:=zu xs i (i - 1) (by omega);exact ⟨g,E0 _ hg,e3.trans e1.symm,e4.trans e2.symm⟩
   .exact ⟨_,E7 _ (q6.2 rfl),rfl,rfl⟩
def SX {c:y5}{f:C5}(h:f ∈ cH c):f ∈ xO c:=by
 have:=Hl _ (Nat.le_of_eq (iX (xO c)).length_eq.symm) h;exact (iX _).mem_iff.1 this
def SR {c:y5}{f:C5}(h:f ∈ xO c):∃ g ∈ cH c,g.src=f.src/\g.dst=f.dst:=by
 have h1:=(iX (xO c)).mem_iff.2 h;obtain ⟨i,hi,e⟩:=List.getElem_of_mem h1;have h2:i<(xO c).length:=by rw [<- (iX (xO c)).length_eq];exact hi
 obtain ⟨g,hg,e1,e2⟩:=zu (bY (xO c)) (xO c).length i h2;rw [I9 hi,e] at e1 e2;exact ⟨g,hg,e1,e2⟩
def SU (c:y5):(cH c).length<=(xO c).length:=zv _ _
attribute [local irreducible] Rx Ry Rn Ex Pf
theorem wX:∀ l:List G8,cU l=l.flatMap W4
 |[]=>rfl
 |(a,b)::l=>by rw [cU,wX l];rfl
theorem wP:∀ S:List G8,rK (Z9 S)=some S
 |[]=>rfl
 |(a,b)::S=>by
  have ih:=wP S;simp only [Z9,Fz] at ih;simp only [Z9,F4,Fz,rK,ih]
def am6 (H0:o9)(S:List G8)(hS:S.length<=1000000)(l:F2):Pm A 63 [.map H0.length] (H0++[.map (Z9 S)]) l (C4 2 W4 (sortP S)) (H0++[.map (Z9 S)]):=by
 refine Pm.cw rfl ?_;have h:(H0++[u0.map (Z9 S)])[H0.length]? =some (.map (Z9 S)):=by simp
 simp only [yw,h,wP,hS,if_true,C4,ij,wX]
def yb (c:y5):(u0.cells (c.enc.map .d)).K5=0:=by simp [u0.K5,cV]
def yV (H0:o9)(S:List G8):L8 (H0++[.map (Z9 S)])=L8 H0:=by
 induction H0 with
 |nil=>simp [L8,ta]
 |cons a H ih=>simp only [A5,L8,ih]
def MU {fs:List C5}{S:List G8}{f:C5}(hf:f ∈ fs):(aB S f).length+eY fs (aB S f)<=S.length+eY fs S:=by
 by_cases hc:f.src ∈ S/\f.dst ∉ S
 .have e:aB S f=S++[f.dst]:=by unfold aB;rw [if_pos hc]
  have h:=tg (S:=S) (S' :=aB S f) (fun q hq=>DP hq) hf hc.2 (by rw [e];simp);have:(aB S f).length=S.length+1:=by rw [e];simp
  omega
 .have e:aB S f=S:=by unfold aB;rw [if_neg hc]
  rw [e];omega
theorem Dv {fs:List C5}:∀ (gs:List C5) (S:List G8),(∀ g ∈ gs,g ∈ fs)->(pass S gs).length+eY fs (pass S gs)<=S.length+eY fs S
 |[],_,_=>o5 _
 |g::gs,S,h=>B6 (Dv gs (aB S g) fun x hx=>h x (List.mem_cons_of_mem _ hx)) (MU (h g List.mem_cons_self))
theorem Hg {fs:List C5}:∀ (n:Nat) (S:List G8),(Lj fs n S).length<=S.length+eY fs S
 |0,S=>Nat.le_add_right _ _
 |n+1,S=>by
  unfold Lj;split
  .exact Nat.le_add_right _ _
  .exact B6 (Hg n _) (Dv fs S fun _ h=>h)
def ox (fs:List C5)(l:List G8):(ov fs l).length<=l.length+fs.length:=by
 have h1:=Hg (fs:=fs) (fs.length+1) (lK [] l);have h2:=GP l [];have h3:=Aq fs (lK [] l);unfold ov;simp at h2;omega
def lU {c:y5}(hv:K1 c=true)(ht:c.k9.length<=8)(hw:c.views.length<=8):(cH c).length<=100000:=by
 have h1:=SU c;have hT:∀ k,k<=c.k9.length->(vP c k).length<=64 * k:=fun k=>by
  induction k with
  |zero=>intro _;simp [vP]
  |succ k ih =>
   intro hk;have:=ih (by omega);rw [vP,o8];have h2:=(LI c hv (i:=k) (by omega)).1;have h3:=tv (nth c.k9 k).p8 (nth c.k9 k).p8.length;have h4:(tu c k).length<=8:=by unfold tu;rw [Int.toNat_natCast];omega
   have h5:=tR k (nth c.k9 k).p8.length (tu c k);have h6:(tu c k).length * (nth c.k9 k).p8.length<=8 * 8:=Nat.mul_le_mul h4 h2;split
   .omega
   .simp;omega
 have hV:∀ k,k<=c.views.length->(vS c (Ih c) (FR c) k).length<=6000 * k:=fun k=>by
  induction k with
  |zero=>intro _;simp [vS]
  |succ k ih =>
   intro hk;have:=ih (by omega);have h2:=DY (DZ hv (i:=k) (by omega)).ok ((c.k9.length:Int)+(k:Int));rw [vS,o8];omega
 have h2:=hT _ (o5 _);have h3:=hV _ (o5 _);unfold xO at h1;rw [o8] at h1;omega
set_option maxHeartbeats 4000000 in
def bj5 (c:y5)(hs:O4 c)(hv:K1 c=true)(ht:c.k9.length<=8)(hw:c.views.length<=8)(l:List G8)(hl:l.length<=500000) :
  Pf A 23 [cat c,.d (W5 l)] (C4 2 W4 (Ji (cH c) (l.filter (jm (gW c))))):=by
 have UE:=UH c hs;rw [hv] at UE;have p57:=ap2 c hs hv;have Ob:=Ob c hs hv ht hw;have Ia:(gW c).length<=16:=by unfold gW;rw [jb];have:y5.ns c=c.k9.length+c.views.length:=rfl;omega
 have hd:=lU hv ht hw;have hn:(ov (cH c) (l.filter (jm (gW c)))).length<=1000000:=B6 (ox _ _) (by have:=List.length_filter_le (jm (gW c)) l;omega);obtain ⟨w,hwe⟩:∃ w,gW c=w:=⟨_,rfl⟩;rw [hwe] at p57 Ia hn ⊢;refine Pf.run [cat c,.d (W5 l),.any,.any,.any,.any,.any,.any,.any,.any] rfl rfl rfl rfl ?_;refine gr ?_;refine tB (!true) ?_ (fun h1=> ?_) (fun h1=> ?_)
 .repeat' (first|refine cl (UE) ?_|refine gx ?_|refine fk (h1:=fun hw=> ?_) (h2:=fun hw=> ?_)|refine R8 (h1:=fun hw=> ?_) (h2:=fun hw=> ?_)|refine ⟨rfl,rfl,_,rfl,?_⟩|refine ⟨rfl,rfl⟩|fail)
  all_goals exact cc
 .cases h1
 repeat' (first|refine sG p57 ?_|refine gx ?_|fail)
 refine Ex.T7 (fun k T H=>∃ i:Nat,T=[.any,.any,.ptr 0 0,.any,C4 2 W4 ((l.take i).filter (jm w)),.d (ints w),.any,.d (W5 l),.d (num l.length),.d (num i)]/\H=[.cells (c.enc.map .d)]/\i+k=l.length) ?_ (k:=l.length) ⟨0,rfl,rfl,by simp⟩;rintro k _ _ ⟨i,rfl,rfl,hk⟩;refine Ex.seq ?_;refine tb (F0 i l.length) (fun h2=> ?_) (fun h2=> ?_)
 .have h3:=A9 h2
  have e1:(l.take (i+1)).filter (jm w)=(l.take i).filter (jm w)++(if jm w (nth l i) then [nth l i] else []):=by
   rw [J3 (by omega),List.filter_append]
   congr 1
   simp only [List.filter_cons,List.filter_nil]
  have e2:((l.take i).filter (jm w)).length<=500000:=B6 (List.length_filter_le _ _) (by simp;omega);obtain ⟨acc,hacc⟩:∃ acc,(l.take i).filter (jm w)=acc:=⟨_,rfl⟩;refine gr ?_;obtain ⟨p,hp⟩:∃ p,nth l i=p:=⟨_,rfl⟩;rw [hacc,hp] at e1;rw [hacc] at e2;rw [hacc,hp];have YQ:=ap0 w p (by omega);refine tB (jm w p) ?_ (fun h4=> ?_) (fun h4=> ?_)
  .repeat' (first|refine sG YQ ?_|refine gx ?_|refine fk (h1:=fun hw=> ?_) (h2:=fun hw=> ?_)|refine R8 (h1:=fun hw=> ?_) (h2:=fun hw=> ?_)|refine ⟨rfl,rfl,_,rfl,?_⟩|refine ⟨rfl,rfl⟩|fail)
   all_goals exact cc
  .repeat' (first|refine oN (enc:=W4) p ?_|refine ZY (ys:=[p]) (h2:= ?_)|refine gx ?_|fail)
   exact ⟨k - 1,by omega,_,_,L5 (j5 rfl) (j5 rfl),i+1,by rw [e1,h4];rfl,rfl,by omega⟩
  .refine gr ?_
   exact ⟨k - 1,by omega,_,_,L5 (j5 rfl) (j5 rfl),i+1,by rw [e1,h4];simp;rfl,rfl,by omega⟩
 .have h3:=B8 h2
  obtain rfl:i=l.length:=by omega
  rw [List.take_length];have Rj:=Ue (H0:=[.cells (c.enc.map .d)]) (.inl ⟨_,rfl⟩) (by simp [L8,yb]) (cH c) (l.filter (jm w)) (by omega) (B6 (List.length_filter_le _ _) (by omega));have p63:=fun q=>am6 [.cells (c.enc.map .d)] (ov (cH c) (l.filter (jm w))) hn q
  have hb:L8 ([.cells (c.enc.map .d)]++[.map (Z9 (ov (cH c) (l.filter (jm w))))])<=2:=by rw [yV];simp [L8,yb]
  repeat' (first|refine sG Ob ?_|refine cp Rj (Nat.le_add_right _ _) ?_|refine c1 (p63 _) rfl ?_ (pN:=hb) (hcl:=bS hb)|refine gx ?_|fail)
  exact ⟨_,rfl,rfl⟩
end Go.Proofs.YtibjocmpkoepoaaGreat


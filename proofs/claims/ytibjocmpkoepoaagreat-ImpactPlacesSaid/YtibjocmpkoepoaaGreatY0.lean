import Derived.Sort.Grow
import Derived.Deep.Draws
import Derived.Lib.SlicesCompact
import Derived.Shelf.GgSortFunc.RowK
import Derived.Test.YtibjocmpkoepoaaGreatAbs
import Derived.Test.YtibjocmpkoepoaaGreatShelf
import Derived.Sort.MapsRangeIn
import Derived.Maps.AppendAt
import Derived.Maps.RangeRun
import Derived.OwnWalkIn
import Derived.TacticsInMore
import Derived.RegionIn
import Derived.LoopNIn
import Derived.LoopIn
import Derived.Laws.OwnMore
import Derived.Lib.Walk
import Derived.Lib.SliceRun
import Derived.Lib.AppendZerosOnto
import Derived.RangeFuncNested
import Derived.RangeFuncBound
import Derived.RangeFuncCalls
import Derived.RangeFuncBox
import Derived.RangeFuncLeaves
import Derived.RangeFuncWrites
import Derived.Shelf.Abstract
set_option linter.all false
open Bool renaming and_eq_true→c8,true→W,false→F
open List renaming append_assoc→M3,cons_append→G9,drop_of_length_le→o7,getElem?_append_left→s8,getElem?_append_right→q9,getElem?_eq_getElem→n5,getElem?_set_ne→q8,getElem?_set_self→C7,length_append→s9,length_cons→q7,length_map→C5,length_nil→I8,length_take→P7,map_cons→M8,mem_cons→C4,nil_append→J7,pairwise_cons→N6,replicate→c9,length→O
open Nat renaming add_assoc→M9,le_of_ble_eq_true→l5,le_refl→o6,le_trans→A3,lt_or_ge→x9,zero_le→A4
open Option renaming map_some→C6,some→J,none→K
namespace Go.B3
open Go.Sort
def am3 {w w' :World}(h1:w'.os=w.os)(h2:w'.tape=w.tape)(h3:w'.output=w.output)(h4:w.heap.size<=w'.heap.size)(h5:∀b,b<w.heap.size->w'.heap[b]? =w.heap[b]?)(h6:w.drawn<=w'.drawn):∃q os,w' =grow (w.drewN q) os:=by
 refine ⟨w'.drawn - w.drawn,w'.heap.extract w.heap.size w'.heap.size,?_⟩;obtain ⟨hp,tp,dr,os,out⟩:=w';have e:w.heap++hp.extract w.heap.size hp.size=hp:=by
  grind
 simp_all [grow,World.drewN]
section
variable [E0]
def OS (hD:E0.on){P:Program}{A:Prog}(h:qg P A){n:Nat}{f:FuncId}{args:List c7}{H9:Array Value}{w:World}{v:c7}(hc:call A n f args [] Q9=J (v,[]))
  (hargs:J5 (G0 w) (λ_=>(0,0)) (λ_=>False) w args H9.toList):Calls P f H9 w λe w' =>∃(x:Value) (G' :Gh) (I' :T0) (N' :Nat->Prop),e= .returned x/\VR G' I' N' w' .ret v x/\∃q os,w' =grow (w.drewN q) os:=by
 have hpre:BB Q9 [] w (G0 w) (λ_=>(0,0)) (λ_=>False) args H9:=by
  refine ⟨hargs,?_,?_,?_,?_,o6 _,o6 _,?_,λ_ b n pl hb=>by grind [G0]⟩
  .intro id o ho;simp at ho
  .intro b hb;simp_all [G0,if_neg]
  .simp_all
  .intro id o ho;simp at ho
  grind [G0]
 refine Calls.mono ((ot h n).1 f args [] Q9 _ _ hc w _ _ _ H9 hpre (λ_=>rfl)) ?_;rintro e w' ⟨x,G',I',N',rfl,hp⟩;refine ⟨x,G',I',N',rfl,hp.val,am3 hp.ext.os hp.ext.tape hp.ext.output hp.ext.size (λb hb=>(hp.ext.still b (Or.inl ?_)).2) (hp.ext.drawn hD)⟩;simp_all [G0,if_pos]
end
end Go.B3
namespace Go.B3
open Go.Sort
structure WH (w w' :World)(blk off:Nat)(us:List Value):Prop where
 os:w'.os=w.os
 tape:w'.tape=w.tape
 output:w'.output=w.output
 size:w.heap.size<=w'.heap.size
 other:∀b:Nat,b<w.heap.size->b≠blk->w'.heap[b]? =w.heap[b]?
 here:∀(c:Array Value) (e:TypeId) (f:Nat×Nat),w.heap[blk]? =J (.cells c e f)->∃c' :Array Value,w'.heap[blk]? =J (.cells c' e f)/\c'.size=c.size /\
  (∀k:Nat,(k<off\/off+O us<=k)->c'[k]? =c[k]?)/\∀(j:Nat) (u:Value),off+j<c.size->us[j]? =J u->c'[off+j]? =J u
def kY {α:Type} [Inhabited α] (enc:α->Value)(w:World)(n blk off:Nat)(ys:List α)(os:Array Obj):WH w (grow (putRow enc (Sort.ahead w n) blk off ys.toArray) os) blk off (ys.map enc) where
 os:=rfl
 tape:=rfl
 output:=rfl
 size:=M
 other b hb hne:=by
  have:b<(w.heap.modify blk (onCells (putCells enc off ys.toArray))).size:=M
  show (w.heap.modify blk (onCells (putCells enc off ys.toArray))++os)[b]? =_
  grind
 here c e f hc:=by
  have hb:blk<w.heap.size:=by
   grind
  have:blk<(w.heap.modify blk (onCells (putCells enc off ys.toArray))).size:=M
  refine ⟨putCells enc off ys.toArray c,?_,by simp [putCells],λk hk=>?_,λj u hj hu=>?_⟩
  .show (w.heap.modify blk (onCells (putCells enc off ys.toArray))++os)[blk]? =_
   rw [Array.getElem?_append_left this,Array.getElem?_modify,if_pos rfl,hc];rfl
  .grind [putCells]
  .grind [putCells]
def Po (n:Int):c7:= .d (.int .i64 n)
theorem Fw:∀ys:List Int,C0 (ys.map Po)=0
 |[]=>rfl
 |y::ys=>by simp [M8,C0,Fw ys,Po];rfl
def OH (old:List c7)(lo:Nat)(az:List c7)(h:C0 az=0):C0 (splice old lo az)<=C0 old:=by
 grind [si,sg,splice,jc]
def xQ {l:H8}{H:n9}{w w' :World}{G:Gh}{I:T0}{N:Nat->Prop}{args:List c7}{H9:Array Value}(hp:BB l H w G I N args H9){id lo:Nat}{old az:List c7}{us:List Value}(Ka:O az=O us)(hab:C0 az=0)(hau:∀(j:Nat) (a:c7) (u:Value),az[j]? =J a->us[j]? =J u->∀G I N w p,VR G I N w p a u)
  (ho:H[id]? =J (.cells old)) (hlo:lo+O us<=O old) (hm:l.may id=W) (hr:WH w w' (I id).1 ((I id).2+lo) us) {v:c7} {x:Value} (hv:VR G I N w' .ret v x) :
  mW l H w G I N v (H.set id (.cells (splice old lo az))) x w' G I N:=by
 have hO:=hp.hr id _ ho;simp only [OR] at hO;obtain ⟨hN,c,e,f,h1,h2,h3,h4,h5⟩:=hO;obtain ⟨c',g1,g2,g3,g4⟩:=hr.here c e f h1;have hlt:∀b:Nat,G b≠ .free->b<w.heap.size:=λb hb=>by
  rcases x9 b w.heap.size with h|h
  .exact h
  .exact absurd (hp.wf b h) hb
 have Pg:Ext G w G w' :=by
  refine ⟨hr.os,hr.tape,hr.output,λh=>h.elim,hr.size,λb o hi=>⟨hi,?_⟩,λb hb=>⟨rfl,?_⟩,λb c0 e0 f0 hc0=>?_⟩
  .have hne:b≠(I id).1:=by grind [jS]
   have hb:G b≠ .free:=λh=>by simp_all [jS]
   simp only [World.cell?,hr.other b (hlt b hb) hne]
  .have hne:b≠(I id).1:=by grind
   exact hr.other b (hlt b (λh=>M)) hne
  .by_cases hne:b=(I id).1
   .simp_all
   .rw [hr.other b ?_ hne]
    all_goals grind
 have hkeep:∀q,bI q G w G w' :=λq b n hb=>⟨hb,hr.other b (hlt b (λh=>M)) (by grind)⟩
 have UX:∀(b i:Nat),i≠id->G b= .obj i->G b= .obj i/\w'.heap[b]? =w.heap[b]? :=λb i hi hb=>⟨hb,hr.other b (hlt b (λh=>M)) (by grind)⟩
 have an0:id<O H:=y9 ho;have sX:∀(i:Nat) (o' :B4),(H.set id (.cells (splice old lo az)))[i]? =J o' ->∃o:B4,H[i]? =J o/\o'.K9<=o.K9:=λi o' hi=>by
  by_cases he:i=id
  .subst he
   rw [C7 an0] at hi;cases hi;exact ⟨_,ho,OH old lo az hab⟩
  grind
 refine ⟨hv,?_,?_,Pg,λi hi=>⟨λb hb=>UX b i (by grind) hb,λoff=>hkeep _⟩,λ_ _ _=>rfl,λ_ h=>h,λ_ _ h=>h,λi hi=>by simpa using hp.bY i hi,λi o' _ hi=>Or.inr (sX i o' hi),λi o' hi=>?_⟩
 .intro i o hi
  by_cases he:i=id
  .subst he
   rw [C7 an0] at hi;cases hi;simp only [OR];refine ⟨hN,c',e,f,g1,h2,M,?_,λj a hj=>?_⟩
   .grind [splice,s9,P7,C5,List.length_drop]
   .rcases x9 j lo with hj1|hj1
    .have hj2:old[j]? =J a:=by
      rw [<- hj,splice,M3,s8 D,List.getElem?_take,if_pos hj1]
     obtain ⟨u,u1,u2⟩:=h5 j a hj2;exact ⟨u,by rw [g3 _ V];exact u1,VR.mono Pg (λ_ _=>rfl) (λ_ h=>h) _ _ _ (Or.inr (hkeep _)) u2⟩
    rcases x9 j (lo+O us) with hj2|hj2
    .have hj3:az[j - lo]? =J a:=by
      rw [<- hj,splice,s8 D,q9 D]
      congr 1
      simp;omega
     have hj4:j - lo<O us:=V
     refine ⟨us[j - lo],?_,hau _ _ _ hj3 (n5 hj4) _ _ _ _ _⟩;rw [show (I i).2+j=(I i).2+lo+(j - lo) by omega];exact g4 _ _ V (n5 hj4)
    .have hj3:old[j]? =J a:=by
      rw [<- hj,splice,q9 D,List.getElem?_drop]
      congr 1
      simp;omega
     obtain ⟨u,u1,u2⟩:=h5 j a hj3;exact ⟨u,by rw [g3 _ V];exact u1,VR.mono Pg (λ_ _=>rfl) (λ_ h=>h) _ _ _ (Or.inr (hkeep _)) u2⟩
  .rw [q8 (λe=>he e.symm)] at hi
   exact OR.mono Pg (λ_ _=>rfl) (λ_ h=>h) i o (λh=>UX _ i he h) (λoff=>hkeep _) (hp.hr i o hi)
 .intro b hb
  exact hp.wf b (A3 hr.size hb)
 .obtain ⟨o,h6,h7⟩:=sX i o' hi
  obtain ⟨h8,h9⟩:=hp.W9 i o h6;exact ⟨λh=>A3 h7 (h8 h),λh=>A3 h7 (h9 h)⟩
def Mg {l:H8}{H:n9}{w w' :World}{G:Gh}{I:T0}{N:Nat->Prop}{args:List c7}{H9:Array Value}(hp:BB l H w G I N args H9){id lo:Nat}{old:List c7}{ys:List Int}
  (ho:H[id]? =J (.cells old)) (hlo:lo+O ys<=O old) (hm:l.may id=W) (hr:WH w w' (I id).1 ((I id).2+lo) (ys.map (.int .i64))) {v:c7} {x:Value} (hv:VR G I N w' .ret v x) :
  mW l H w G I N v (H.set id (.cells (splice old lo (ys.map Po)))) x w' G I N :=
 xQ hp (us:=ys.map (.int .i64)) U (Fw ys) (λj a u ha hu G I N w p=>by
  rw [List.getElem?_map,Option.map_eq_some_iff] at ha hu;obtain ⟨y,hy,rfl⟩:=ha;obtain ⟨z,hz,rfl⟩:=hu;rw [hy] at hz;cases hz;simp [Po,VR,DR]) ho (by simpa using hlo) hm hr hv
theorem xI (x:Int):∀l:List Int,(xH x l).Perm (x::l)
 |[]=>List.Perm.refl _
 |y::l=>by
  simp [xH];split
  .rfl
  .exact ((xI x l).cons y).trans (List.Perm.swap x y l)
theorem uJ:∀l:List Int,(kZ l).Perm l
 |[]=>List.Perm.refl _
 |x::l=>(xI x _).trans ((uJ l).cons x)
theorem yV (x:Int):∀l:List Int,l.Pairwise (·<=·)->(xH x l).Pairwise (·<=·)
 |[],_=>by simp [xH]
 |y::l,h=>by
  simp [xH];rw [N6] at h;split
  .grind [N6,Int.le_trans]
  .refine N6.2 ⟨λz hz=>?_,yV x l h.2⟩
   grind [xI]
theorem vY:∀l:List Int,(kZ l).Pairwise (·<=·)
 |[]=>List.Pairwise.nil
 |x::l=>yV x _ (vY l)
def AH (l:List Int):(l.mergeSort λx y=>decide (x<=y))=kZ l:=by
 grind [List.Perm.eq_of_pairwise,Int.le_antisymm,vY,List.mergeSort_perm,trans,uJ,List.pairwise_mergeSort,decide]
theorem JF (l:List Int):O (kZ l)=O l:=(uJ l).length_eq
theorem FC (a b:Int):∀l:List Int,eZ (l++[a,b])=eZ (l++[a])++(if b=a then [] else [b])
 |[]=>by
  grind [eZ]
 |[x]=>by
  grind [eZ]
 |x::y::l=>by
  have ih:=FC a b (y::l)
  grind [eZ]
theorem nh (zs:List Int):∀m,m<=O zs->Lib.compactUpTo zs.toArray m=eZ (zs.take m)
 |0,_=>by rfl
 |1,h=>by
  obtain ⟨z,r,rfl⟩:∃z r,zs=z::r:=by
   cases zs with
   |nil=>simp at h
   |cons z r=>simp_all
  rfl
 |m+2,h=>by
  have ih:=nh zs (m+1) V;have e1:zs.take (m+1)=zs.take m++[zs[m]]:=M
  have e2:zs.take (m+2)=zs.take m++[zs[m],zs[m+1]]:=by
   grind [List.take_append_getElem,M3]
  rw [Lib.compactUpTo_succ,ih,e1,e2,FC];have g1:zs.toArray[m+1]! =zs[m+1]:=by
   grind
  have g2:zs.toArray[m+1 - 1]! =zs[m]:=by
   grind
  by_cases hk:zs[m+1]=zs[m]
  .rw [Lib.keeps_neg V V,if_pos hk]
   rfl
  .rw [Lib.keeps_pos V,if_neg hk,g1]
   rfl
def Iu (zs:List Int):Lib.compact zs=eZ zs:=by
 rw [Lib.compact,nh zs _ (o6 _),List.take_length]
theorem yN:∀l:List Int,O (eZ l)<=O l
 |[]=>by simp [eZ]
 |[x]=>by simp [eZ]
 |x::y::l=>by
  have:=yN (y::l)
  grind [eZ]
theorem oJ:∀{vs:List c7} {xs:List Int},sD vs=J xs->vs=xs.map Po
 |[],xs,h=>by simp_all [sD]
 |v::vs,xs,h=>by
  unfold sD at h;split at h
  .simp_all
  next n r heq=>
   cases heq;split at h
   next ys hy=>
    cases h;rw [oJ hy];rfl
   .cases h
  .cases h
theorem rd_some {H:n9}{id lo len:Nat}{vs:List c7}(h:rd H id lo len=J vs):∃old,H[id]? =J (.cells old)/\lo+len<=O old/\vs=(old.drop lo).take len:=by
 grind [rd]
def holds_of {G:Gh}{I:T0}{N:Nat->Prop}{w:World}{H:n9}(hr:HR G I N w H){id lo len:Nat}{old:List c7}{xs:List Int}(ho:H[id]? =J (.cells old))(hl:lo+len<=O old)(hx:(old.drop lo).take len=xs.map Po) :
  Holds (Value.int .i64) w (I id).1 ((I id).2+lo) xs.toArray/\(I id).1<w.heap.size/\O xs=len:=by
 have hO:=hr id _ ho;obtain ⟨hN,c,e,f,h1,h2,h3,h4,h5⟩:=hO;have hlen:O xs=len:=by
  have:=congrArg List.length hx
  grind
 refine ⟨λj hj=>?_,?_,hlen⟩
 .have hj' :j<O xs:=V
  have e1:old[lo+j]? =J (Po xs[j]):=by
   have:=congrArg (·[j]?) hx
   grind
  obtain ⟨v,g1,g2⟩:=h5 _ _ e1;subst g2;constructor
  .simp_all [ad,World.cell?,M9]
  .have hlt:(I id).2+lo+j<c.size:=by
    omega
   have:=h3 _ hlt;simp_all [World.frozen?]
 grind
def sQ {H:n9}{id lo:Nat}{old vs:List c7}{H1:n9}(ho:H[id]? =J (.cells old))(h:wr H id lo vs=J H1):H1=H.set id (.cells (splice old lo vs)):=by
 simp_all [wr]
def kA {l:H8}{H:n9}{w:World}{G:Gh}{I:T0}{N:Nat->Prop}{args:List c7}{H9:Array Value}(hp:BB l H w G I N args H9){v:c7}{x:Value}(hv:VR G I N w .ret v x):mW l H w G I N v H x w G I N :=
 ⟨hv,hp.hr,hp.wf,Ext.refl _ _,mX.refl _ _ _,λ_ _ _=>rfl,λ_ h=>h,λ_ _ h=>h,hp.bY,λ_ o' _ ho=>Or.inr ⟨o',ho,o6 _⟩,hp.W9⟩
def kF {G:Gh}{I:T0}{N:Nat->Prop}{w:World}{a:c7}{H9:Array Value}(h:J5 G I N w [a] H9.toList):∃x,H9= #[x]/\VR G I N w .none a x:=by
 grind [J5,Array.ext']
def VW {P:Program}{prom:FuncId->Bool}{f:FuncId}(hcan:U1 P f=W)
  (hS:∀(blk off cap:Nat) (zs:List Int) (w:World),Holds (Value.int .i64) w blk off zs.toArray->blk<w.heap.size->O zs<4611686018427387904->Calls P f #[.slice (J ⟨blk,off,K⟩) (O zs) cap] w λe w' =>
   e= .returned (.tuple #[])/\∃n os,w' =grow (putRow (Value.int .i64) (Sort.ahead w n) blk off (zs.mergeSort λx y=>decide (x<=y)).toArray) os)
  (hE:∀(p:Option Addr) (cap:Nat) (w:World),Calls P f #[.slice p 0 cap] w λe w' =>e= .returned (.tuple #[])/\w' =w):bu P prom f RO:=by
 refine ⟨hcan,λargs H l v H1 hrun w G I N H9 hp _=>?_⟩;unfold RO at hrun;split at hrun
 .split at hrun
  next hm=>
   simp only [c8] at hm;have hb:=l5 hm.2;split at hrun
   next vs hvs=>
    split at hrun
    next xs hxs=>
     split at hrun
     next H2 hw=>
      cases hrun;obtain ⟨old,ho,hl,rfl⟩:=rd_some hvs;have hx:=oJ hxs;obtain ⟨g1,g2,g3⟩:=holds_of hp.hr ho hl hx;have hH:=sQ ho hw;subst hH;obtain ⟨x,rfl,hv⟩:=kF hp.args;obtain ⟨_,cap,rfl,_⟩:=hv;subst g3;refine (hS _ _ cap xs w g1 g2 V).mono ?_;rintro e w' ⟨rfl,n,os,rfl⟩;rw [AH];exact ⟨_,G,I,N,rfl,Mg hp (ys:=kZ xs) ho (by grind [JF]) hm.1 (kY _ _ _ _ _ _ _) (by simp_all [VR,J5])⟩
     .cases hrun
    .cases hrun
   .cases hrun
  .cases hrun
 .cases hrun
  obtain ⟨x,rfl,hv⟩:=kF hp.args;simp [VR,DR] at hv;have key:∃p cap,x= .slice p 0 cap:=by
   grind
  obtain ⟨p,cap,rfl⟩:=key;refine (hE p cap w).mono ?_;rintro e w' ⟨rfl,rfl⟩;exact ⟨_,G,I,N,rfl,kA hp (by simp_all [VR,J5])⟩
 .cases hrun
def Iv {P:Program}{prom:FuncId->Bool}{f:FuncId}(hcan:U1 P f=W)
  (hS:∀(blk off cap:Nat) (zs:List Int) (w:World),Holds (Value.int .i64) w blk off zs.toArray->O zs<=9223372036854775807->O zs<=cap->Calls P f #[.slice (J ⟨blk,off,K⟩) (O zs) cap] w λe w' =>
   e= .returned (.slice (J ⟨blk,off,K⟩) (O (Lib.compact zs)) cap)/\∃q,w' =putRow (Value.int .i64) (Sort.ahead w q) blk off (Lib.compact zs++c9 (O zs - O (Lib.compact zs)) 0).toArray):bu P prom f vK:=by
 refine ⟨hcan,λargs H l v H1 hrun w G I N H9 hp _=>?_⟩;unfold vK at hrun;split at hrun
 next id lo len=>
  split at hrun
  next hm=>
   simp only [c8] at hm;have hb:=l5 hm.2;split at hrun
   next vs hvs=>
    split at hrun
    next xs hxs=>
     split at hrun
     next H2 hw=>
      cases hrun;obtain ⟨old,ho,hl,rfl⟩:=rd_some hvs;have hx:=oJ hxs;obtain ⟨g1,g2,g3⟩:=holds_of hp.hr ho hl hx;have hH:=sQ ho hw;subst hH;obtain ⟨x,rfl,hv⟩:=kF hp.args;obtain ⟨hN,cap,rfl,hcap,c,e0,f0,k1,k2⟩:=hv;subst g3;refine (hS _ _ cap xs w g1 V hcap).mono ?_;rintro e w' ⟨rfl,q,rfl⟩;rw [Iu];have hd:=yN xs;have hR:=kY (Value.int .i64) w q (I id).1 ((I id).2+lo) (eZ xs++c9 (O xs - O (eZ xs)) 0) #[];obtain ⟨c',u1,u2,_⟩:=hR.here c e0 f0 k1;refine ⟨_,G,I,N,rfl,Mg hp (ys:=eZ xs++c9 (O xs - O (eZ xs)) 0) ho D hm.1 hR ?_⟩;simp_all [VR]<;>omega
     .cases hrun
    .cases hrun
   .cases hrun
  .cases hrun
 .cases hrun
def UT {P:Program}{prom:FuncId->Bool}{f:FuncId}(hcan:U1 P f=W)
  (hR:∀w:World,Calls P f #[.slice K 0 0,.int .i64 0] w λe w' =>e= .returned (.slice K 0 0)/\w' =w)
  (hG:∀(n:Nat) (w:World),0<n->n<=1000000->Calls P f #[.slice K 0 0,.int .i64 n] w λe w' =>∃(cap:Nat) (c:Array Value) (t:TypeId),e= .returned (.slice (J ⟨w.heap.size,0,K⟩) 0 cap)/\w' =w.drew.alloc (.cells c t)/\c.size=cap):bu P prom f Gk:=by
 refine ⟨hcan,λargs H l v H1 hrun w G I N H9 hp _=>?_⟩;unfold Gk at hrun;split at hrun
 next n=>
  split at hrun
  .cases hrun
   obtain ⟨m,rfl⟩:∃m:Nat,n=m:=⟨n.toNat,V⟩;have ha:=hp.args;simp [J5,VR,DR] at ha;have hv:H9= #[.slice K 0 0,.int .i64 m]:=by
    grind
   subst hv
   rcases Nat.eq_zero_or_pos m with rfl|h0
   .refine (hR w).mono ?_
    rintro e w' ⟨rfl,rfl⟩;exact ⟨_,G,I,N,rfl,kA hp (by simp [VR])⟩
   .refine (hG m w h0 V).mono ?_
    rintro e w' ⟨cap,c,t,rfl,rfl,hc⟩;have hN:kE w (w.drew.alloc (.cells c t)) (.cells c t):=(kE.alloc w (.cells c t)).drew (w.drawn+1) (Nat.le_succ _);refine ⟨_,gR G w.heap.size (.grow 0 .ret),I,N,rfl,?_,hN.hr hp.wf _ (λ_ _=>rfl) (λ_ h=>h) hp.hr,hN.wf hp.wf _,hN.ext hp.wf _,hN.ew hp.wf _ _,λ_ _ _=>rfl,λ_ h=>h,λ_ _ h=>h,hp.bY,λ_ o' _ ho=>Or.inr ⟨o',ho,o6 _⟩,hp.W9⟩;exact ⟨rfl,Or.inr ⟨U,w.heap.size,0,cap,c,t,_,rfl,A4 _,hN.new,V,og _,U,by simp [gl]⟩⟩
  .cases hrun
 .cases hrun
def iF {α:Type} [Inhabited α] (enc:α->List Value)(k:Nat)(hk:∀x,O (enc x)=k)(l:List α):flatK enc k l.toArray=(l.flatMap enc).toArray:=by
 have hl:∀l:List α,O (l.flatMap enc)=O l * k:=λl=>by
  induction l with
  |nil=>simp
  |cons a l ih=>grind
 have key:∀(l:List α) (t:Nat),t<O l * k->(l.flatMap enc)[t]! =(enc l[t / k]!)[t % k]! :=λl=>by
  induction l with
  |nil=>simp_all
  |cons a l ih =>
   intro t h;rw [q7,Nat.add_mul,Nat.one_mul] at h;have k0:0<k:=by
    grind
   rcases x9 t k with h1|h1
   .simp_all [Nat.div_eq_of_lt,Nat.mod_eq_of_lt,List.getElem!_eq_getElem?_getD,s8]
   .obtain ⟨s,rfl⟩:∃s,t=s+k:=⟨t - k,V⟩
    simp_all [Nat.add_div_right,Nat.add_mod_right,List.getElem!_eq_getElem?_getD,q9,Nat.add_sub_cancel]
 refine ext_get! (by simp [hl]) λt ht=>?_
 have ht' :t<O l * k:=M
 grind [get_flatK]
def uH:Data->Option Value
 | .int k n=>J (.int k n)
 | .bool b=>J (.bool b)
 |_=>K
theorem nL {d:Data}{u v:Value}{G:Gh}{w:World}(h:uH d=J u):DR G w d v↔v=u:=by
 cases d<;>simp [uH,reduceCtorEq,Option.some.injEq] at h<;>subst h<;>simp [DR]
def FN {G:Gh}{I:T0}{N:Nat->Prop}{w:World}{H:n9}(hr:HR G I N w H){id lo len:Nat}{old:List c7}{ds:List Data}{us:List Value}(ho:H[id]? =J (.cells old))(hl:lo+len<=O old)(hx:(old.drop lo).take len=ds.map .d)
  (hu:O ds=O us) (hd:∀(j:Nat) (d:Data) (u:Value),ds[j]? =J d->us[j]? =J u->uH d=J u):Holds _root_.id w (I id).1 ((I id).2+lo) us.toArray/\(I id).1<w.heap.size/\O ds=len:=by
 have hO:=hr id _ ho;obtain ⟨hN,c,e,f,h1,h2,h3,h4,h5⟩:=hO;have hlen:O ds=len:=by
  have:=congrArg List.length hx
  grind
 refine ⟨λj hj=>?_,?_,hlen⟩
 .have hj0:j<O us:=V
  have hj' :j<O ds:=V
  have e1:old[lo+j]? =J (.d ds[j]):=by
   have:=congrArg (·[j]?) hx;simp_all
  obtain ⟨v,g1,g2⟩:=h5 _ _ e1;have g2:=(nL (hd j _ us[j] (n5 hj') (n5 hj0))).1 g2;constructor
  .simp_all [ad,World.cell?,M9]
  .have hlt:(I id).2+lo+j<c.size:=by
    omega
   have:=h3 _ hlt;simp_all [World.frozen?]
 grind
def V5.vals (f:V5):List Value:=[.int .i64 f.src.1,.int .i64 f.src.2,.int .i64 f.dst.1,.int .i64 f.dst.2,.bool f.dat]
theorem oD:∀(n:Nat) (cs:List Data) (fs:List V5),O cs<=n->Cr cs=J fs->cs=fs.flatMap V5.enc
 |_,[],fs,_,h=>by cases h;rfl
 |0,c::cs,fs,hn,h=>by simp at hn
 |n+1,c::cs,fs,hn,h=>by
  unfold Cr at h;split at h
  .simp_all
  next a b c' d t r heq=>
   cases heq;split at h
   next l hl=>
    cases h;rw [List.flatMap_cons,<- oD n r l (by grind) hl];rfl
   .cases h
  .cases h
theorem sA (fs:List V5):O (fs.flatMap V5.enc)=O fs * 5:=by
 induction fs with
 |nil=>rfl
 |cons a l ih=>grind [s9,q7,V5.enc]
theorem sy (fs:List V5):O (fs.flatMap V5.vals)=O fs * 5:=by
 induction fs with
 |nil=>rfl
 |cons a l ih=>grind [s9,q7,V5.vals]
theorem nA:∀(fs:List V5) (j:Nat) (d:Data) (u:Value),(fs.flatMap V5.enc)[j]? =J d->(fs.flatMap V5.vals)[j]? =J u->uH d=J u
 |[],j,d,u,h,_=>by simp at h
 |f::fs,j,d,u,h,h2=>by
  rw [List.flatMap_cons] at h h2
  rcases x9 j 5 with hj|hj
  .rw [s8 (by simp_all [V5.enc])] at h
   rw [s8 (by simp_all [V5.vals])] at h2
   match j,hj with
   |0,_=>cases h;cases h2;rfl
   |1,_=>cases h;cases h2;rfl
   |2,_=>cases h;cases h2;rfl
   |3,_=>cases h;cases h2;rfl
   |4,_=>cases h;cases h2;rfl
  .rw [q9 (by simp_all [V5.enc])] at h
   rw [q9 (by simp_all [V5.vals])] at h2;exact nA fs _ d u h h2
theorem IA:∀{vs:List c7} {cs:List Data},cs.all Data.flat=W->L5 vs=J cs->vs=cs.map .d
 |[],cs,_,h=>by cases h;rfl
 |v::vs,cs,hf,h=>by
  unfold L5 at h;split at h
  .split at h
   next xs hxs=>
    cases h;simp only [List.all_cons,c8] at hf;rw [M8,<- IA hf.2 hxs];simp_all [c7.data?,reduceCtorEq,Data.flat]<;>grind
   .cases h
  .cases h
theorem KR:∀fs:List V5,(fs.flatMap V5.enc).all Data.flat=W
 |[]=>rfl
 |f::fs=>by rw [List.flatMap_cons,List.all_append,KR fs];rfl
theorem oo:∀l:List Data,C0 (l.map .d)=0
 |[]=>rfl
 |a::l=>by simp [C0,c7.K9,oo l]
def PZ {P:Program}{prom:FuncId->Bool}{f g:FuncId}(hcan:U1 P f=W)
  (hS:∀(blk off cap:Nat) (fs:List V5) (w:World),HoldsK V5.vals 5 w blk off fs.toArray->blk<w.heap.size->O fs<4611686018427387904->Calls P f #[.slice (J ⟨blk,off,K⟩) (O fs) cap,.func (.func g) #[] #[]] w λe w' =>
   e= .returned (.tuple #[])/\∃n os,w' =grow (putRowK V5.vals 5 (Sort.ahead w n) blk off (zx fs).toArray) os)
  (hE:∀(p:Option Addr) (cap:Nat) (fv:Value) (w:World),Calls P f #[.slice p 0 cap,fv] w λe w' =>e= .returned (.tuple #[])/\w' =w):bu P prom f (Jc g):=by
 refine ⟨hcan,λargs H l v H1 hrun w G I N H9 hp _=>?_⟩;have two:∀{a:c7} {g' :FuncId},J5 G I N w [a,.func g' [] []] H9.toList->∃x,H9= #[x,.func (.func g') #[] #[]]/\VR G I N w .none a x:=λ{a g'} h=>by
  grind [J5,VR,Array.ext']
 unfold Jc at hrun;split at hrun
 next H l id lo len g'=>
  split at hrun
  next hm=>
   obtain ⟨rfl,hm,hn⟩:=hm;split at hrun
   next vs hvs=>
    split at hrun
    next cs hcs=>
     split at hrun
     next fs Wp=>
      split at hrun
      next H2 hw=>
       cases hrun;obtain ⟨old,ho,hl,rfl⟩:=rd_some hvs;have hc:=oD _ _ _ (o6 _) Wp;subst hc;have hx:=IA (KR fs) hcs;obtain ⟨g1,g2,g3⟩:=FN hp.hr (us:=fs.flatMap V5.vals) ho hl hx (by rw [sA,sy]) (nA fs);have hH:=sQ ho hw;subst hH;obtain ⟨x,rfl,hv⟩:=two hp.args;simp only [VR] at hv;obtain ⟨_,cap,rfl,_⟩:=hv;have hlen:O fs=len:=by
        grind [sA]
       subst hlen;refine (hS _ _ cap fs w (by simp_all [HoldsK,iF,V5.vals]) g2 V).mono ?_;rintro e w' ⟨rfl,n,os,rfl⟩;unfold putRowK;rw [iF V5.vals 5 (λ_=>rfl)];have hR:=kY _root_.id w n (I id).1 ((I id).2+lo) ((zx fs).flatMap V5.vals) os;rw [List.map_id] at hR;refine ⟨_,G,I,N,rfl,xQ hp (us:=(zx fs).flatMap V5.vals) (by rw [C5,sA,sy]) (oo _) (λj a u ha hu G I N w p=>?_) ho (by grind [sy,VU]) hm hR (by simp_all [VR,J5])⟩
       grind [Option.map_eq_some_iff,VR,nL,nA]
      .cases hrun
     .cases hrun
    .cases hrun
   .cases hrun
  .cases hrun
 next H l cs g'=>
  split at hrun
  next hg=>
   subst hg;cases hrun;obtain ⟨x,rfl,hv⟩:=two hp.args;simp only [VR,DR] at hv;have key:∃p cap,x= .slice p 0 cap:=by
    grind
   obtain ⟨p,cap,rfl⟩:=key;refine (hE p cap _ w).mono ?_;rintro e w' ⟨rfl,rfl⟩;exact ⟨_,G,I,N,rfl,kA hp (by simp_all [VR,J5])⟩
  .cases hrun
 .cases hrun
end Go.B3
namespace Go.Proofs.YtibjocmpkoepoaaGreat
open Go.B3 Go.B3.S
attribute [local irreducible] Rx Ry Rn Ex Pf
def A0:B3.Prog:=⟨aX4,Pp,Yp,λ_=>K⟩
def aV4 [E0]:qg Tryz.prog A0:=⟨Wx,λf p h=>(by cases h),λf af _ h=>aV6 f af h⟩
def bj2 (a:Int):Pf A0 136 [.d (Z a)] (.d (.bool F)):=by
 refine Pf.gr 1 ?_;exact ⟨_,rfl,by simp [j5,p7]⟩
def q83 (a b:Int):Pf A0 83 [.d (Z a),.d (Z b)] (.d (Z (gP a b))):=by
 refine Pf.go 3 ?_;have p1:=bj2 a;have p2:=bj2 b;refine gc (And.intro p1 p2) ?_;refine tb (F) (λh1=>?_) (λh1=>?_)
 .cases h1
 refine gr ?_;refine tb (F) (λh2=>?_) (λh2=>?_)
 .cases h2
 refine gr ?_;refine tb (J2 a b) (λh3=>?_) (λh3=>?_)
 .have:=F5 h3
  refine gr ?_;have e:gP a b= -1:=by unfold gP;rw [if_pos this]
  rw [e]
  first|exact ⟨_,rfl,rfl⟩|(simp [j5];done)
 have:=G7 h3;refine gr ?_;refine tb (J2 b a) (λh4=>?_) (λh4=>?_)
 .have:=F5 h4
  refine gr ?_;have e:gP a b=1:=by unfold gP;rw [if_neg V,if_pos this]
  rw [e]
  first|exact ⟨_,rfl,rfl⟩|(simp [j5];done)
 have:=G7 h4;refine gr ?_;have e:gP a b=0:=by unfold gP;rw [if_neg V,if_neg V]
 rw [e]
 first|exact ⟨_,rfl,rfl⟩|(simp [j5];done)
def YI:List Int->Int
 |[]=>0
 |a::l=>if A1 a 0 then YI l else a
def q82 (l:List Int)(hl:O l<=1000000):Pf A0 82 [.d (ints l)] (.d (Z (YI l))):=by
 refine Pf.gr 6 ?_;refine Ex.R8 (λk T H=>∃(i:Nat),T=[.any,.any,.d (Z 0),.any,.d (ints l),.d (Z (O l)),.d (Z i)]/\H=[]/\i+k=O l/\YI l=YI (l.drop i)) ?_ (k:=O l) ⟨0,rfl,rfl,U,rfl⟩;rintro k _ _ ⟨i,rfl,rfl,hk,ho⟩;refine Ex.seq ?_;refine tl i (O l) (λh3=>?_) (λh3=>?_)
 .rw [E3 V,YI] at ho
  refine gr ?_;refine tb (!A1 (Y l i) 0) (λh4=>?_) (λh4=>?_)
  .refine gr ?_
   rw [if_neg (by simpa using h4)] at ho;rw [ho]
   first|exact ⟨_,rfl,rfl⟩|(simp [j5];done)
  .refine gr ?_
   rw [if_pos (by simpa using h4)] at ho;exact kk ⟨i+1,rfl,rfl,V,ho⟩
 .rw [o7 V] at ho
  rw [ho];refine gr ?_
  first|exact ⟨_,rfl,rfl⟩|(simp [j5];done)
def Ji (p:U0):c7:= .agg [.d (Z p.1),.d (Z p.2)]
def Ze (a b:U0):Pf A0 118 [Ji a,Ji b] (.d (Z (tj a b))):=by
 refine Pf.go 3 ?_;unfold Ji;have p1:=q83 a.1 b.1;have p2:=q83 a.2 b.2;have p3:=q82 [gP a.1 b.1,gP a.2 b.2] U;have e:tj a b=YI [gP a.1 b.1,gP a.2 b.2]:=by
  unfold tj;simp only [YI,p7]
  by_cases h:gP a.1 b.1=0
  .by_cases h2:gP a.2 b.2=0<;>simp [h,h2]
  .simp [h]
 rw [e]
 repeat' (first|refine uf p1 ?_|refine uf p2 ?_|refine uf p3 ?_|refine bsv [Z (gP a.1 b.1),Z (gP a.2 b.2)] ?_|refine gx ?_|fail)
 first|exact ⟨_,rfl,rfl⟩|(simp [j5];done)
def bR8 (a b:Bool):Pf A0 165 [.d (.bool a),.d (.bool b)] (.d (Z (cfB a b))):=by
 refine Pf.go 1 ?_;cases a<;>cases b
 all_goals
  repeat' (first|refine gy ?_|refine ft (λht=>?_) λht=>?_|refine ⟨_,rfl,?_⟩|fail)
  all_goals first|rfl|(exfalso;revert ht;decide)|(rename_i h;exfalso;revert h;decide)
def Xx (f:V5):c7:= .agg [.d (Z f.src.1),.d (Z f.src.2),.d (Z f.dst.1),.d (Z f.dst.2),.d (.bool f.dat)]
def bR7 (a b:V5):Pf A0 164 [Xx a,Xx b] (.d (Z (WT a b))):=by
 refine Pf.go 3 ?_;unfold Xx;have p1:=Ze a.src b.src;have p2:=Ze a.dst b.dst;have p3:=bR8 a.dat b.dat;have p4:=q82 [tj a.src b.src,tj a.dst b.dst,cfB a.dat b.dat] U;have e:WT a b=YI [tj a.src b.src,tj a.dst b.dst,cfB a.dat b.dat]:=by
  unfold WT;simp only [YI,p7]
  by_cases h:tj a.src b.src=0
  .by_cases h2:tj a.dst b.dst=0
   .by_cases h3:cfB a.dat b.dat=0<;>simp [h,h2,h3]
   .simp [h,h2]
  .simp [h]
 rw [e];unfold Ji at p1 p2
 repeat' (first|refine uf p1 ?_|refine uf p2 ?_|refine uf p3 ?_|refine uf p4 ?_|refine lqo ?_|refine bsv [Z (tj a.src b.src),Z (tj a.dst b.dst),Z (cfB a.dat b.dat)] ?_|refine gx ?_|fail)
 first|exact ⟨_,rfl,rfl⟩|(simp [j5];done)
end Go.Proofs.YtibjocmpkoepoaaGreat
namespace Go.B3
def KA (a b:U0):tj a b=0↔a.1=b.1/\a.2=b.2:=by
 unfold tj gP;split<;>(repeat' split)<;>omega
def bn (b:Bool):Int:=if b then 0 else 1
def aH1 (a b:Bool):cfB a b<0↔bn a<bn b:=by cases a<;>cases b<;>decide
def xl (a b:V5):WT a b<0↔(a.src.1<b.src.1\/(a.src.1=b.src.1/\(a.src.2<b.src.2\/(a.src.2=b.src.2/\(a.dst.1<b.dst.1\/(a.dst.1=b.dst.1/\(a.dst.2<b.dst.2\/(a.dst.2=b.dst.2/\bn a.dat<bn b.dat)))))))):=by
 have h1:=iu a.src b.src;have h2:=KA a.src b.src;have h3:=iu a.dst b.dst;have h4:=KA a.dst b.dst;have h5:=aH1 a.dat b.dat;unfold WT;split
 .rw [h1];omega
 .split
  .rw [h3];omega
  .rw [h5];omega
def aG7 {a b:Bool}(h:bn a=bn b):a=b:=by cases a<;>cases b<;>first|rfl|(exact absurd h (by decide))
end Go.B3
namespace Go.Proofs.YtibjocmpkoepoaaGreat
open Go.B3 Go.Sort Go.Proofs
def bm2:SWO (ltOf tj) where
 irrefl x:=by simp only [ltOf,decide_eq_false_iff_not,iu];omega
 trans x y z h1 h2:=by simp only [ltOf,decide_eq_true_eq,iu] at *;omega
 ntrans x y z h1 h2:=by simp only [ltOf,decide_eq_false_iff_not,iu] at *;omega
def aw1 (x y:U0)(h1:ltOf tj x y=F)(h2:ltOf tj y x=F):x=y:=by
 simp only [ltOf,decide_eq_false_iff_not,iu] at *
 exact Prod.ext V V
def bT2:SWO (ltOf WT) where
 irrefl x:=by simp only [ltOf,decide_eq_false_iff_not,xl];omega
 trans x y z h1 h2:=by simp only [ltOf,decide_eq_true_eq,xl] at *;omega
 ntrans x y z h1 h2:=by simp only [ltOf,decide_eq_false_iff_not,xl] at *;omega
def bm5 (x y:V5)(h1:ltOf WT x y=F)(h2:ltOf WT y x=F):x=y:=by
 simp only [ltOf,decide_eq_false_iff_not,xl] at *
 obtain ⟨⟨a,b⟩,⟨c,d⟩,e⟩:=x;obtain ⟨⟨a',b'⟩,⟨c',d'⟩,e'⟩:=y;simp only at h1 h2;obtain rfl:a=a' :=V
 obtain rfl:b=b' :=V
 obtain rfl:c=c' :=V
 obtain rfl:d=d' :=V
 obtain rfl:e=e' :=aG7 V;rfl
def U0.vals (p:U0):List Value:=[.int .i64 p.1,.int .i64 p.2]
def ab1 {G:Gh}{I:T0}{N:Nat->Prop}{w:World}(f:V5):VR G I N w .none (Xx f) (.agg (V5.vals f).toArray):=by
 simp only [Xx,VR];exact ⟨_,rfl,by simp only [V5.vals,J5,VR,DR];exact ⟨_,_,rfl,rfl,_,_,rfl,rfl,_,_,rfl,rfl,_,_,rfl,rfl,_,_,rfl,rfl,rfl⟩⟩
def JV {G:Gh}{I:T0}{N:Nat->Prop}{w:World}(f:U0):VR G I N w .none (Ji f) (.agg (U0.vals f).toArray):=by
 simp only [Ji,VR];exact ⟨_,rfl,by simp only [U0.vals,J5,VR,DR];exact ⟨_,_,rfl,rfl,_,_,rfl,rfl,rfl⟩⟩
def OP {f:FuncId}{a b:c7}{x y:Value}{n:Int}(h:Pf A0 f [a,b] (.d (Z n)))(hv:∀w,J5 (G0 w) (λ_=>(0,0)) (λ_=>False) w [a,b] [x,y])(w:World) :
  Calls Tryz.prog f #[x,y] w λe w' =>e= .returned (.int .i64 n)/\∃q os,w' =grow (w.drewN q) os:=by
 obtain ⟨N,hN⟩:=h;refine (@OS ⟨True⟩ trivial Tryz.prog A0 (@aV4 ⟨True⟩) N f [a,b] #[x,y] w _ (hN N (o6 _)) (hv w)).mono ?_;rintro e w' ⟨v,G',I',N',rfl,hv,hw⟩;simp only [VR,DR] at hv;subst hv;exact ⟨rfl,hw⟩
def bC1 (blk off size:Nat)(w:World):CmpLays Tryz.prog 164 #[] V5.vals 5 WT blk off size w:=λm os dk _ x y =>
 OP (bR7 x y) (λw=>by simp only [J5];exact ⟨_,_,rfl,ab1 x,_,_,rfl,ab1 y,rfl⟩) _
def bC2 (blk off size:Nat)(w:World):CmpLays Tryz.prog 118 #[] U0.vals 2 tj blk off size w:=λm os dk _ x y =>
 OP (Ze x y) (λw=>by simp only [J5];exact ⟨_,_,rfl,JV x,_,_,rfl,JV y,rfl⟩) _
theorem au9 (blk off cap:Nat)(fs:List V5)(w:World)(h1:HoldsK V5.vals 5 w blk off fs.toArray)(h2:blk<w.heap.size)(h3:O fs<4611686018427387904):Calls Tryz.prog 163 #[.slice (J ⟨blk,off,K⟩) (O fs) cap,.func (.func 164) #[] #[]] w λe w' =>
   e= .returned (.tuple #[])/\∃n os,w' =grow (putRowK V5.vals 5 (Sort.ahead w n) blk off (zx fs).toArray) os:=by
 have eg:∀args w,(callFunc 164 args).run Tryz.prog w= .ok (.enter 164 args) w:=enters_of Tryz.func164 (by kernel_rfl) rfl;rw [zx,<- qZ (λa b c h1 h2=>by rw [xl] at *;omega) (λa b h=>by rw [xl] at *;omega) (λa b h1 h2=>bm5 a b (by simpa [ltOf] using h2) (by simpa [ltOf] using h1)) fs];exact AnyQ.slices_SortFunc_total Tryz.sortQ 5 (λw=>by kernel_rfl) (λw=>by kernel_rfl) V5.vals (λ_=>rfl) (λx v hv=>by simp [V5.vals] at hv;rcases hv with rfl|rfl|rfl|rfl|rfl<;>rfl) WT bT2 164 #[] blk off cap fs.toArray w eg (bC1 blk off _ w) h1 h2 h3 bm5
theorem av0 (blk off cap:Nat)(ps:List U0)(w:World)(h1:HoldsK U0.vals 2 w blk off ps.toArray)(h2:blk<w.heap.size)(h3:O ps<4611686018427387904):Calls Tryz.prog 89 #[.slice (J ⟨blk,off,K⟩) (O ps) cap,.func (.func 118) #[] #[]] w λe w' =>
   e= .returned (.tuple #[])/\∃n os,w' =grow (putRowK U0.vals 2 (Sort.ahead w n) blk off (sortP ps).toArray) os:=by
 have eg:∀args w,(callFunc 118 args).run Tryz.prog w= .ok (.enter 118 args) w:=enters_of Tryz.func118 (by kernel_rfl) rfl;rw [Go.B3.sortP,<- qZ (λa b c h1 h2=>by rw [iu] at *;omega) (λa b h=>by rw [iu] at *;omega) (λa b h1 h2=>aw1 a b (by simpa [ltOf] using h2) (by simpa [ltOf] using h1)) ps];exact AnyQ.slices_SortFunc_total Tryz.sortP 2 (λw=>by kernel_rfl) (λw=>by kernel_rfl) U0.vals (λ_=>rfl) (λx v hv=>by simp [U0.vals] at hv;rcases hv with rfl|rfl<;>rfl) tj bm2 118 #[] blk off cap ps.toArray w eg (bC2 blk off _ w) h1 h2 h3 aw1
theorem ar6 (prom:FuncId->Bool):bu Tryz.prog prom 163 (Jc 164) :=
 PZ (by kernel_rfl) au9 λp cap fv w=>AnyF.slices_SortFunc_none (P:=Tryz.prog) (ρ:=Tryz.sortQ_ren) { Tryz.sortQ with } p cap fv w
end Go.Proofs.YtibjocmpkoepoaaGreat
namespace Go.Proofs.YtibjocmpkoepoaaGreat
open Go.RowKit Go.Maps
def pv (p:Int×Int):Value:= .agg #[.int .i64 p.1,.int .i64 p.2]
def bm7:Value->Int×Int
 | .agg cs=>match cs.toList with
  |[.int _ a,.int _ b]=>(a,b)
  |_=>(0,0)
 |_=>(0,0)
def aw2 (p:Int×Int):bm7 (pv p)=p:=rfl
def EW:List (Int×Int)->List Value
 |[]=>[]
 |p::r=> .int .i64 p.1:: .int .i64 p.2::EW r
theorem KP (p:Int×Int):∀l:List (Int×Int),EW (l++[p])=EW l++[.int .i64 p.1,.int .i64 p.2]
 |[]=>rfl
 |q::l=>by simp [G9,EW,KP p l]
theorem iE:∀l:List (Int×Int),O (EW l)=O l * 2
 |[]=>rfl
 |q::l=>by simp [EW,q7,iE l];omega
def BC (es:Array MapEntry)(seen:Array Nat)(tp:List (Int×Int)):Prop:=∃tk:List MapEntry,tk.map (·.key)=tp.map pv/\(tk++(leftOf es seen).toList).Perm es.toList
def BC.start (es:Array MapEntry):BC es #[] []:=⟨[],rfl,by
 grind [leftOf,Array.toList_filter,List.filter_eq_self,List.Perm.refl]⟩
theorem FZ (es:Array MapEntry)(seen:Array Nat)(b:Nat):(leftOf es (seen.push b)).toList=(leftOf es seen).toList.filter (λx=>x.born != b):=by
 grind [leftOf,Array.toList_filter,List.filter_filter,List.filter_congr,Array.contains_push,bne,Bool.and_comm]
theorem LU:∀(l:List MapEntry) (e:MapEntry),e∈l->(l.map (·.born)).Nodup->(e::l.filter (λx=>x.born != e.born)).Perm l
 |[],_,h,_=>by cases h
 |x::l,e,h,hn=>by
  simp [M8,List.nodup_cons] at hn
  rcases C4.1 h with rfl|h
  .have:l.filter (λx=>x.born != e.born)=l:=by
    simp_all
   simp [this]
  .have hx:x.born≠e.born:=by
    grind
   have hx' :(x.born != e.born)=W:=M
   rw [List.filter_cons,if_pos hx'];exact (List.Perm.swap x e _).trans ((LU l e h hn.2).cons x)
def BC.step {es:Array MapEntry}{seen:Array Nat}{tp:List (Int×Int)}(h:BC es seen tp)(hn:(es.toList.map (·.born)).Nodup){e:MapEntry}(he:e∈(leftOf es seen).toList){p:Int×Int}(hk:e.key=pv p) :
  BC es (seen.push e.born) (tp++[p])/\(leftOf es (seen.push e.born)).size<(leftOf es seen).size:=by
 obtain ⟨tk,h1,h2⟩:=h;have hn' :((leftOf es seen).toList.map (·.born)).Nodup:=by
  grind
 have hp:=LU _ e he hn';refine ⟨⟨tk++[e],by simp [h1,hk],?_⟩,?_⟩
 .rw [FZ,M3]
  exact (List.Perm.append_left tk hp).trans h2
 .have:=hp.length_eq
  grind [FZ,q7,Array.length_toList]
def BC.done {es:Array MapEntry}{seen:Array Nat}{tp:List (Int×Int)}(h:BC es seen tp)(h0:(leftOf es seen).size=0){ks:List (Int×Int)}(hk:es.toList.map (·.key)=ks.map pv):tp.Perm ks:=by
 obtain ⟨tk,h1,h2⟩:=h;have e0:(leftOf es seen).toList=[]:=by
  simp_all
 rw [e0,List.append_nil] at h2;have h3:=h2.map (·.key);have h4:=h3.map bm7;simp_all [List.map_map,Function.comp_def,aw2]
theorem BC.len {es:Array MapEntry}{seen:Array Nat}{tp:List (Int×Int)}(h:BC es seen tp):O tp+(leftOf es seen).size=es.size:=by
 obtain ⟨tk,h1,h2⟩:=h;have e1:=congrArg List.length h1;have e2:=h2.length_eq
 grind
def WR (w:World)(x y:Value)(t:TypeId){k:Nat}(hk:k=w.heap.size):∀j u,[x,y][j]? =J u->(w.alloc (.cells #[x,y] t)).cell? ((⟨k,0,K⟩:Addr).add j)=J u:=by
 intro j u hj;subst hk;have e:∀i,(w.alloc (.cells #[x,y] t)).cell? ⟨w.heap.size,i,K⟩= #[x,y][i]? :=λi=>by
  simp_all
 match j,hj with
 |0,hj=>exact (e 0).trans hj
 |1,hj=>exact (e 1).trans hj
def aA8 (w:World)(r:Nat):Nat:=match w.heap[r]? with
 |some (.mapIter (J bm) _ seen _)=>(match w.heap[bm]? with
  |some (.map es _)=>(leftOf es seen).size
  |_=>0)
 |_=>0
section
variable {d9:Fence} {n:Nat} {P:Program} (w:World) {ops:Array Oper} {rest:List Oper} {o:Oper} {a:Act} {Q:Exit->Act->World->Prop}
def uL (hg:o.guard=K)(m:Operand)(t:TypeId)(hop:o.op=Op.range t m)(k e:TypeId)(ht:P.underlying t=J (.map k e))(b:Nat)(es:Array MapEntry)(gO:Nat)(hm:a.eval m= .map (J b))(hb:w.heap[b]? =J (.map es gO))
  (hK:wpListIn d9 n P ops Q rest (a.put o.dst (.pointer (J ⟨w.heap.size,0,K⟩))) (w.alloc (.mapIter (J b) gO #[] gO))) :
  wpListIn d9 n P ops Q (o::rest) a w:=by
 refine wpListIn_plain hg λK' hK' =>?_
 have hrun:=run_range_map w t k e b es gO ht hb;refine ⟨?_,?_⟩
 .simp [Oper.about,hop]
 .rw [Oper.semAt_plain d9 _ _ M]
  simp [execOp,hop,hm,hrun];exact hK' _ _ hK
def wo (hg:o.guard=K)(it:Operand)(hop:o.op=Op.next it F)(b r:Nat)(es:Array MapEntry)(gO:Nat)(seen:Array Nat)(hit:a.eval it= .pointer (J ⟨r,0,K⟩))
  (hr:w.heap[r]? =J (.mapIter (J b) gO seen gO)) (hb:w.heap[b]? =J (.map es gO)) (hold:∀x∈es.toList,x.born<gO) (hn:(es.toList.map (·.born)).Nodup) (hkeys:∀e∈es.toList,∃p,e.key=pv p) (hbr:b≠r)
  (hDone:(leftOf es seen).size=0->wpListIn d9 n P ops Q rest (a.put o.dst (.tuple #[.bool F])) w)
  (hMore:∀(e:MapEntry) (p:Int×Int) (v:Value) (w' :World),e∈(leftOf es seen).toList->e.key=pv p->w.grownBy w' (J r)->w'.heap.size=w.heap.size->w'.heap[r]? =J (.mapIter (J b) gO (seen.push e.born) gO)->w'.heap[b]? =J (.map es gO) ->
   (Instr.entry (.pointer (J ⟨r,0,K⟩))).run P w' = .ok (.tuple #[pv p,v]) w' ->wpListIn d9 n P ops Q rest (a.put o.dst (.tuple #[.bool W,pv p,v])) w') :
  wpListIn d9 n P ops Q (o::rest) a w:=by
 refine wpListIn_plain hg λK' hK' =>?_
 refine ⟨by simp [Oper.about,hop],?_⟩;rw [Oper.semAt_plain d9 _ _ M]
 rcases run_next_at (P:=P) w o.type r b gO gO seen es gO hr hb hold (o6 _) with ⟨h0,hrun⟩|⟨e,he,w1,hw1,hrun⟩
 .simp [execOp,hop,hit,hrun]
  exact hK' _ _ (hDone h0)
 .have hes:e∈es.toList:=by
   have:e∈(Array.filter (λe=> !seen.contains e.born) es).toList:=he;simp_all
  obtain ⟨p,hp⟩:=hkeys e hes;simp [execOp,hop,hit,hrun];have hsz:(ChangeMaps.setBlock w1 r (.mapIter (J b) gO (seen.push e.born) gO)).heap.size=w.heap.size:=by
   rcases hw1 with rfl|rfl<;>simp [ChangeMaps.setBlock]
  have hlt:r<w.heap.size:=by
   grind
  have hr' :(ChangeMaps.setBlock w1 r (.mapIter (J b) gO (seen.push e.born) gO)).heap[r]? =J (.mapIter (J b) gO (seen.push e.born) gO):=by
   simp_all [ChangeMaps.setBlock]
  have UY:∀k,k≠r->(ChangeMaps.setBlock w1 r (.mapIter (J b) gO (seen.push e.born) gO)).heap[k]? =w.heap[k]? :=by
   intro k hk
   rcases hw1 with rfl|rfl
   .grind [ChangeMaps.setBlock]
   .simp [ChangeMaps.setBlock,Ne.symm hk]
    rfl
  have hb' :=(UY b hbr).trans hb;have hen:=run_entry_at (P:=P) _ r b gO seen es gO e hr' hb' hes hn;rw [hp] at hen ⊢;refine hK' _ _ (hMore e p e.val _ he hp ⟨?_,?_,?_,Nat.le_of_eq hsz.symm,λk _ hk=>UY k (λe=>hk (by rw [e]))⟩ hsz hr' hb' hen)
  all_goals (rcases hw1 with rfl|rfl<;>rfl)
end
theorem aL2:(Tryz.prog.info? 44).map (λi=>(i.zero,i.size,i.bytes))=J (J (.agg #[.int .i64 0,.int .i64 0]),2,16):=by kernel_rfl
set_option maxRecDepth 100000 in
set_option maxHeartbeats 2000000 in
def zy (bm:Nat)(es:Array MapEntry)(gO:Nat)(ks srt:List (Int×Int))(w:World)(hb:w.heap[bm]? =J (.map es gO))(hold:∀x∈es.toList,x.born<gO)(hn:(es.toList.map (·.born)).Nodup)(hk:es.toList.map (·.key)=ks.map pv)(hlen:O ks<=1000000)
  (hsort:∀(v:Value) (ps:List (Int×Int)) (d8:World),d8.ownsRow w.heap.size 44 2 v (O ps) (EW ps)->ps.Perm ks->Calls Tryz.prog 89 #[v,.func (.func 118) #[] #[]] d8 λe W' =>
   e= .returned (.tuple #[])/\W'.ownsRow w.heap.size 44 2 v (O ps) (EW srt)/\d8.grownBy W' v.ownBlock) :
  Calls Tryz.prog 63 #[.map (J bm)] w λe w' =>∃v,e= .returned v/\w'.ownsRow w.heap.size 44 2 v (O ks) (EW srt)/\Below w.heap.size w w' :=by
 obtain ⟨i0,hi,hz0,hz1,Pn⟩:=info_parts aL2;have hbl:bm<w.heap.size:=by
  grind
 have hkeys:∀e∈es.toList,∃p,e.key=pv p:=by
  intro e he;have:e.key∈ks.map pv:=by grind
  grind
 have cp2:es.size=O ks:=by
  have:=congrArg List.length hk
  grind
 refine (callsIn_wide (n:=68)).1 ?_;refine callsIn_of_wp Tryz.func63 rfl trivial ?_ rfl;simp only [Tryz.ntmps63,List.size_toArray,q7,I8,Nat.reduceAdd,Nat.reduceSub,Array.replicate_succ,Array.replicate_zero,List.push_toArray,List.append_toArray,J7,G9]
 gi_wp2_with (first
  |(gi_at_range;refine uL _ rfl _ 124 rfl 44 4 Tryz.underlying124 bm es gO rfl hb ?_)
  |gi_in)
 go_frame
 gi_loopw [3] (λv wr=>∃(seen:Array Nat) (tp:List (Int×Int)),wr.heap[w.heap.size]? =J (.mapIter (J bm) gO seen gO)/\wr.heap[bm]? =J (.map es gO)/\BC es seen tp/\wr.ownsRow w.heap.size 44 2 v (O tp) (EW tp)/\Below w.heap.size w wr)
  (λ_ wr=>aA8 wr w.heap.size)
 case atStart =>
  exact ⟨#[],[],heap_alloc_new _ _,(Below.heap_alloc _ _ _ hbl).trans hb,BC.start es,World.ownsRow_nil _ _ _ _,(Below.refl _ _).alloc (o6 _) _⟩
 case round =>
  obtain ⟨seen,tp,hr,hbb,hC,hrow,hnx⟩:=hrel
  gi_wp2_with (first
   |(gi_at_next;refine wo _ rfl _ rfl bm w.heap.size es gO seen rfl hr hbb hold hn hkeys V ?_ ?_)
   |gi_in)
  .intro h0
   have Lh:=hC.done (by rw [h0];rfl) hk;have hc:=hsort _ tp _ hrow Lh;clear h0
   gi_wp2_with (refine ⟨trivial,?_⟩;gi_at_call 89;refine ((callsIn_wide).2 hc).mono ?_;rintro e w' ⟨rfl,ba9,hg'⟩)
   refine ⟨rfl,_,results_tmp rfl _ _ _,u3,rfl,?_,hnx.grown hg' hnx.size (λj hj=>(hrow.lt j hj).1)⟩;rw [<- Lh.length_eq];exact ba9
  .intro e p1 p2 v' w2 he hp hg2 hs2 Va hb2 hen
   have FP:=hrow.kept hg2 (by
    by_cases h:u3.ownBlock=K
    .simp_all
    .refine Or.inr λe1=>?_
     rcases hrow.2 with ⟨rfl,_⟩|⟨g,cap,cur,rfl,_,hgg,_⟩
     all_goals simp_all [Value.ownBlock,Option.some.injEq])
   have cr5:=hg2.size;have hstep:=hC.step hn (Array.mem_toList_iff.2 he) (p:=(p1,p2)) hp;have bY3:O tp+1<=1000000:=by
    have:=hC.len;omega
   have bH1:Below w.heap.size w w2:=hnx.grown hg2 hnx.size (λj hj=>M);clear hs2;simp only [pv] at hen ⊢
   gi_wp2_with (gi_at_builtin;go_loud (refine wpListIn_append_own _ rfl _ _ 49 rfl w.heap.size 44 i0 _ 2 16 Tryz.underlying49 hi hz0 hz1 Pn rfl (by decide) _ _ _ rfl ((FP.alloc _).alloc _) ⟨w2.heap.size+1,0,K⟩ 1 1 [.int .i64 p1,.int .i64 p2] rfl rfl (WR _ _ _ _ U) (by simp [Value.oneCell']) (by grind [maxLen]) V (by simp_all<;>grind) ?_;intro v3 w3 hown' hg3 bY7;go_frame))
   have hg4:World.grownBy _ w3 u3.ownBlock:=hg3;have hkeep:∀(b:Nat) (o:Obj),w2.heap[b]? =J o->(∀c t f,o≠Obj.cells c t f)->w3.heap[b]? =J o:=by
    intro b o AD hno;have hlt:b<w2.heap.size:=by
     grind
    rw [hg4.block b D (λe1=>by
     rcases FP.2 with ⟨rfl,_⟩|⟨g,cap,cur,rfl,_,hgg,_⟩
     all_goals simp_all [Value.ownBlock,Option.some.injEq]),Below.heap_alloc _ _ _ D,Below.heap_alloc _ _ _ hlt]
    exact AD
   have hr3:=hkeep _ _ Va U;have hb3:=hkeep _ _ hb2 U;have bH2:Below w.heap.size w w3:=((bH1.alloc (by grind) _).alloc (by simp_all<;>grind) _).grown hg4 (by simp_all<;>grind) (λj hj=>(FP.lt j hj).1)
   go_roundw
   case rel=>exact ⟨_,_,hr3,hb3,hstep.1,by simp_all [KP,s9],bH2⟩
   simp_all [measure,aA8]
#print axioms zy
end Go.Proofs.YtibjocmpkoepoaaGreat
namespace Go.B3
open Go.RowKit
section
variable {w w' :World} {G G' :Gh} {I:T0} {N:Nat->Prop} {l:H8} {H:n9}
def xg (hB:Below w.heap.size w w')(hwf:WF G w)(hG:∀b,b<w.heap.size->G' b=G b):Ext G w G' w' where
 os:=hB.os
 tape:=hB.tape
 output:=hB.output
 size:=hB.size
 mM b o hi:=by
  have hb:b<w.heap.size:=bJ hwf (by grind [jS]);exact ⟨by simp_all [jS],by simp [World.cell?,hB.block b hb]⟩
 still b hb:=by
  have hlt:b<w.heap.size:=bJ hwf (by grind);exact ⟨hG b hlt,hB.block b hlt⟩
 shape b c e f hc:=by
  have hlt:b<w.heap.size:=by
   grind
  exact ⟨c,(hB.block b hlt).trans hc,rfl⟩
 drawn h:=h.elim
def yD (hB:Below w.heap.size w w')(hwf:WF G w)(hG:∀b,b<w.heap.size->G' b=G b)(q:Place):bI q G w G' w' :=λb n hb=>by
 have hlt:b<w.heap.size:=bJ hwf (by rw [hb];simp);exact ⟨(hG b hlt).trans hb,hB.block b hlt⟩
def BJ (hB:Below w.heap.size w w')(hwf:WF G w)(hG:∀b,b<w.heap.size->G' b=G b)(b id:Nat)(hb:G b= .obj id):G' b= .obj id/\w'.heap[b]? =w.heap[b]? :=by
 have hlt:b<w.heap.size:=bJ hwf (by rw [hb];simp);exact ⟨(hG b hlt).trans hb,hB.block b hlt⟩
def kG {args:List c7}{H9:Array Value}(hp:BB l H w G I N args H9)(hB:Below w.heap.size w w')(hG:∀b,b<w.heap.size->G' b=G b)(hwf' :WF G' w'){v:c7}{x:Value}(hv:VR G' I N w' .ret v x):mW l H w G I N v H x w' G' I N :=
 ⟨hv,λid o ho=>OR.mono (xg hB hp.wf hG) (λ_ _=>rfl) (λ_ h=>h) id o (λh=>BJ hB hp.wf hG _ _ h) (λ_=>yD hB hp.wf hG _) (hp.hr id o ho),hwf',xg hB hp.wf hG,
  λid _=>⟨λb hb=>BJ hB hp.wf hG b id hb,λ_=>yD hB hp.wf hG _⟩,λ_ _ _=>rfl,λ_ h=>h,λ_ _ h=>h,hp.bY,λ_ o' _ ho=>Or.inr ⟨o',ho,o6 _⟩,hp.W9⟩
def DRx (G:Gh)(w:World)(cs:List Data)(news:List Value):Prop:=O news=O cs/\∀(j:Nat) (c:Data),cs[j]? =J c->∃u,news[j]? =J u/\DR G w c u
theorem gl.of {b:Nat}:∀(o:Nat) (cs:List Data),(∀(j:Nat) (c:Data),cs[j]? =J c->jS G b (o+j)/\∃u,w.cell? (ad b (o+j))=J u/\DR G w c u)->gl G w b o cs
 |_,[],_=>by simp [gl]
 |o,c::cs,h=>by
  obtain ⟨h1,h2⟩:=h 0 c rfl;refine ⟨h1,h2,gl.of (o+1) cs λj c hj=>?_⟩;have:=h (j+1) c (by simpa using hj)
  rwa [show o+(j+1)=o+1+j by omega] at this
def DR.one {d:Data}{v:Value}(h:DR G w d v):v.oneCell' =W:=by
 cases d<;>simp [DR] at h
 case slice len cells=>rcases h with ⟨h|⟨a,h⟩,_⟩|⟨b,o,cap,h,_⟩<;>subst h<;>rfl
 all_goals (subst h;rfl)
theorem DRx.mono {cs:List Data}{news:List Value}(h:DRx G w cs news)(hx:Ext G w G' w'):DRx G' w' cs news:=⟨h.1,λj c hj=>by
 obtain ⟨u,h1,h2⟩:=h.2 j c hj;exact ⟨u,h1,DR.mono hx.mM c u h2⟩⟩
def DRx.Ff {cs:List Data}{news:List Value}(h:DRx G w cs news):∀u∈news,u.oneCell' =W:=by
 intro u hu;obtain ⟨j,hj,rfl⟩:=List.mem_iff_getElem.1 hu;have hl:=h.1;obtain ⟨u',h1,h2⟩:=h.2 j (cs[j]' V) (n5 V);rw [n5 hj] at h1;cases h1;exact h2.one
def IZ {e z n:Nat}{v:Value}{news:List Value}{cs:List Data}(hown:w'.ownsRow w.heap.size e z v n news)(hB:Below w.heap.size w w')(hwf:WF G w)(hd:DRx G w cs news) :
  ∃G',(∀b,b<w.heap.size->G' b=G b)/\WF G' w' /\VR G' I N w' .ret (.own z n cs) v:=by
 obtain ⟨h1,h2⟩:=hown;have hl:O cs=n * z:=by rw [<- hd.1];exact h1
 rcases h2 with ⟨rfl,rfl⟩|⟨g,cap,cur,rfl,hg,hh,hc1,pG,hc3,hc4⟩
 .refine ⟨G,λ_ _=>rfl,λb hb=>hwf b (A3 hB.size hb),?_⟩
  simp_all [VR,trivial]
 .have hlt:g<w'.heap.size:=by
   grind
  have hG:∀b,b<w.heap.size->(gR G g (.grow (0+n * z) .ret)) b=G b:=λb hb=>J1 V
  refine ⟨gR G g (.grow (0+n * z) .ret),hG,λb hb=>?_,?_⟩
  .rw [J1 V]
   exact hwf b (A3 hB.size hb)
  .have hd' :=hd.mono (xg hB hwf hG)
   refine ⟨hl,Or.inr ⟨U,g,0,cap,cur,e,(0,0),rfl,hc1,hh,V,og _,U,gl.of 0 cs λj c hj=>?_⟩⟩;obtain ⟨u,g1,g2⟩:=hd'.2 j c hj;simp_all [jS,World.cell?]<;>grind
def qS {z n:Nat}{cs:List Data}{x:c7}{v:Value}(hr:HR G I N w H)(h:rowOf z H x=J (n,cs))(hv:VR G I N w .none x v) :
  (n=0/\cs=[]/\(v= .slice K 0 0\/∃a,v= .slice (J a) 0 0))\/∃(b off c:Nat) (news:List Value),v= .slice (J (ad b off)) n c/\n<=c/\O news=n * z/\(∀(j:Nat) (u:Value),news[j]? =J u->w.cell? (ad b (off+j))=J u)/\DRx G w cs news:=by
 unfold rowOf at h;split at h
 .split at h
  next hl=>
   cases h
   rcases hv with ⟨hv|⟨a,hv⟩,h0,h1⟩|⟨b,o,cap,hv,hcap,hd⟩
   .simp_all
   .simp_all
   .obtain ⟨vs,g1,g2,g3⟩:=gl.vals (I:=I) (N:=N) o _ hd
    have:=jg _ _ _ (qx _) g3;exact Or.inr ⟨_,_,cap,vs,hv,hcap,by rw [g1,hl],g2,g1,this.2⟩
  .cases h
 next id z' lo n'=>
  split at h
  next hz=>
   subst hz;split at h
   next vs hvs=>
    split at h
    next cs' hcs=>
     cases h;obtain ⟨hN,cap,rfl,hcap,_⟩:=hv
     rcases Nat.eq_zero_or_pos (n * z') with h0|h0
     .have bJ1:vs=[]:=by
       grind [rd_some]
      subst bJ1;simp [L5] at hcs;subst hcs;exact Or.inr ⟨_,_,cap,[],rfl,hcap,by simp [h0],U,by simp [DRx]⟩
     .obtain ⟨_,xs,g1,g2,g3,g4⟩:=hr.rd hvs h0
      refine Or.inr ⟨_,_,cap,xs,rfl,hcap,g1,g3,?_,?_⟩
      .grind [sx]
      .intro j c hj
       obtain ⟨a,k1,k2⟩:=(sx vs cs hcs).2 j c hj;have hjl:j<O xs:=by
        grind
       refine ⟨xs[j],n5 hjl,?_⟩;have hq:=g4 j a _ k1 (n5 hjl);have IP:=hq.F4 (zh := .none);have ha:a.F4= .d c:=by
        cases a<;>simp [c7.data?] at k2<;>subst k2<;>rfl
       simp_all [VR]
    .cases h
   .cases h
  .cases h
 .cases h
def ON {P:Program}{prom:FuncId->Bool}{f:FuncId}{z e:Nat}(hcan:U1 P f=W)
  (hC:∀(ad:Addr) (n c:Nat) (news:List Value) (w:World),O news=n * z->n<=1000000->(∀(j:Nat) (u:Value),news[j]? =J u->w.cell? (ad.add j)=J u)->(∀u∈news,u.oneCell' =W) ->
   Calls P f #[.slice (J ad) n c] w λx w' =>∃v',x= .returned v' /\w'.ownsRow w.heap.size e z v' n news/\Below w.heap.size w w')
  (hN:∀(n c:Nat) (w:World),Calls P f #[.slice K n c] w λx w' =>x= .returned (.slice K 0 0)/\w' =w):bu P prom f (PI z):=by
 refine ⟨hcan,λargs H l v H1 hrun w G I N H9 hp _=>?_⟩;unfold PI at hrun;split at hrun
 .obtain ⟨u,rfl,hu⟩:=kF hp.args
  split at hrun
  next cs hrow=>
   cases hrun
   rcases qS hp.hr hrow hu with ⟨_,rfl,rfl|⟨a,rfl⟩⟩|⟨b,off,c,news,rfl,_,hl,hc,hd⟩
   .refine (hN 0 0 w).mono ?_
    rintro e' w' ⟨rfl,rfl⟩;exact ⟨_,G,I,N,rfl,kA hp (by simp [VR,DR])⟩
   .refine (hC a 0 0 [] w U V U U).mono ?_
    rintro e' w' ⟨v',rfl,hown,hB⟩;refine ⟨_,G,I,N,rfl,kG hp hB (λ_ _=>rfl) (λb hb=>hp.wf b (A3 hB.size hb)) ?_⟩;simp [VR,DR]
    rcases hown.2 with ⟨rfl,_⟩|⟨g,cap,cur,rfl,_⟩
    all_goals simp_all [trivial,A4,gl]
   .refine (hC (ad b off) 0 c news w hl V (λj u hj=>M) hd.Ff).mono ?_
    rintro e' w' ⟨v',rfl,hown,hB⟩;refine ⟨_,G,I,N,rfl,kG hp hB (λ_ _=>rfl) (λb hb=>hp.wf b (A3 hB.size hb)) ?_⟩;simp [VR,DR]
    rcases hown.2 with ⟨rfl,_⟩|⟨g,cap,cur,rfl,_⟩
    all_goals simp_all [trivial,A4,gl]
  next n cs hrow=>
   split at hrun
   .cases hrun
    rcases qS hp.hr hrow hu with ⟨h0,_⟩|⟨b,off,c,news,rfl,_,hl,hc,hd⟩
    .cases h0
    .refine (hC (ad b off) (n+1) c news w hl V (λj u hj=>by simp_all [aX]) hd.Ff).mono ?_
     rintro e' w' ⟨v',rfl,hown,hB⟩;obtain ⟨G',hG,hwf',hv'⟩:=IZ (I:=I) (N:=N) hown hB hp.wf hd;exact ⟨_,G',I,N,rfl,kG hp hB hG hwf' hv'⟩
   .cases hrun
  .cases hrun
 .cases hrun
def Pb {P:Program}{prom:FuncId->Bool}{f:FuncId}{z e:Nat}(hcan:U1 P f=W)
  (hG:∀(n:Nat) (w:World),0<n->n<=1000000->Calls P f #[.slice K 0 0,.int .i64 n] w λx w' =>∃(cap:Nat) (c:Array Value),x= .returned (.slice (J ⟨w.heap.size,0,K⟩) 0 cap)/\w' =w.drew.alloc (.cells c e)/\c.size=cap * z):bu P prom f (Ja z):=by
 refine ⟨hcan,λargs H l v H1 hrun w G I N H9 hp _=>?_⟩;unfold Ja at hrun;split at hrun
 next n=>
  split at hrun
  .cases hrun
   obtain ⟨m,rfl⟩:∃m:Nat,n=m:=⟨n.toNat,V⟩;have ha:=hp.args;simp [J5,VR,DR] at ha;have hv:H9= #[.slice K 0 0,.int .i64 m]:=by
    grind
   subst hv;refine (hG m w V V).mono ?_;rintro e' w' ⟨cap,c,rfl,rfl,hc⟩;have hN:kE w (w.drew.alloc (.cells c e)) (.cells c e):=(kE.alloc w (.cells c e)).drew (w.drawn+1) (Nat.le_succ _);refine ⟨_,gR G w.heap.size (.grow 0 .ret),I,N,rfl,?_,hN.hr hp.wf _ (λ_ _=>rfl) (λ_ h=>h) hp.hr,hN.wf hp.wf _,hN.ext hp.wf _,hN.ew hp.wf _ _,λ_ _ _=>rfl,λ_ h=>h,λ_ _ h=>h,hp.bY,λ_ o' _ ho=>Or.inr ⟨o',ho,o6 _⟩,hp.W9⟩;exact ⟨U,Or.inr ⟨U,w.heap.size,0,cap,c,e,_,rfl,A4 _,hN.new,V,og _,U,by simp [gl]⟩⟩
  .cases hrun
 .cases hrun
end
end Go.B3
namespace Go.Proofs.YtibjocmpkoepoaaGreat
open Go.RowKit Go.Maps Go.B3 Go.Sort Go.Proofs
theorem Cp:∀ps:List (Int×Int),EW ps=ps.flatMap U0.vals
 |[]=>rfl
 |(a,b)::r=>by rw [EW,Cp r];rfl
theorem Gl:∀(ps:List (Int×Int)) (i:Nat) (d:B3.Data),(bt ps)[i]? =J d->∃u,(EW ps)[i]? =J u/\∀G w,DR G w d u
 |[],i,d,h=>by simp [bt] at h
 |(a,b)::r,0,d,h=>by simp [bt] at h;subst h;exact ⟨_,rfl,λG w=>by simp [DR]⟩
 |(a,b)::r,1,d,h=>by simp [bt] at h;subst h;exact ⟨_,rfl,λG w=>by simp [DR]⟩
 |(a,b)::r,i+2,d,h=>by
  simp only [bt,List.getElem?_cons_succ] at h;simpa only [EW,List.getElem?_cons_succ] using Gl r i d h
theorem qO:∀l:List (Int×Int),O (bt l)=O l * 2
 |[]=>rfl
 |q::l=>by simp only [bt,q7,qO l];omega
theorem RC {G:Gh}{I:T0}{N:Nat->Prop}{w:World}:∀(es:List (Key×c7)) (ks:List (Int×Int)) (arr:List MapEntry),CD es=J ks->ER G I N w es arr->arr.map (·.key)=ks.map pv
 |[],ks,arr,h,hE=>by
  simp [CD] at h;simp [ER] at hE;subst h hE;rfl
 |(k,v)::r,ks,arr,h,hE=>by
  simp only [ER] at hE;obtain ⟨e,es',rfl,h1,_,h3⟩:=hE;unfold CD at h;split at h
  .rename_i heq;cases heq
  next a b v' r' heq=>
   cases heq;split at h
   next l hl=>
    cases h;rw [M8,RC _ l es' hl h3,h1];rfl
   .cases h
  .cases h
def ZG (m:Nat)(v:Value)(ps:List U0)(d8:World)(hlen:O ps<=1000000)(hrow:d8.ownsRow m 44 2 v (O ps) (EW ps)):Calls Tryz.prog 89 #[v,.func (.func 118) #[] #[]] d8 λe W' =>
   e= .returned (.tuple #[])/\W'.ownsRow m 44 2 v (O ps) (EW (sortP ps))/\d8.grownBy W' v.ownBlock:=by
 obtain ⟨hl,⟨rfl,h0⟩|⟨g,cap,cur,rfl,hg,hh,hc1,pG,hc3,hc4⟩⟩:=hrow
 .have hp0:ps=[]:=List.length_eq_zero_iff.1 h0
  subst hp0;have h:=AnyF.slices_SortFunc_none (P:=Tryz.prog) (ρ:=Tryz.sortP_ren) { Tryz.sortP with } K 0 (.func (.func 118) #[] #[]) d8;refine h.mono ?_;rintro e W' ⟨rfl,rfl⟩;exact ⟨rfl,by rw [show sortP []=([]:List U0) from rfl];exact World.ownsRow_nil _ _ _ _,World.grownBy.refl _ _⟩
 .have hlt:g<d8.heap.size:=by
   rcases x9 g d8.heap.size with h|h
   .exact h
   .rw [Array.getElem?_eq_none h] at hh;cases hh
  have hsz:O (sortP ps)=O ps:=iO ps;have hcell:∀j,j<O ps * 2->cur[j]? =(EW ps)[j]? :=λj hj=>by
   rw [<- hc4,List.getElem?_take,if_pos hj];simp
  refine (av0 g 0 cap ps d8 ?_ hlt V).mono ?_
  .unfold HoldsK
   rw [iF U0.vals 2 (λ_=>rfl),<- Cp];intro j hj;have hj' :j<O (EW ps):=by simpa using hj
   have hj2:j<O ps * 2:=by rw [<- iE];exact hj'
   constructor
   .show d8.cell? ⟨g,0+j,K⟩=_
    simp only [World.cell?,hh,Nat.zero_add];rw [hcell j hj2];simp [hj']
   .show d8.frozen? ⟨g,0+j,K⟩=_
    simp only [World.frozen?,hh];simp
  .rintro e W' ⟨rfl,n,os,rfl⟩
   have hR:=kY _root_.id d8 n g 0 (EW (sortP ps)) os;rw [List.map_id] at hR;unfold putRowK;rw [iF U0.vals 2 (λ_=>rfl),<- Cp];obtain ⟨W',hW⟩:∃W',grow (putRow _root_.id (Sort.ahead d8 n) g 0 (EW (sortP ps)).toArray) os=W' :=⟨_,rfl⟩;rw [hW] at hR ⊢;obtain ⟨c',g1,g2,g3,g4⟩:=hR.here cur 44 (0,0) hh;refine ⟨rfl,⟨by rw [iE,hsz],.inr ⟨g,cap,c',rfl,hg,g1,hc1,pG,V,?_⟩⟩,⟨hR.os,hR.tape,hR.output,hR.size,λk hk hne=>hR.other k hk (λe=>hne (by rw [e];rfl))⟩⟩;apply List.ext_getElem?;intro j;rw [List.getElem?_take];split
   next hj=>
    have hj' :j<O (EW (sortP ps)):=by rw [iE,hsz];exact hj
    have:=g4 j _ V (n5 hj');rw [Nat.zero_add] at this;rw [n5 hj',<- this];simp
   next hj=>
    rw [List.getElem?_eq_none];rw [iE,hsz];omega
theorem aO2 (prom:FuncId->Bool):bu Tryz.prog prom 63 Jb:=by
 refine ⟨by kernel_rfl,λargs H l v H1 hrun w G I N H9 hp _=>?_⟩;unfold Jb at hrun;split at hrun
 next id=>
  split at hrun
  next es hes=>
   split at hrun
   next ks hks=>
    split at hrun
    next hlen=>
     cases hrun;obtain ⟨x,rfl,hv⟩:=kF hp.args;simp only [VR] at hv;obtain ⟨hN,rfl⟩:=hv;have hO:=hp.hr id _ hes;simp only [OR] at hO;obtain ⟨_,arr,gO,h1,_,hE,hB⟩:=hO;have hk:=RC es ks arr.toList hks hE;refine (zy (I id).1 arr gO ks (sortP ks) w h1 hB.old hB.nodup hk hlen ?_).mono ?_
     .intro v ps d8 hown Lh
      have:=Lh.length_eq;rw [<- Fm Lh];exact ZG _ v ps d8 V hown
     .rintro e w' ⟨v,rfl,hown,hBl⟩
      obtain ⟨G',hG,hwf',hv'⟩:=IZ (I:=I) (N:=N) (cs:=bt (sortP ks)) hown hBl hp.wf ⟨by rw [iE,qO],λj c hj=>by
       obtain ⟨u,u1,u2⟩:=Gl (sortP ks) j c hj;exact ⟨u,u1,u2 _ _⟩⟩
      exact ⟨_,G',I,N,rfl,kG hp hBl hG hwf' hv'⟩
    .cases hrun
   .cases hrun
  .cases hrun
 .cases hrun
end Go.Proofs.YtibjocmpkoepoaaGreat
namespace Go.Proofs.YtibjocmpkoepoaaGreat
open Go.RowKit Go.Lib
def ay9 {T E S i4:Nat}{d7:Value}(hT:Tryz.prog.underlying T=J (.slice E))(hI:(Tryz.prog.info? E).map (λi=>(i.zero,i.size,i.bytes))=J (J d7,S,i4))(hZ:d7.cells.size=S)(hS:0<S)(hB:i4<=16)(n:Nat)(w:World)(h0:0<n)(hn:n<=1000000):∃G c0,0+n<=G/\G<=9223372036854775807/\c0.size=G * S /\
  ∀ty,(Builtin.append_ #[T,3] ty #[.slice K 0 0,.int .i64 (n:Int)]).run Tryz.prog w= .ok (.slice (J ⟨w.heap.size,0,K⟩) (0+n) G) (w.drew.alloc (.cells c0 E)):=by
 obtain ⟨i0,hi,hz0,hz1,Pn⟩:=info_parts hI;have hGn:0+n<=grownCap w (0+n) 0 E:=grownCap_ge w _ _ _;have hm:=grownCap_le_maxLen w (0+n) 0 E (by unfold maxLen;omega);unfold maxLen at hm;have hb:n * i4<=1000000 * 16:=Nat.mul_le_mul hn hB;refine ⟨_,_,hGn,V,?_,λty=>Lib.run_append_grow_zeros w T 3 ty E i0 d7 .i64 .i64 hT Tryz.underlying3 hi hz0 K 0 0 [] (run_firstCells_none w.drew i0.size 0 0 0) n h0 V V V (by rw [Pn];omega) (growslice_fits V (by rw [Pn,Nat.zero_add];omega))⟩;simp only [Array.size_append,size_zeroCells,hZ];have:=Nat.add_mul (0+n) (grownCap w (0+n) 0 E - (0+n)) S;rw [Nat.add_sub_cancel' hGn] at this;simp at this ⊢;omega
set_option maxRecDepth 100000 in
set_option maxHeartbeats 4000000 in
theorem am1 (n:Nat)(w:World)(h0:0<n)(hn:n<=1000000):Calls Tryz.prog 226 #[.slice K 0 0,.int .i64 n] w λe w' =>∃(cap:Nat) (c:Array Value),e= .returned (.slice (J ⟨w.heap.size,0,K⟩) 0 cap)/\w' =w.drew.alloc (.cells c 44)/\c.size=cap * 2:=by
 have h1:¬ ((n:Int)<0):=V
 have h2:wrap64 ((0:Int) - 0)=0:=by unfold wrap64;omega
 have h3:wrap64 ((n:Int) - 0)=(n:Int):=by unfold wrap64;omega
 have h4:(n:Int)>0:=V
 obtain ⟨G,c0,hGn,bE6,hsz,hrz⟩:=ay9 (d7:= .agg #[.int .i64 0,.int .i64 0]) (S:=2) (i4:=16) Tryz.underlying49 (by kernel_rfl) rfl V V n w h0 hn
 go_enter Tryz.func226,Tryz.ntmps226
 go_wp2_with (at_builtin;refine Lib.wpList_append_run _ rfl _ _ _ _ rfl _ _ rfl rfl _ _ (hrz _) ?_)
 all_goals (go_ret;exact ⟨G,rfl,c0,rfl,by first|exact hsz|omega⟩)
set_option maxRecDepth 100000 in
set_option maxHeartbeats 4000000 in
theorem am2 (n:Nat)(w:World)(h0:0<n)(hn:n<=1000000):Calls Tryz.prog 279 #[.slice K 0 0,.int .i64 n] w λe w' =>∃(cap:Nat) (c:Array Value),e= .returned (.slice (J ⟨w.heap.size,0,K⟩) 0 cap)/\w' =w.drew.alloc (.cells c 3)/\c.size=cap * 1:=by
 have h1:¬ ((n:Int)<0):=V
 have h2:wrap64 ((0:Int) - 0)=0:=by unfold wrap64;omega
 have h3:wrap64 ((n:Int) - 0)=(n:Int):=by unfold wrap64;omega
 have h4:(n:Int)>0:=V
 obtain ⟨G,c0,hGn,bE6,hsz,hrz⟩:=ay9 (d7:= .int .i64 0) (S:=1) (i4:=8) Tryz.underlying22 (by kernel_rfl) rfl V V n w h0 hn
 go_enter Tryz.func279,Tryz.ntmps279
 go_wp2_with (at_builtin;refine Lib.wpList_append_run _ rfl _ _ _ _ rfl _ _ rfl rfl _ _ (hrz _) ?_)
 all_goals (go_ret;exact ⟨G,rfl,c0,rfl,by first|exact hsz|omega⟩)
end Go.Proofs.YtibjocmpkoepoaaGreat
namespace Go.Proofs.YtibjocmpkoepoaaGreat
open Go.B3 Go.Sort Go.Proofs
def US (w:World):Calls Tryz.prog 279 #[.slice K 0 0,.int .i64 0] w λe w' =>e= .returned (.slice K 0 0)/\w' =w:=by
 go_wp2
 all_goals (go_ret;simp_all)
theorem ar7 (prom:FuncId->Bool):bu Tryz.prog prom 226 (Ja 2):=Pb (by kernel_rfl) am1
theorem ar9 (prom:FuncId->Bool):bu Tryz.prog prom 279 Gk:=UT (by kernel_rfl) US λn w h0 hn=>(am2 n w h0 hn).mono λe w' ⟨cap,c,h1,h2,h3⟩=>⟨cap,c,_,h1,h2,V⟩
theorem ar8 (prom:FuncId->Bool):bu Tryz.prog prom 263 RO :=
 VW (by kernel_rfl) (λblk off cap zs w h1 h2 h3=>Any.slices_Sort_int Tryz.lays189 blk off cap zs w h1 h2 h3) (λp cap w=>Any.slices_Sort_int_none Tryz.lays189 p cap w)
theorem OQ (prom:FuncId->Bool):bu Tryz.prog prom 134 vK :=
 Iv (by kernel_rfl) (λblk off cap zs w h1 h2 h3=>Any.slices_Compact_int Tryz.lays20 blk off cap zs w h1 h2 h3)
def Xa (p:Option Addr)(cap:Nat)(w:World):Calls Tryz.prog 134 #[.slice p 0 cap] w λe w' =>e= .returned (.slice p 0 cap)/\w' =w:=by
 go_wp2
 all_goals (go_ret;simp_all)
theorem ar5 (prom:FuncId->Bool):bu Tryz.prog prom 134 xN:=by
 refine ⟨by kernel_rfl,λargs H l v H1 hrun w G I N H9 hp h0=>?_⟩;unfold xN at hrun;split at hrun
 .cases hrun
  obtain ⟨x,rfl,hv⟩:=kF hp.args;simp [VR,DR] at hv;have key:∃p cap,x= .slice p 0 cap:=by
   grind
  obtain ⟨p,cap,rfl⟩:=key;refine (Xa p cap w).mono ?_;rintro e w' ⟨rfl,rfl⟩;exact ⟨_,G,I,N,rfl,kA hp (by grind [VR,DR,gl])⟩
 .exact (OQ prom).2 _ _ _ _ _ hrun w G I N H9 hp h0
end Go.Proofs.YtibjocmpkoepoaaGreat
namespace Go.Proofs.YtibjocmpkoepoaaGreat
open Go.RowKit Go.Shelf Go.B3
attribute [local go_sem] Oper.semAt_some
def WC (n i4:Nat)(A C:World):Prop:=Below n A C/\∀v,Boxed A i4 39 v->Boxed C i4 39 v
theorem WC.refl (n i4:Nat)(A:World):WC n i4 A A:=⟨Below.refl _ _,λ_ h=>h⟩
theorem WC.trans {n i4:Nat}{A C f9:World}(h:WC n i4 A C)(k:WC n i4 C f9):WC n i4 A f9:=⟨h.1.trans k.1,λv hv=>k.2 v (h.2 v hv)⟩
def Xj (x:Nat×V5):Array Value:= #[.int .i64 (x.1:Int),.agg (V5.vals x.2).toArray]
def bkF (zs:List V5)(k:Nat):Nat×V5:=(O zs - 1 - k,zs.getD (O zs - 1 - k) default)
def mc (zs:List V5)(k:Nat):List (Nat×V5):=(List.range k).map (bkF zs)
def DS (zs:List V5)(k:Nat):mc zs (k+1)=mc zs k++[bkF zs k]:=by simp [mc,List.range_succ]
def wk (zs:List V5)(k:Nat):O (mc zs k)=k:=by simp [mc]
def WA (d8:World)(b off:Nat)(zs:List V5):Prop:=∀j,j<O zs->∀(i:Nat) (u:Value),(V5.vals (zs.getD j default))[i]? =J u->d8.cell? ⟨b,off+j * 5+i,K⟩=J u
set_option maxRecDepth 100000 in
set_option maxHeartbeats 2000000 in
def aW4 (d9:Fence)(n:Nat)(h53:d9.fn 174)(hro:d9.round=K)(hn:1<=n)(l Bs n₀ b off cap:Nat)(zs:List V5)(XS:O zs<=1000000)(hb:0<O zs->b<n₀)(d4 Jx:List (Nat×V5)->World->Prop)
  (hY:∀pre x d8,d4 pre d8->O pre<O zs->YieldAt d9 (n - 1) Tryz.prog l (Xj x) d8 λe W' =>
   (e= .returned (.bool W)/\d4 (pre++[x]) W' /\WC n₀ Bs d8 W')\/(e= .returned (.bool F)/\Jx (pre++[x]) W'))
  (d8:World) (hBs:Boxed d8 Bs 39 (.slice (J ⟨b,off,K⟩) (O zs) cap)) (hc:WA d8 b off zs) (h0:d4 [] d8) :
  CallsIn d9 n Tryz.prog 174 #[.func (.yield l) #[] #[],.pointer (J ⟨Bs,0,K⟩)] d8 λe W' =>(∃v,e= .returned v) /\
   ((∃ys,ys=mc zs (O zs)/\d4 ys W')\/(∃pre,(∃k,k<=O zs/\pre=mc zs k)/\Jx pre W')):=by
 have hlen:(O zs:Int)<=9223372036854775807:=V
 have cl7:=hBs.cell;refine callsIn_of_wp Tryz.func174 rfl h53 ?_ hro;simp only [Tryz.ntmps174,List.size_toArray,q7,I8,Nat.reduceAdd,Nat.reduceSub,Array.replicate_succ,Array.replicate_zero,List.push_toArray,List.append_toArray,J7,G9]
 gi_wp2
 gi_loopw [3] (λi wr=>∃m k:Nat,m+k=O zs/\i= .int .i64 ((m:Int) - 1)/\d4 (mc zs k) wr/\WC n₀ Bs d8 wr)
  (λi _=>(intOf i+1).toNat)
 case atStart=>exact ⟨O zs,0,rfl,rfl,h0,WC.refl _ _ _⟩
 case round =>
  obtain ⟨m,k,hmk,rfl,hJs,hnx⟩:=hrel
  rcases m with _|m
  .have e:((0:Nat):Int) - 1= -1:=rfl
   rw [e];obtain rfl:k=O zs:=V
   gi_wp2
   go_end0
   exact ⟨⟨_,rfl⟩,.inl ⟨_,rfl,hJs⟩⟩
  .have e:((m+1:Nat):Int) - 1=m:=V
   rw [e];have hm0:(0:Int)<=(m:Int):=V
   have hml:m<O zs:=V
   obtain ⟨f,hf⟩:∃f,zs.getD m default=f:=⟨_,rfl⟩;have hbk:Xj (bkF zs k)= #[.int .i64 (m:Int),.agg (V5.vals f).toArray]:=by
    have:O zs - 1 - k=m:=V
    unfold Xj bkF;rw [this,hf]
   have hb1:=hb V;have Ri:∀(i:Nat) (u:Value),(V5.vals f)[i]? =J u->wr.cell? ⟨b,off+m * 5+i,K⟩=J u:=λi u hu=>(hnx.1.cell (p:=⟨b,off+m * 5+i,K⟩) hb1).trans (hc m hml i u (by rw [hf];exact hu))
   have c0:wr.cell? ⟨b,off+m * 5,K⟩=J (.int .i64 f.src.1):=Ri 0 _ rfl;have c1:wr.cell? ⟨b,off+m * 5+1,K⟩=J (.int .i64 f.src.2):=Ri 1 _ rfl;have c2:wr.cell? ⟨b,off+m * 5+2,K⟩=J (.int .i64 f.dst.1):=Ri 2 _ rfl;have c3:wr.cell? ⟨b,off+m * 5+3,K⟩=J (.int .i64 f.dst.2):=Ri 3 _ rfl;have c4:wr.cell? ⟨b,off+m * 5+4,K⟩=J (.bool f.dat):=Ri 4 _ rfl;clear Ri;have cl6 :=(hnx.2 _ hBs).cell;obtain ⟨fn,tmps,assign,body,hy,hR⟩:=hY _ (bkF zs k) wr hJs (by rw [wk];omega);rw [hbk] at hy;simp only [V5.vals] at hy;clear e
   gi_wp2
   refine hR.mono ?_;rintro e W3 (⟨rfl,hJ3,hk3⟩|⟨rfl,bE8⟩)
   .gi_wp2
    go_roundw
    case rel=>exact ⟨m,k+1,V,rfl,by rw [DS];exact hJ3,hnx.trans hk3⟩
    case measure=>simp [intOf]
   .gi_wp2
    refine bodyPost_ret (results_none rfl _ _ _) rfl ?_;exact ⟨⟨_,rfl⟩,.inr ⟨_,⟨k+1,V,by rw [DS]⟩,bE8⟩⟩
set_option maxRecDepth 100000 in
set_option maxHeartbeats 1000000 in
def Uu (d9:Fence)(n:Nat)(h53:d9.fn 174)(hro:d9.round=K)(l Bs:Nat)(a:Option Addr)(cap:Nat)(d4:List (Nat×V5)->World->Prop)(d8:World)(hBs:d8.cell? ⟨Bs,0,K⟩=J (.slice a 0 cap))(h0:d4 [] d8) :
  CallsIn d9 n Tryz.prog 174 #[.func (.yield l) #[] #[],.pointer (J ⟨Bs,0,K⟩)] d8 λe W' =>(∃v,e= .returned v)/\d4 [] W' :=by
 refine callsIn_of_wp Tryz.func174 rfl h53 ?_ hro;simp only [Tryz.ntmps174,List.size_toArray,q7,I8,Nat.reduceAdd,Nat.reduceSub,Array.replicate_succ,Array.replicate_zero,List.push_toArray,List.append_toArray,J7,G9]
 gi_wp2
 gi_loopw [3] (λi wr=>i= .int .i64 (-1)/\d4 [] wr) (λ_ _=>0)
 case atStart=>exact ⟨rfl,h0⟩
 case round =>
  obtain ⟨rfl,hJs⟩:=hrel
  gi_wp2
  go_end0
  exact ⟨⟨_,rfl⟩,hJs⟩
set_option maxHeartbeats 1000000 in
def ak4 (d9:Fence)(n:Nat)(h21:d9.fn 117)(hro:d9.round=K)(a:Option Addr)(len cap:Nat)(w:World) :
  CallsIn d9 n Tryz.prog 117 #[.slice a len cap] w λe w' =>e= .returned (.func (.func 174) #[] #[.pointer (J ⟨w.heap.size,0,K⟩)])/\w' =w.alloc (.cells #[.slice a len cap] 39):=by
 refine callsIn_of_wp Tryz.func117 rfl h21 ?_ hro;simp only [Tryz.ntmps117,List.size_toArray,q7,I8,Nat.reduceAdd,Nat.reduceSub,Array.replicate_succ,Array.replicate_zero,List.push_toArray,List.append_toArray,J7,G9]
 gi_wp2
 go_ret
 exact ⟨rfl,rfl⟩
def Ie (n₀:Nat)(d8:World)(sv:Value)(zs:List V5):Prop :=
 ((∃a cap,sv= .slice a 0 cap)/\zs=[])\/∃b off cap,sv= .slice (J ⟨b,off,K⟩) (O zs) cap/\(0<O zs->b<n₀)/\WA d8 b off zs
def OF (d9:Fence)(n:Nat)(h53:d9.fn 174)(hro:d9.round=K)(hn:1<=n)(Bs n₀:Nat)(sv:Value)(zs:List V5)(XS:O zs<=1000000)(w:World)(hB1:Bs<w.heap.size)(hn₀:n₀<=w.heap.size)
  (hc:Boxed w Bs 39 sv) (hI:Ie n₀ w sv zs) :
  SeqStopsK d9 n Tryz.prog 174 #[.pointer (J ⟨Bs,0,K⟩)] Xj (WC n₀ Bs) (λys=>ys=mc zs (O zs))
   (λpre=>∃k,k<=O zs/\pre=mc zs k) (O zs) w:=λl d4 Jx d8 hW _ _ hY h0=>by
 have uw :Boxed d8 Bs 39 sv:=(hW.block Bs V).trans hc
 rcases hI with ⟨⟨a,cap,rfl⟩,rfl⟩|⟨b,off,cap,rfl,hb,hcs⟩
 .exact (Uu d9 n h53 hro l Bs a cap d4 d8 uw.cell h0).mono λe W' ⟨he,hj⟩=>⟨he,.inl ⟨_,rfl,hj⟩⟩
 .exact aW4 d9 n h53 hro hn l Bs n₀ b off cap zs XS hb d4 Jx hY d8 uw (λj hj i u hu=>(hW.cell (p:=⟨b,off+j * 5+i,K⟩) (by have:=hb V;show b<_;omega)).trans (hcs j hj i u hu)) h0
def WQ (w:World)(cs:Array Value)(t:TypeId){k:Nat}(hk:k=w.heap.size):∀j u,cs.toList[j]? =J u->(w.alloc (.cells cs t)).cell? ((⟨k,0,K⟩:Addr).add j)=J u:=by
 intro j u hj;subst hk;have h:=heap_alloc_new w (.cells cs t);have e:(w.alloc (.cells cs t)).cell? ⟨w.heap.size,0+j,K⟩=cs[0+j]? :=by
  unfold World.cell?;rw [h];rfl
 have e2:(⟨w.heap.size,0,K⟩:Addr).add j=⟨w.heap.size,0+j,K⟩:=by
  unfold Addr.add;split
  next h0=>
   rw [h0]
  .rfl
 rw [e2,e,Nat.zero_add];simpa using hj
theorem aL3:(Tryz.prog.info? 46).map (λi=>(i.zero,i.size,i.bytes))=J (J (.agg #[.int .i64 0,.int .i64 0,.int .i64 0,.int .i64 0,.bool F]),5,40):=by kernel_rfl
def Zg (pre:List (Nat×V5)):List Value:=pre.flatMap λx=>V5.vals x.2.rev
def Zh (zs:List V5):Zg (mc zs (O zs))=(zs.map V5.rev).reverse.flatMap V5.vals:=by
 have e:(mc zs (O zs)).map (λx=>x.2.rev)=(zs.map V5.rev).reverse:=by
  apply List.ext_getElem?;intro i
  rcases x9 i (O zs) with hi|hi
  .rw [List.getElem?_reverse (by simpa using hi)]
   have h1:O zs - 1 - i<O zs:=V
   simp only [mc,bkF,List.map_map,List.getElem?_map,List.getElem?_range hi,C6,C5,n5 h1,Function.comp,List.getD_eq_getElem?_getD,Option.getD_some]
  .rw [List.getElem?_eq_none (by simp [mc];exact hi),List.getElem?_eq_none (by simp;exact hi)]
 rw [<- e];unfold Zg;rw [List.flatMap_map]
def AtF (w:World)(sv:Value)(x:Nat×V5)(a:Act)(d8:World):Prop:=∃q:Nat,d8.heap[q]? =J (.cells (V5.vals x.2).toArray 46 (0,0)) /\
 a={ tmps:= #[sv,undef,.slice K 0 0,.pointer (J ⟨w.heap.size,0,K⟩),undef,.pointer (J ⟨q,0,K⟩),sv,.func (.func 174) #[] #[.pointer (J ⟨w.heap.size+1,0,K⟩)],.int .i64 (x.1:Int),.agg (V5.vals x.2).toArray,undef,undef,undef,undef,undef,undef,undef,undef,undef,undef,undef],defers:=[] }
def ak3 (w:World)(sv:Value)(x:Nat×V5)(a:Act)(i4:Nat):OwnFrom i4 (λ(_:Unit) d8=>AtF w sv x a d8):=λ_ X d6 row ⟨q,hq,ha⟩ hg hrow=>by
 refine ⟨q,(hg.block q ?_ λe=>?_).trans hq,ha⟩
 .rcases x9 q X.heap.size with h|h
  .exact h
  .rw [Array.getElem?_eq_none h] at hq;cases hq
 .obtain ⟨_,o,ho,hc⟩:=hrow q e.symm
  rw [hq] at ho;cases ho;cases hc
set_option maxRecDepth 100000 in
set_option maxHeartbeats 4000000 in
theorem Fi (w:World)(sa:Option Addr)(sc:Nat)(zs:List V5)(hlen:O zs<=1000000)(hI:Ie w.heap.size w (.slice sa (O zs) sc) zs) :
  Calls Tryz.prog 62 #[.slice sa (O zs) sc] w λe w' =>∃v,e= .returned v/\w'.ownsRow w.heap.size 46 5 v (O zs) ((zs.map V5.rev).reverse.flatMap V5.vals)/\Below w.heap.size w w' :=by
 obtain ⟨i0,hi,hz0,hz1,Pn⟩:=info_parts aL3;refine (callsIn_wide (n:=68)).1 ?_;refine callsIn_of_wp_marks Tryz.func62 rfl trivial ?_ rfl;simp only [Tryz.ntmps62,List.size_toArray,q7,I8,Nat.reduceAdd,Nat.reduceSub,Array.replicate_succ,Array.replicate_zero,List.push_toArray,List.append_toArray,J7,G9]
 gi_wp2_with (refine ⟨trivial,?_⟩;gi_at_call 117;refine (ak4 Fence.wide 67 trivial rfl _ _ _ _).mono ?_;rintro e W2 ⟨rfl,rfl⟩)
 have bO:=Boxed.new w 39 (.slice K 0 0);have bN:=Boxed.new (w.alloc (.cells #[.slice K 0 0] 39)) 39 (.slice sa (O zs) sc);rw [World.size_alloc] at bN;have hB0:Below w.heap.size w ((w.alloc (.cells #[.slice K 0 0] 39)).alloc (.cells #[.slice sa (O zs) sc] 39)):=((Below.refl _ w).alloc (o6 _) _).alloc U _;have hI' :Ie w.heap.size ((w.alloc (.cells #[.slice K 0 0] 39)).alloc (.cells #[.slice sa (O zs) sc] 39)) (.slice sa (O zs) sc) zs:=by
  rcases hI with h|⟨b,off,cap,e,hb,hc⟩
  .exact .inl h
  .exact .inr ⟨b,off,cap,e,hb,λj hj i u hu=>(hB0.cell (p:=⟨b,off+j * 5+i,K⟩) (by have:=hb V;show b<_;omega)).trans (hc j hj i u hu)⟩
 obtain ⟨sv,hsv⟩:∃sv,Value.slice sa (O zs) sc=sv:=⟨_,rfl⟩;rw [hsv] at bN hB0 hI' ⊢;obtain ⟨W2,hW2⟩:∃W2,((w.alloc (.cells #[.slice K 0 0] 39)).alloc (.cells #[sv] 39))=W2:=⟨_,rfl⟩;have hs2:W2.heap.size=w.heap.size+2:=by rw [<- hW2];simp
 have bO:=bO.alloc (.cells #[sv] 39);rw [hW2] at bN hB0 hI' bO ⊢;refine wpIn_rangeFunc_ownH rfl (by decide) (gf:=174) (lb:= #[.pointer (J ⟨w.heap.size+1,0,K⟩)]) rfl trivial (enters_of Tryz.func174 (by kernel_rfl) rfl)
  (OF Fence.wide 67 trivial rfl (by decide) (w.heap.size+1) w.heap.size sv zs hlen W2 V V bN hI') WC.trans ?hKb (Below.refl _ _) (λ_=>rfl)
  (λpre d8=>(∃v,Boxed d8 w.heap.size 39 v/\d8.ownsRow w.heap.size 46 5 v (O pre) (Zg pre)/\True)/\Below w.heap.size w d8/\Boxed d8 (w.heap.size+1) 39 sv)
  (λ_ _ _=>False)
  (OwnFrom.and (Own.from (holdsRow_own w.heap.size w.heap.size 39 46 5 (λpre:List (Nat×V5)=>O pre) Zg (λ_ _=>True)) _) (OwnFrom.and (ownFrom_below (o6 _) V) (Own.from (boxed_own (w.heap.size+1) 39 (λ_=>sv)) _)))
  (λ_ _ _ _ _ hs _ _=>hs)
  ⟨⟨_,bO,World.ownsRow_nil _ _ _ _,trivial⟩,hB0,bN⟩
  (AtF w sv) (λx a' =>ak3 w sv x a' _) ?assign ?body ?done ?stop
 case hKb =>
  intro d8 l o o' hl _ _ _;have hlt:l<d8.heap.size:=by
   rename_i ho _ _;exact (Array.getElem?_eq_some_iff.1 ho).1
  exact ⟨(Below.refl _ d8).grown (grownBy_putObj' d8 l o') V λk e=>by cases e;omega,λv hv=>hv.kept (grownBy_putObj' d8 l o') λe=>by cases e;omega⟩
 case assign =>
  intro l pre x d8 d5 hI2 hK;unfold Xj;simp only [V5.vals]
  gi_wp2
  obtain ⟨⟨v,hv,hrow,_⟩,hB,hBs⟩:=hI2;refine hK _ _ ((KeepsOthers.alloc d8 _).from _) ⟨(Below.refl _ d8).alloc hB.size _,λv hv=>hv.alloc _⟩ ⟨⟨v,hv.alloc _,hrow.alloc _,trivial⟩,hB.alloc hB.size _,hBs.alloc _⟩ ⟨d8.heap.size,heap_alloc_new _ _,rfl⟩
 case body =>
  rintro l pre x a' d8 hl hr ⟨⟨v,hv,hrow,_⟩,hB,hBs⟩ ⟨q,hq,rfl⟩ hlt;have hc:=hv.cell;have q0:d8.cell? ⟨q,0,K⟩=J (.int .i64 x.2.src.1):=by simp [World.cell?,hq,V5.vals]
  have q1:d8.cell? ⟨q,1,K⟩=J (.int .i64 x.2.src.2):=by simp [World.cell?,hq,V5.vals]
  have q2:d8.cell? ⟨q,2,K⟩=J (.int .i64 x.2.dst.1):=by simp [World.cell?,hq,V5.vals]
  have q3:d8.cell? ⟨q,3,K⟩=J (.int .i64 x.2.dst.2):=by simp [World.cell?,hq,V5.vals]
  have q4:d8.cell? ⟨q,4,K⟩=J (.bool x.2.dat):=by simp [World.cell?,hq,V5.vals]
  gi_wp2_with (gi_at_builtin;go_loud (refine wpListIn_append_own _ rfl _ _ 39 rfl w.heap.size 46 i0 _ 5 40 Tryz.underlying39 hi hz0 hz1 Pn rfl (by decide) _ _ _ rfl (hrow.alloc _) ⟨d8.heap.size,0,K⟩ 1 1 (V5.vals x.2.rev) rfl rfl (WQ _ _ _ rfl) (by simp [Value.oneCell',V5.vals]) (by simp [maxLen];omega) V (by have:=hB.size;simp;omega) ?_;intro v' w1 hown' hgrow _;obtain ⟨g',cap',rfl⟩:=ownsRow_succ hown';obtain ⟨hv1,hv2,Va,hk2,hb2⟩:=hv.appended (by decide) hrow hB.size (o6 _) hown' hgrow;have hc1:=hv1.cell;have hf1:=hv1.frozen))
  have hk:∀u,Boxed d8 (w.heap.size+1) 39 u->Boxed (w1.setCell ⟨w.heap.size,0,K⟩ (.slice (J ⟨g',0,K⟩) (O pre+1) cap')) (w.heap.size+1) 39 u:=λu hu=>((hu.alloc _).kept hgrow (hu.not_row (by decide) hrow)).other V _
  exact ⟨hk2.from _,⟨hb2,hk⟩,⟨_,hv2,by simpa [Zg] using Va,trivial⟩,hB.trans hb2,hk _ hBs⟩
 case done =>
  rintro f9 ys d8 hD rfl ⟨⟨v,hv,hrow,_⟩,hB,_⟩ hK;have hc:=hv.cell;rw [wk,Zh] at hrow
  gi_wp2
  refine ⟨U,.inl ⟨_,_,rfl,run_takeDeferred hK,?_⟩⟩;exact ⟨_,results_tmp rfl _ _ _,v,rfl,ownsRow_putObj hrow _ hK rfl,hB.grown (grownBy_putObj' d8 f9 _) hB.size λk e=>by cases e;omega⟩
 case stop =>
  rintro f9 c pre d8 _ _ h _;exact h.elim
end Go.Proofs.YtibjocmpkoepoaaGreat
namespace Go.Proofs.YtibjocmpkoepoaaGreat
open Go.RowKit Go.B3
def aa8 (fs:List V5):∀(j i:Nat) (u:Value),j<O fs->(V5.vals (fs.getD j default))[i]? =J u->(fs.flatMap V5.vals)[j * 5+i]? =J u:=by
 induction fs with
 |nil=>simp_all
 |cons f fs ih =>
  intro j i u hj hu;cases j with
  |zero =>
   grind
  |succ j =>
   simp_all [V5.vals]<;>grind
def UH (fs:List V5){j:Nat}{u:Value}(h:(fs.flatMap V5.vals)[j]? =J u):∃d,(fs.flatMap V5.enc)[j]? =J d/\uH d=J u:=by
 have hj:j<O (fs.flatMap V5.enc):=by
  grind [y9,sy,sA]
 exact ⟨_,n5 hj,nA fs j _ u (n5 hj) h⟩
theorem Qo (fs:List V5){j:Nat}{d:B3.Data}(h:(fs.flatMap V5.enc)[j]? =J d):∃u,(fs.flatMap V5.vals)[j]? =J u/\uH d=J u:=by
 have hj:j<O (fs.flatMap V5.vals):=by
  grind [y9,sA,sy]
 exact ⟨_,n5 hj,nA fs j d _ h (n5 hj)⟩
def Df {prom:FuncId->Bool}{l:H8}{H:n9}{w:World}{G:Gh}{I:T0}{N:Nat->Prop}{args:List c7}{H9:Array Value}(hp:BB l H w G I N args H9)(sa:Option Addr)(sc:Nat)(fs:List V5)(hlen:O fs<=1000000)(hI:Ie w.heap.size w (.slice sa (O fs) sc) fs) :
  Calls Tryz.prog 62 #[.slice sa (O fs) sc] w λe w' =>∃x G' I' N',e= .returned x/\mW l H w G I N (.own 5 (O fs) ((fs.map V5.rev).reverse.flatMap V5.enc)) H x w' G' I' N' :=by
 refine (Fi w sa sc fs hlen hI).mono ?_;rintro e w' ⟨v,rfl,hown,hB⟩;obtain ⟨G',hG,hwf',hv'⟩:=IZ (I:=I) (N:=N) (cs:=(fs.map V5.rev).reverse.flatMap V5.enc) hown hB hp.wf ⟨by rw [sy,sA],λj c hj=>by
  grind [Qo,nL]⟩
 exact ⟨_,G',I,N,rfl,kG hp hB hG hwf' hv'⟩
theorem aO1 (prom:FuncId->Bool):bu Tryz.prog prom 62 aN4:=by
 refine ⟨by kernel_rfl,λargs H l v H1 hrun w G I N H9 hp _=>?_⟩;unfold aN4 at hrun;split at hrun
 .split at hrun
  next n cs hrow=>
   split at hrun
   next fs Wp=>
    split at hrun
    next hn=>
     cases hrun;obtain ⟨rfl,hn⟩:=hn;have hcs:=oD _ _ _ (o6 _) Wp;subst hcs;obtain ⟨y,rfl,hy⟩:=kF hp.args
     rcases qS hp.hr hrow hy with ⟨h0,_,hv⟩|⟨b,off,c,news,rfl,_,hl,hc,hd⟩
     .have hf0:fs=[]:=List.length_eq_zero_iff.1 h0
      subst hf0
      rcases hv with rfl|⟨a,rfl⟩
      .exact Df (prom:=prom) hp K 0 [] hn (.inl ⟨⟨_,_,rfl⟩,rfl⟩)
      .exact Df (prom:=prom) hp (J a) 0 [] hn (.inl ⟨⟨_,_,rfl⟩,rfl⟩)
     .have hnews:∀(j:Nat) (u:Value),(fs.flatMap V5.vals)[j]? =J u->news[j]? =J u:=λj u hu=>by
       obtain ⟨d,d1,d2⟩:=UH fs hu;obtain ⟨u',u1,u2⟩:=hd.2 j d d1;simp_all [nL]
      have hcell:WA w b off fs:=λj hj i u hu=>by
       have:=hc _ _ (hnews _ _ (aa8 fs j i u hj hu))
       grind
      refine Df (prom:=prom) hp (J (ad b off)) c fs hn (.inr ⟨b,off,c,rfl,λh0=>?_,hcell⟩);have:=hcell 0 h0 0 _ rfl
      grind [x9,World.cell?,Array.getElem?_eq_none]
    .cases hrun
   .cases hrun
  .cases hrun
 .cases hrun
end Go.Proofs.YtibjocmpkoepoaaGreat
namespace Go.Proofs.YtibjocmpkoepoaaGreat
open Go.RowKit Go.Lib
theorem ao4:(Tryz.prog.info? 46).map (λi=>(i.zero,i.size,i.bytes))=J (J (.agg #[.int .i64 0,.int .i64 0,.int .i64 0,.int .i64 0,.bool F]),5,40):=by kernel_rfl
set_option maxRecDepth 100000 in
set_option maxHeartbeats 2000000 in
def ak7 (ad:Addr)(n c:Nat)(news:List Value)(w:World)(hl:O news=n * 5)(hn:n<=1000000)(hc:∀(j:Nat) (u:Value),news[j]? =J u->w.cell? (ad.add j)=J u)(h1:∀u∈news,u.oneCell' =W) :
  Calls Tryz.prog 59 #[.slice (J ad) n c] w λe w' =>∃v',e= .returned v' /\w'.ownsRow w.heap.size 46 5 v' n news/\Below w.heap.size w w' :=by
 obtain ⟨i0,hi,hz0,hz1,Pn⟩:=info_parts ao4;have q:∀(w:World) (a:Option Addr) (n c n' c' :Nat),(binOp .eql 39 (.slice a n c) (.slice K n' c')).run Tryz.prog w= .ok (.bool a.isNone) w:=λw a n c n' c' =>Lib.run_eql_slice_nil w _ _ a n c n' c' Tryz.underlying39
 refine (callsIn_wide (n:=68)).1 ?_;refine callsIn_of_wp Tryz.func59 rfl trivial ?_ rfl;simp only [Tryz.ntmps59,List.size_toArray,q7,I8,Nat.reduceAdd,Nat.reduceSub,Array.replicate_succ,Array.replicate_zero,List.push_toArray,List.append_toArray,J7,G9]
 gi_wp2_with (gi_at_builtin;refine wpListIn_append_own _ rfl _ _ 39 rfl w.heap.size 46 i0 (.agg #[.int .i64 0,.int .i64 0,.int .i64 0,.int .i64 0,.bool F]) 5 40 Tryz.underlying39 hi hz0 hz1 Pn rfl (by decide) _ _ _ rfl (World.ownsRow_made w #[] 0 (o6 _) (A4 _) rfl) ad n c news rfl hl ?qc2 h1 ?qc4 ?qc5 ?qc6 ?_)
 case qc2 =>
  intro j u hj;exact Lib.cell?_alloc_some _ (hc j u hj)
 case qc4=>unfold maxLen;omega
 case qc5=>omega
 case qc6=>simp
 intro v' w1 hown hgrow hnil
 gi_wp2
 exact ⟨rfl,_,results_tmp rfl _ _ _,v',rfl,by simpa using hown,((Below.refl _ w).alloc (o6 _) _).grown hgrow U (by intro k hk;simp [Value.ownBlock] at hk;omega)⟩
set_option maxRecDepth 100000 in
set_option maxHeartbeats 2000000 in
def KE (n c:Nat)(w:World):Calls Tryz.prog 59 #[.slice K n c] w λe w' =>e= .returned (.slice K 0 0)/\w' =w:=by
 have q:∀(w:World) (a:Option Addr) (n c n' c' :Nat),(binOp .eql 39 (.slice a n c) (.slice K n' c')).run Tryz.prog w= .ok (.bool a.isNone) w:=λw a n c n' c' =>Lib.run_eql_slice_nil w _ _ a n c n' c' Tryz.underlying39
 refine (callsIn_wide (n:=68)).1 ?_;refine callsIn_of_wp Tryz.func59 rfl trivial ?_ rfl;simp only [Tryz.ntmps59,List.size_toArray,q7,I8,Nat.reduceAdd,Nat.reduceSub,Array.replicate_succ,Array.replicate_zero,List.push_toArray,List.append_toArray,J7,G9]
 gi_wp2
 exact ⟨rfl,_,results_tmp rfl _ _ _,rfl,rfl⟩
end Go.Proofs.YtibjocmpkoepoaaGreat
namespace Go.B3.S
section
variable {A:Prog} {l:H8} {b:Nat} {dr:Bool} {j9 ops:List o4} {T:List c7} {H:n9} {n:Nat} {rl:List c7} {o5:List Touch} {Q:List c7->n9->List c7->Prop}
def nlp {x:z6}{u:List Nat}{neg:Bool}{m:Nat}{cs:List Data}(hm:0<m)(h2:Ry A l b dr j9 ops T H (n+1) (.d (.bool neg)::rl) o5 Q)(hx:rq T n rl x= .d (.slice m cs):=by rfl) :
  Ry A l b dr j9 (⟨.AJ neg x,K,K,u⟩::ops) T H n rl o5 Q :=
 Ry.pure (rs:=[]) rfl (by
  have h1:¬ m=0:=V
  simp [l8,hx,h1]) h2
end
end Go.B3.S
namespace Go.Proofs.YtibjocmpkoepoaaGreat
open Go.B3 Go.B3.S
attribute [local irreducible] Rx Ry Rn Ex Pf
def a59zz:q6:=⟨1,[0,2],(.seq (.region [⟨.S1 (.const .H7),(some 1),none,[]⟩] false) (.seq (.test [⟨.S1 (.slot 0),none,none,[]⟩,⟨.AJ false (.loc 0),none,none,[]⟩] false (.loc 1) (.seq (.region [⟨.S1 (.const .H7),(some 1),none,[]⟩] false) .ret) .skip) (.seq (.region [⟨.J3 5 0 [] [] true,none,none,[]⟩,⟨.S1 (.slot 0),none,none,[]⟩,⟨.append 5 40 true (.loc 0) (.loc 1),none,none,[]⟩,⟨.S1 (.loc 2),(some 1),none,[]⟩] false) .ret))),[.slot 1],true⟩
def AC:Prog:=⟨λf=>if f=59 then some a59zz else K,λ_=>F,A.mode,λ_=>K⟩
theorem aV5:qg Tryz.prog AC where
 idle _ h:=by cases h
 gQ _ _ h:=by cases h
 fn f af _ h:=by
  have h2:jU Tryz.prog Tryz.f59 a59zz=W:=by kernel_rfl
  simp only [AC] at h;split at h
  next hf=>
   subst hf;cases h;exact ⟨_,Tryz.func59,h2⟩
  .cases h
set_option maxHeartbeats 4000000 in
def bC0 (a b:List c7)(h0:K1 2 a=a)(h1:K1 2 b=b)(k:Nat)(cs:List B3.Data)(hl:O cs=k * 5)(hn:k<=1000000)(hp:0<k):Pm AC 59 [.d (.slice k cs)] [.cells a,.cells b] Q9 (.s5 2 5 0 k) [.cells a,.cells b,.cells (cs.map .d)]:=by
 suffices h:Pq AC 59 [.d (.slice k cs)] [.cells a,.cells b] Q9 λv H1=>v= .s5 2 5 0 k/\H1=[.cells a,.cells b,.cells (cs.map .d)] by
  obtain ⟨v,H1,⟨rfl,rfl⟩,h⟩:=h;exact h
 refine Pq.run (b:=2) [.d (.slice k cs),.any] rfl rfl rfl rfl rfl ?_
 repeat' (first|refine mn (h2:=?_)|refine gx ?_|fail)
 refine tB (F) ?_ (λh=>?_) (λh=>?_)
 .repeat' (first|refine nlp hp ?_|refine gx ?_|refine fq (λhw=>?_) λhw=>?_|refine ⟨rfl,rfl,_,rfl,?_⟩|refine ⟨rfl,rfl⟩|fail)
  all_goals exact cc
 .cases h
 have hr:roomFor (0+k) 40=W:=by simp [roomFor];omega
 have hc:C1 [.cells a,.cells b,.cells []] 5 (.d (.slice k cs))=J (k,cs.map .d):=by
  simp only [C1];rw [if_pos hl]
 repeat' (first|refine bso [] rfl ⟨by decide,rfl⟩ (h2:=?_)|refine gx ?_|fail)
 refine apo (sz:=5) (id:=2) (len:=0) (m:=k) (old:=[]) (H:=[.cells a,.cells b,.cells []]) (T:=[.d (.slice k cs),.H7]) (T2:=[.d (.slice k cs),.H7]) (rl2:=[.d (.slice k cs),.any]) (H2:=[.cells (K1 2 a),.cells (K1 2 b),.cells (cs.map .d)]) (k2:=k) hr hc (by rfl) ?_ ?_ (hk2:=V) (h2:=?_)
 .simp [c7.one]
 .exact oo _
 refine gr ?_;exact ⟨_,_,rfl,rfl,by rw [h0,h1]⟩
theorem aO0 (prom:FuncId->Bool):bu Tryz.prog prom 59 pCl:=by
 have hc:bu Tryz.prog prom 59 (PI 5):=ON (by kernel_rfl) ak7 KE;refine ⟨hc.1,λargs H l v H1 hrun w G I N H9 hp hb=>?_⟩;unfold pCl at hrun;split at hrun
 .cases hrun
  exact hc.2 _ _ l _ _ rfl w G I N H9 hp hb
 next n cs a b=>
  split at hrun
  next h=>
   cases hrun;obtain ⟨f8,hM⟩:=bC0 a b (xe 2 a h.2.2.1) (xe 2 b h.2.2.2) (n+1) cs h.1 V V;exact (ot aV5 f8).1 59 _ _ _ _ _ (hM f8 (o6 _)) w G I N H9 hp (λh=>by cases h)
  .cases hrun
 .cases hrun
end Go.Proofs.YtibjocmpkoepoaaGreat
namespace Go.B3
open Go.Sort
def Fh (p:U0):List Data:=[Z p.1,Z p.2]
def gY (p:U0):List Value:=[.int .i64 p.1,.int .i64 p.2]
theorem vL:∀l:List U0,bt l=l.flatMap Fh
 |[]=>rfl
 |(a,b)::l=>by simp [bt,vL l,Fh,Z]
theorem zj:∀(n:Nat) (cs:List Data) (fs:List U0),O cs<=n->Gm cs=J fs->cs=fs.flatMap Fh
 |_,[],fs,_,h=>by cases h;rfl
 |0,c::cs,fs,hn,h=>by simp at hn
 |n+1,c::cs,fs,hn,h=>by
  unfold Gm at h;split at h
  .rename_i heq;cases heq
  next a b r heq=>
   cases heq;split at h
   next l hl=>
    cases h;rw [List.flatMap_cons,<- zj n r l (by simp at hn;omega) hl];rfl
   .cases h
  .cases h
def Jf (fs:List U0):O (fs.flatMap Fh)=O fs * 2:=by
 induction fs with
 |nil=>rfl
 |cons a l ih=>rw [List.flatMap_cons,s9,ih,q7];simp [Fh];omega
def Jm (fs:List U0):O (fs.flatMap gY)=O fs * 2:=by
 induction fs with
 |nil=>rfl
 |cons a l ih=>rw [List.flatMap_cons,s9,ih,q7];simp [gY];omega
theorem xO:∀(fs:List U0) (j:Nat) (d:Data) (u:Value),(fs.flatMap Fh)[j]? =J d->(fs.flatMap gY)[j]? =J u->uH d=J u
 |[],j,d,u,h,_=>by simp at h
 |f::fs,j,d,u,h,h2=>by
  rw [List.flatMap_cons] at h h2
  rcases x9 j 2 with hj|hj
  .rw [s8 (by simpa [Fh] using hj)] at h
   rw [s8 (by simpa [gY] using hj)] at h2;unfold Fh at h;unfold gY at h2
   match j,hj with
   |0,_=>cases h;cases h2;rfl
   |1,_=>cases h;cases h2;rfl
  .rw [q9 (by simpa [Fh] using hj)] at h
   rw [q9 (by simpa [gY] using hj)] at h2;exact xO fs _ d u h h2
theorem LS:∀fs:List U0,(fs.flatMap Fh).all Data.flat=W
 |[]=>rfl
 |f::fs=>by rw [List.flatMap_cons,List.all_append,LS fs];rfl
def Qa {P:Program}{prom:FuncId->Bool}{f g:FuncId}(hcan:U1 P f=W)
  (hS:∀(blk off cap:Nat) (fs:List U0) (w:World),HoldsK gY 2 w blk off fs.toArray->blk<w.heap.size->O fs<4611686018427387904->Calls P f #[.slice (J ⟨blk,off,K⟩) (O fs) cap,.func (.func g) #[] #[]] w λe w' =>
   e= .returned (.tuple #[])/\∃n os,w' =grow (putRowK gY 2 (Sort.ahead w n) blk off (sortP fs).toArray) os)
  (hE:∀(p:Option Addr) (cap:Nat) (fv:Value) (w:World),Calls P f #[.slice p 0 cap,fv] w λe w' =>e= .returned (.tuple #[])/\w' =w):bu P prom f (De g):=by
 refine ⟨hcan,λargs H l v H1 hrun w G I N H9 hp _=>?_⟩;have two:∀{a:c7} {g' :FuncId},J5 G I N w [a,.func g' [] []] H9.toList->∃x,H9= #[x,.func (.func g') #[] #[]]/\VR G I N w .none a x:=λ{a g'} h=>by
  simp only [J5,VR] at h;obtain ⟨x,xs,h1,h2,y,ys,rfl,⟨c1,c2,rfl,e1,e2⟩,rfl⟩:=h;have e1:c1= #[]:=Array.ext' (by simpa using e1);have e2:c2= #[]:=Array.ext' (by simpa using e2);subst e1 e2;exact ⟨x,Array.ext' (by rw [h1]),h2⟩
 unfold De at hrun;split at hrun
 next H l id lo len g'=>
  split at hrun
  next hm=>
   obtain ⟨rfl,hm,hn⟩:=hm;split at hrun
   next vs hvs=>
    split at hrun
    next cs hcs=>
     split at hrun
     next fs Wp=>
      rw [vL] at hrun;split at hrun
      next H2 hw=>
       cases hrun;obtain ⟨old,ho,hl,rfl⟩:=rd_some hvs;have hc:=zj _ _ _ (o6 _) Wp;subst hc;have hx:=IA (LS fs) hcs;obtain ⟨g1,g2,g3⟩:=FN hp.hr (us:=fs.flatMap gY) ho hl hx (by rw [Jf,Jm]) (xO fs);have hH:=sQ ho hw;subst hH;obtain ⟨x,rfl,hv⟩:=two hp.args;simp only [VR] at hv;obtain ⟨_,cap,rfl,_⟩:=hv;have hlen:O fs=len:=by
        rw [Jf] at g3;omega
       subst hlen;refine (hS _ _ cap fs w (by unfold HoldsK;rw [iF gY 2 (λ_=>rfl)];exact g1) g2 V).mono ?_;rintro e w' ⟨rfl,n,os,rfl⟩;unfold putRowK;rw [iF gY 2 (λ_=>rfl)];have hR:=kY _root_.id w n (I id).1 ((I id).2+lo) ((sortP fs).flatMap gY) os;rw [List.map_id] at hR;refine ⟨_,G,I,N,rfl,xQ hp (us:=(sortP fs).flatMap gY) (by rw [C5,Jf,Jm]) (oo _) (λj a u ha hu G I N w p=>?_) ho (by rw [Jm,iO];exact hl) hm hR (by simp only [VR];exact ⟨#[],rfl,by simp [J5]⟩)⟩;rw [List.getElem?_map,Option.map_eq_some_iff] at ha;obtain ⟨d,hd,rfl⟩:=ha;simp only [VR];exact (nL (xO _ _ _ _ hd hu)).2 rfl
      .cases hrun
     .cases hrun
    .cases hrun
   .cases hrun
  .cases hrun
 next H l cs g'=>
  split at hrun
  next hg=>
   subst hg;cases hrun;obtain ⟨x,rfl,hv⟩:=two hp.args;simp only [VR,DR] at hv;have key:∃p cap,x= .slice p 0 cap:=by
    rcases hv with ⟨hv|⟨a,hv⟩,_⟩|⟨b,o,cap,hv,_⟩
    .exact ⟨_,_,hv⟩
    .exact ⟨_,_,hv⟩
    .exact ⟨_,_,hv⟩
   obtain ⟨p,cap,rfl⟩:=key;refine (hE p cap _ w).mono ?_;rintro e w' ⟨rfl,rfl⟩;exact ⟨_,G,I,N,rfl,kA hp (by simp only [VR];exact ⟨#[],rfl,by simp [J5]⟩)⟩
  .cases hrun
 .cases hrun
end Go.B3
namespace Go.Proofs.YtibjocmpkoepoaaGreat
open Go.B3 Go.B3.S Go.Sort Go.Proofs
attribute [local irreducible] Rx Ry Rn Ex Pf
def q90 (a b:U0):Pf A0 90 [Ji a,Ji b] (.d (Z (tj a b))):=by
 refine Pf.go 3 ?_;unfold Ji;have p1:=q83 a.1 b.1;have p2:=q83 a.2 b.2;have p3:=q82 [gP a.1 b.1,gP a.2 b.2] U;have e:tj a b=YI [gP a.1 b.1,gP a.2 b.2]:=by
  unfold tj;simp only [YI,p7]
  by_cases h:gP a.1 b.1=0
  .by_cases h2:gP a.2 b.2=0<;>simp [h,h2]
  .simp [h]
 rw [e]
 repeat' (first|refine uf p1 ?_|refine uf p2 ?_|refine uf p3 ?_|refine bsv [Z (gP a.1 b.1),Z (gP a.2 b.2)] ?_|refine gx ?_|fail)
 exact ⟨_,rfl,rfl⟩
def aH3 (blk off size:Nat)(w:World):CmpLays Tryz.prog 90 #[] gY 2 tj blk off size w:=λm os dk _ x y =>
 OP (q90 x y) (λw=>by simp only [J5];exact ⟨_,_,rfl,JV x,_,_,rfl,JV y,rfl⟩) _
theorem VV (blk off cap:Nat)(ps:List U0)(w:World)(h1:HoldsK gY 2 w blk off ps.toArray)(h2:blk<w.heap.size)(h3:O ps<4611686018427387904):Calls Tryz.prog 89 #[.slice (J ⟨blk,off,K⟩) (O ps) cap,.func (.func 90) #[] #[]] w λe w' =>
   e= .returned (.tuple #[])/\∃n os,w' =grow (putRowK gY 2 (Sort.ahead w n) blk off (sortP ps).toArray) os:=by
 have eg:∀args w,(callFunc 90 args).run Tryz.prog w= .ok (.enter 90 args) w:=enters_of Tryz.func90 (by kernel_rfl) rfl;rw [Go.B3.sortP,<- qZ (λa b c h1 h2=>by rw [iu] at *;omega) (λa b h=>by rw [iu] at *;omega) (λa b h1 h2=>aw1 a b (by simpa [ltOf] using h2) (by simpa [ltOf] using h1)) ps];exact AnyQ.slices_SortFunc_total Tryz.sortP 2 (λw=>by kernel_rfl) (λw=>by kernel_rfl) gY (λ_=>rfl) (λx v hv=>by simp [gY] at hv;rcases hv with rfl|rfl<;>rfl) tj bm2 90 #[] blk off cap ps.toArray w eg (aH3 blk off _ w) h1 h2 h3 aw1
theorem aO3 (prom:FuncId->Bool):bu Tryz.prog prom 89 (De 90) :=
 Qa (by kernel_rfl) VV λp cap fv w=>AnyF.slices_SortFunc_none (P:=Tryz.prog) (ρ:=Tryz.sortP_ren) { Tryz.sortP with } p cap fv w
end Go.Proofs.YtibjocmpkoepoaaGreat
namespace Go.Proofs.YtibjocmpkoepoaaGreat
open Go.B3
set_option maxHeartbeats 1000000 in
def aF8:qg Tryz.prog A:=br4 (λf p h=>by
 revert h;unfold A;simp only;split
 .rename_i h;rintro h2;cases h2;subst h;exact ar9 _
 .split
  .rename_i h;rintro h2;cases h2;subst h;exact ar8 _
  .split
   .rename_i h;rintro h2;cases h2;subst h;exact ar5 _
   .split
    .rename_i h;rintro h2;cases h2;subst h;exact ar7 _
    .split
     .rename_i h;rintro h2;cases h2;subst h;exact aO2 _
     .split
      .rename_i h;rintro h2;cases h2;subst h;exact aO1 _
      .split
       .rename_i h;rintro h2;cases h2;subst h;exact ar6 _
       .split
        .rename_i h;rintro h2;cases h2;subst h;exact aO3 _
        .split
         .rename_i h;rintro h2;cases h2;subst h;exact aO0 _
         .rintro h2;cases h2)
end Go.Proofs.YtibjocmpkoepoaaGreat


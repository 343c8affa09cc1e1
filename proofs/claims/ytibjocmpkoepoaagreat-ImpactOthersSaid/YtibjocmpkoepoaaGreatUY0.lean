import Derived.Sort.Grow
import Derived.Deep.Draws
import Derived.Lib.SlicesCompact
import Derived.Shelf.GgSortFunc.RowK
import Derived.Test.YtibjocmpkoepoaaGreatUAbs
import Derived.Test.YtibjocmpkoepoaaGreatUShelf
import Derived.Sort.MapsRangeIn
import Derived.Maps.AppendAt
import Derived.Maps.RangeRun
import Derived.OwnWalkIn
import Derived.TacticsInMore
import Derived.RegionIn
import Derived.LoopNIn
import Derived.LoopIn
import Derived.Laws.OwnMore
import Derived.Lib.Walk
import Derived.Lib.SliceRun
import Derived.Lib.AppendZerosOnto
set_option linter.all false
open Bool renaming and_eq_true→c9,true→W,false→F
open List renaming append_assoc→G8,cons_append→x7,drop_of_length_le→n5,getElem?_append_left→s9,getElem?_append_right→s5,getElem?_eq_getElem→n9,getElem?_set_ne→x5,getElem?_set_self→E0,length_append→k8,length_cons→o8,length_map→A1,length_nil→A4,length_take→K0,map_cons→E8,nil_append→y6,pairwise_cons→L2,replicate→c8,take_length→I8,length→O
open Nat renaming add_assoc→K1,le_of_ble_eq_true→j4,le_refl→j9,le_trans→p7,lt_or_ge→y7,reduceAdd→K2,zero_le→x3
open Option renaming some→J,none→K
namespace Go.y9
open Go.Sort
def NW {w w' :World}(h1:w'.os=w.os)(h2:w'.tape=w.tape)(h3:w'.output=w.output)(h4:w.heap.size<=w'.heap.size)(h5:∀b,b<w.heap.size->w'.heap[b]? =w.heap[b]?)(h6:w.drawn<=w'.drawn):∃q os,w' =grow (w.drewN q) os:=by
 refine ⟨w'.drawn - w.drawn,w'.heap.extract w.heap.size w'.heap.size,?_⟩;obtain ⟨hp,tp,dr,os,out⟩:=w';have e:w.heap++hp.extract w.heap.size hp.size=hp:=by
  grind
 simp_all [grow,World.drewN]
section
variable [D2]
def EL (hD:D2.on){P:Program}{A:Prog}(h:mQ P A){n:Nat}{f:FuncId}{args:List c7}{H9:Array Value}{w:World}{v:c7}(hc:call A n f args [] N6=J (v,[]))
  (hargs:H6 (G0 w) (λ_=>(0,0)) (λ_=>False) w args H9.toList):Calls P f H9 w λe w' =>∃(x:Value) (G' :Gh) (I' :O5) (N' :Nat->Prop),e= .returned x/\VR G' I' N' w' .ret v x/\∃q os,w' =grow (w.drewN q) os:=by
 have hpre:xb N6 [] w (G0 w) (λ_=>(0,0)) (λ_=>False) args H9:=by
  refine ⟨hargs,?_,?_,?_,?_,j9 _,j9 _,?_,λ_ b n pl hb=>by grind [G0]⟩
  .intro id o ho;simp at ho
  .intro b hb;simp_all [G0,if_neg]
  .simp_all
  .intro id o ho;simp at ho
  grind [G0]
 refine Calls.mono ((mT h n).1 f args [] N6 _ _ hc w _ _ _ H9 hpre (λ_=>rfl)) ?_;rintro e w' ⟨x,G',I',N',rfl,hp⟩;refine ⟨x,G',I',N',rfl,hp.val,NW hp.ext.os hp.ext.tape hp.ext.output hp.ext.size (λb hb=>(hp.ext.still b (Or.inl ?_)).2) (hp.ext.drawn hD)⟩;simp_all [G0,if_pos]
end
end Go.y9
namespace Go.y9
open Go.Sort
structure JQ (w w' :World)(blk off:Nat)(us:List Value):Prop where
 os:w'.os=w.os
 tape:w'.tape=w.tape
 output:w'.output=w.output
 size:w.heap.size<=w'.heap.size
 other:∀b:Nat,b<w.heap.size->b≠blk->w'.heap[b]? =w.heap[b]?
 here:∀(c:Array Value) (e:TypeId) (f:Nat×Nat),w.heap[blk]? =J (.cells c e f)->∃c' :Array Value,w'.heap[blk]? =J (.cells c' e f)/\c'.size=c.size /\
  (∀k:Nat,(k<off\/off+O us<=k)->c'[k]? =c[k]?)/\∀(j:Nat) (u:Value),off+j<c.size->us[j]? =J u->c'[off+j]? =J u
def fV {α:Type} [Inhabited α] (enc:α->Value)(w:World)(n blk off:Nat)(ys:List α)(os:Array Obj):JQ w (grow (putRow enc (Sort.ahead w n) blk off ys.toArray) os) blk off (ys.map enc) where
 os:=rfl
 tape:=rfl
 output:=rfl
 size:=M
 other b hb hne:=by
  have:b<(w.heap.modify blk (onCells (putCells enc off ys.toArray))).size:=M
  show (w.heap.modify blk (onCells (putCells enc off ys.toArray))++os)[b]? =_
  grind
 here c e f hc:=by
  have hb:blk<w.heap.size:=by
   grind
  have:blk<(w.heap.modify blk (onCells (putCells enc off ys.toArray))).size:=M
  refine ⟨putCells enc off ys.toArray c,?_,by simp [putCells],λk hk=>?_,λj u hj hu=>?_⟩
  .show (w.heap.modify blk (onCells (putCells enc off ys.toArray))++os)[blk]? =_
   rw [Array.getElem?_append_left this,Array.getElem?_modify,if_pos rfl,hc];rfl
  .grind [putCells]
  .grind [putCells]
def Ff (n:Int):c7:= .d (.int .i64 n)
theorem xY:∀ys:List Int,A2 (ys.map Ff)=0
 |[]=>rfl
 |y::ys=>by simp [E8,A2,xY ys,Ff];rfl
def EA (old:List c7)(lo:Nat)(az:List c7)(h:A2 az=0):A2 (splice old lo az)<=A2 old:=by
 grind [lF,lE,splice,dY]
def qV {l:F9}{H:k9}{w w' :World}{G:Gh}{I:O5}{N:Nat->Prop}{args:List c7}{H9:Array Value}(hp:xb l H w G I N args H9){id lo:Nat}{old az:List c7}{us:List Value}(qG:O az=O us)(hab:A2 az=0)(hau:∀(j:Nat) (a:c7) (u:Value),az[j]? =J a->us[j]? =J u->∀G I N w p,VR G I N w p a u)
  (ho:H[id]? =J (.cells old)) (hlo:lo+O us<=O old) (hm:l.may id=W) (hr:JQ w w' (I id).1 ((I id).2+lo) us) {v:c7} {x:Value} (hv:VR G I N w' .ret v x) :
  jC l H w G I N v (H.set id (.cells (splice old lo az))) x w' G I N:=by
 have hO:=hp.hr id _ ho;simp only [OR] at hO;obtain ⟨hN,c,e,f,h1,h2,h3,h4,h5⟩:=hO;obtain ⟨c',g1,g2,g3,g4⟩:=hr.here c e f h1;have hlt:∀b:Nat,G b≠ .free->b<w.heap.size:=λb hb=>by
  rcases y7 b w.heap.size with h|h
  .exact h
  .exact absurd (hp.wf b h) hb
 have EZ:Ext G w G w' :=by
  refine ⟨hr.os,hr.tape,hr.output,λh=>h.elim,hr.size,λb o hi=>⟨hi,?_⟩,λb hb=>⟨rfl,?_⟩,λb c0 e0 f0 hc0=>?_⟩
  .have hne:b≠(I id).1:=by grind [eT]
   have hb:G b≠ .free:=λh=>by simp_all [eT]
   simp only [World.cell?,hr.other b (hlt b hb) hne]
  .have hne:b≠(I id).1:=by grind
   exact hr.other b (hlt b (λh=>M)) hne
  .by_cases hne:b=(I id).1
   .simp_all
   .rw [hr.other b ?_ hne]
    all_goals grind
 have hkeep:∀q,X7 q G w G w' :=λq b n hb=>⟨hb,hr.other b (hlt b (λh=>M)) (by grind)⟩
 have It:∀(b i:Nat),i≠id->G b= .obj i->G b= .obj i/\w'.heap[b]? =w.heap[b]? :=λb i hi hb=>⟨hb,hr.other b (hlt b (λh=>M)) (by grind)⟩
 have Oa:id<O H:=y8 ho;have mz:∀(i:Nat) (o' :s6),(H.set id (.cells (splice old lo az)))[i]? =J o' ->∃o:s6,H[i]? =J o/\o'.F4<=o.F4:=λi o' hi=>by
  by_cases he:i=id
  .subst he
   rw [E0 Oa] at hi;cases hi;exact ⟨_,ho,EA old lo az hab⟩
  grind
 refine ⟨hv,?_,?_,EZ,λi hi=>⟨λb hb=>It b i (by grind) hb,λoff=>hkeep _⟩,λ_ _ _=>rfl,λ_ h=>h,λ_ _ h=>h,λi hi=>by simpa using hp.Y8 i hi,λi o' _ hi=>Or.inr (mz i o' hi),λi o' hi=>?_⟩
 .intro i o hi
  by_cases he:i=id
  .subst he
   rw [E0 Oa] at hi;cases hi;simp only [OR];refine ⟨hN,c',e,f,g1,h2,M,?_,λj a hj=>?_⟩
   .grind [splice,k8,K0,A1,List.length_drop]
   .rcases y7 j lo with hj1|hj1
    .have hj2:old[j]? =J a:=by
      rw [<- hj,splice,G8,s9 D,List.getElem?_take,if_pos hj1]
     obtain ⟨u,u1,u2⟩:=h5 j a hj2;exact ⟨u,by rw [g3 _ V];exact u1,VR.mono EZ (λ_ _=>rfl) (λ_ h=>h) _ _ _ (Or.inr (hkeep _)) u2⟩
    rcases y7 j (lo+O us) with hj2|hj2
    .have hj3:az[j - lo]? =J a:=by
      rw [<- hj,splice,s9 D,s5 D]
      congr 1
      simp;omega
     have hj4:j - lo<O us:=V
     refine ⟨us[j - lo],?_,hau _ _ _ hj3 (n9 hj4) _ _ _ _ _⟩;rw [show (I i).2+j=(I i).2+lo+(j - lo) by omega];exact g4 _ _ V (n9 hj4)
    .have hj3:old[j]? =J a:=by
      rw [<- hj,splice,s5 D,List.getElem?_drop]
      congr 1
      simp;omega
     obtain ⟨u,u1,u2⟩:=h5 j a hj3;exact ⟨u,by rw [g3 _ V];exact u1,VR.mono EZ (λ_ _=>rfl) (λ_ h=>h) _ _ _ (Or.inr (hkeep _)) u2⟩
  .rw [x5 (λe=>he e.symm)] at hi
   exact OR.mono EZ (λ_ _=>rfl) (λ_ h=>h) i o (λh=>It _ i he h) (λoff=>hkeep _) (hp.hr i o hi)
 .intro b hb
  exact hp.wf b (p7 hr.size hb)
 .obtain ⟨o,h6,h7⟩:=mz i o' hi
  obtain ⟨h8,h9⟩:=hp.Q7 i o h6;exact ⟨λh=>p7 h7 (h8 h),λh=>p7 h7 (h9 h)⟩
def DA {l:F9}{H:k9}{w w' :World}{G:Gh}{I:O5}{N:Nat->Prop}{args:List c7}{H9:Array Value}(hp:xb l H w G I N args H9){id lo:Nat}{old:List c7}{ys:List Int}
  (ho:H[id]? =J (.cells old)) (hlo:lo+O ys<=O old) (hm:l.may id=W) (hr:JQ w w' (I id).1 ((I id).2+lo) (ys.map (.int .i64))) {v:c7} {x:Value} (hv:VR G I N w' .ret v x) :
  jC l H w G I N v (H.set id (.cells (splice old lo (ys.map Ff)))) x w' G I N :=
 qV hp (us:=ys.map (.int .i64)) U (xY ys) (λj a u ha hu G I N w p=>by
  rw [List.getElem?_map,Option.map_eq_some_iff] at ha hu;obtain ⟨y,hy,rfl⟩:=ha;obtain ⟨z,hz,rfl⟩:=hu;rw [hy] at hz;cases hz;simp [Ff,VR,DR]) ho (by simpa using hlo) hm hr hv
theorem qK (x:Int):∀l:List Int,(nB x l).Perm (x::l)
 |[]=>List.Perm.refl _
 |y::l=>by
  simp [nB];split
  .rfl
  .exact ((qK x l).cons y).trans (List.Perm.swap x y l)
theorem nO:∀l:List Int,(W9 l).Perm l
 |[]=>List.Perm.refl _
 |x::l=>(qK x _).trans ((nO l).cons x)
theorem sA (x:Int):∀l:List Int,l.Pairwise (·<=·)->(nB x l).Pairwise (·<=·)
 |[],_=>by simp [nB]
 |y::l,h=>by
  simp [nB];rw [L2] at h;split
  .grind [L2,Int.le_trans]
  .refine L2.2 ⟨λz hz=>?_,sA x l h.2⟩
   grind [qK]
theorem pU:∀l:List Int,(W9 l).Pairwise (·<=·)
 |[]=>List.Pairwise.nil
 |x::l=>sA x _ (pU l)
def tD (l:List Int):(l.mergeSort λx y=>decide (x<=y))=W9 l:=by
 grind [List.Perm.eq_of_pairwise,Int.le_antisymm,pU,List.mergeSort_perm,trans,nO,List.pairwise_mergeSort,decide]
theorem AY (l:List Int):O (W9 l)=O l:=(nO l).length_eq
theorem yu (a b:Int):∀l:List Int,U7 (l++[a,b])=U7 (l++[a])++(if b=a then [] else [b])
 |[]=>by
  grind [U7]
 |[x]=>by
  grind [U7]
 |x::y::l=>by
  have ih:=yu a b (y::l)
  grind [U7]
theorem iq (zs:List Int):∀m,m<=O zs->Lib.compactUpTo zs.toArray m=U7 (zs.take m)
 |0,_=>by rfl
 |1,h=>by
  obtain ⟨z,r,rfl⟩:∃z r,zs=z::r:=by
   cases zs with
   |nil=>simp at h
   |cons z r=>simp_all
  rfl
 |m+2,h=>by
  have ih:=iq zs (m+1) V;have e1:zs.take (m+1)=zs.take m++[zs[m]]:=M
  have e2:zs.take (m+2)=zs.take m++[zs[m],zs[m+1]]:=by
   grind [List.take_append_getElem,G8]
  rw [Lib.compactUpTo_succ,ih,e1,e2,yu];have g1:zs.toArray[m+1]! =zs[m+1]:=by
   grind
  have g2:zs.toArray[m+1 - 1]! =zs[m]:=by
   grind
  by_cases hk:zs[m+1]=zs[m]
  .rw [Lib.keeps_neg V V,if_pos hk]
   rfl
  .rw [Lib.keeps_pos V,if_neg hk,g1]
   rfl
def Aa (zs:List Int):Lib.compact zs=U7 zs:=by
 rw [Lib.compact,iq zs _ (j9 _),I8]
theorem rY:∀l:List Int,O (U7 l)<=O l
 |[]=>by simp [U7]
 |[x]=>by simp [U7]
 |x::y::l=>by
  have:=rY (y::l)
  grind [U7]
theorem ji:∀{vs:List c7} {xs:List Int},gu vs=J xs->vs=xs.map Ff
 |[],xs,h=>by simp_all [gu]
 |v::vs,xs,h=>by
  unfold gu at h;split at h
  .simp_all
  next n r heq=>
   cases heq;split at h
   next ys hy=>
    cases h;rw [ji hy];rfl
   .cases h
  .cases h
def rd_some {H:k9}{id lo len:Nat}{vs:List c7}(h:rd H id lo len=J vs):∃old,H[id]? =J (.cells old)/\lo+len<=O old/\vs=(old.drop lo).take len:=by
 grind [rd]
def holds_of {G:Gh}{I:O5}{N:Nat->Prop}{w:World}{H:k9}(hr:HR G I N w H){id lo len:Nat}{old:List c7}{xs:List Int}(ho:H[id]? =J (.cells old))(hl:lo+len<=O old)(hx:(old.drop lo).take len=xs.map Ff) :
  Holds (Value.int .i64) w (I id).1 ((I id).2+lo) xs.toArray/\(I id).1<w.heap.size/\O xs=len:=by
 have hO:=hr id _ ho;obtain ⟨hN,c,e,f,h1,h2,h3,h4,h5⟩:=hO;have hlen:O xs=len:=by
  have:=congrArg List.length hx
  grind
 refine ⟨λj hj=>?_,?_,hlen⟩
 .have hj' :j<O xs:=V
  have e1:old[lo+j]? =J (Ff xs[j]):=by
   have:=congrArg (·[j]?) hx
   grind
  obtain ⟨v,g1,g2⟩:=h5 _ _ e1;subst g2;constructor
  .simp_all [ad,World.cell?,K1]
  .have hlt:(I id).2+lo+j<c.size:=by
    omega
   have:=h3 _ hlt;simp_all [World.frozen?]
 grind
def mb {H:k9}{id lo:Nat}{old vs:List c7}{H1:k9}(ho:H[id]? =J (.cells old))(h:wr H id lo vs=J H1):H1=H.set id (.cells (splice old lo vs)):=by
 simp_all [wr]
def iL {l:F9}{H:k9}{w:World}{G:Gh}{I:O5}{N:Nat->Prop}{args:List c7}{H9:Array Value}(hp:xb l H w G I N args H9){v:c7}{x:Value}(hv:VR G I N w .ret v x):jC l H w G I N v H x w G I N :=
 ⟨hv,hp.hr,hp.wf,Ext.refl _ _,hU.refl _ _ _,λ_ _ _=>rfl,λ_ h=>h,λ_ _ h=>h,hp.Y8,λ_ o' _ ho=>Or.inr ⟨o',ho,j9 _⟩,hp.Q7⟩
def jV {G:Gh}{I:O5}{N:Nat->Prop}{w:World}{a:c7}{H9:Array Value}(h:H6 G I N w [a] H9.toList):∃x,H9= #[x]/\VR G I N w .none a x:=by
 grind [H6,Array.ext']
def Jl {P:Program}{prom:FuncId->Bool}{f:FuncId}(hcan:P5 P f=W)
  (hS:∀(blk off cap:Nat) (zs:List Int) (w:World),Holds (Value.int .i64) w blk off zs.toArray->blk<w.heap.size->O zs<4611686018427387904->Calls P f #[.slice (J ⟨blk,off,K⟩) (O zs) cap] w λe w' =>
   e= .returned (.tuple #[])/\∃n os,w' =grow (putRow (Value.int .i64) (Sort.ahead w n) blk off (zs.mergeSort λx y=>decide (x<=y)).toArray) os)
  (hE:∀(p:Option Addr) (cap:Nat) (w:World),Calls P f #[.slice p 0 cap] w λe w' =>e= .returned (.tuple #[])/\w' =w):aD P prom f zg:=by
 refine ⟨hcan,λargs H l v H1 hrun w G I N H9 hp _=>?_⟩;unfold zg at hrun;split at hrun
 .split at hrun
  next hm=>
   simp only [c9] at hm;have hb:=j4 hm.2;split at hrun
   next vs hvs=>
    split at hrun
    next xs hxs=>
     split at hrun
     next H2 hw=>
      cases hrun;obtain ⟨old,ho,hl,rfl⟩:=rd_some hvs;have hx:=ji hxs;obtain ⟨g1,g2,g3⟩:=holds_of hp.hr ho hl hx;have hH:=mb ho hw;subst hH;obtain ⟨x,rfl,hv⟩:=jV hp.args;obtain ⟨_,cap,rfl,_⟩:=hv;subst g3;refine (hS _ _ cap xs w g1 g2 V).mono ?_;rintro e w' ⟨rfl,n,os,rfl⟩;rw [tD];exact ⟨_,G,I,N,rfl,DA hp (ys:=W9 xs) ho (by grind [AY]) hm.1 (fV _ _ _ _ _ _ _) (by simp_all [VR,H6])⟩
     .cases hrun
    .cases hrun
   .cases hrun
  .cases hrun
 .cases hrun
  obtain ⟨x,rfl,hv⟩:=jV hp.args;simp [VR,DR] at hv;have key:∃p cap,x= .slice p 0 cap:=by
   grind
  obtain ⟨p,cap,rfl⟩:=key;refine (hE p cap w).mono ?_;rintro e w' ⟨rfl,rfl⟩;exact ⟨_,G,I,N,rfl,iL hp (by simp_all [VR,H6])⟩
 .cases hrun
def Ab {P:Program}{prom:FuncId->Bool}{f:FuncId}(hcan:P5 P f=W)
  (hS:∀(blk off cap:Nat) (zs:List Int) (w:World),Holds (Value.int .i64) w blk off zs.toArray->O zs<=9223372036854775807->O zs<=cap->Calls P f #[.slice (J ⟨blk,off,K⟩) (O zs) cap] w λe w' =>
   e= .returned (.slice (J ⟨blk,off,K⟩) (O (Lib.compact zs)) cap)/\∃q,w' =putRow (Value.int .i64) (Sort.ahead w q) blk off (Lib.compact zs++c8 (O zs - O (Lib.compact zs)) 0).toArray):aD P prom f iK:=by
 refine ⟨hcan,λargs H l v H1 hrun w G I N H9 hp _=>?_⟩;unfold iK at hrun;split at hrun
 next id lo len=>
  split at hrun
  next hm=>
   simp only [c9] at hm;have hb:=j4 hm.2;split at hrun
   next vs hvs=>
    split at hrun
    next xs hxs=>
     split at hrun
     next H2 hw=>
      cases hrun;obtain ⟨old,ho,hl,rfl⟩:=rd_some hvs;have hx:=ji hxs;obtain ⟨g1,g2,g3⟩:=holds_of hp.hr ho hl hx;have hH:=mb ho hw;subst hH;obtain ⟨x,rfl,hv⟩:=jV hp.args;obtain ⟨hN,cap,rfl,hcap,c,e0,f0,k1,k2⟩:=hv;subst g3;refine (hS _ _ cap xs w g1 V hcap).mono ?_;rintro e w' ⟨rfl,q,rfl⟩;rw [Aa];have hd:=rY xs;have hR:=fV (Value.int .i64) w q (I id).1 ((I id).2+lo) (U7 xs++c8 (O xs - O (U7 xs)) 0) #[];obtain ⟨c',u1,u2,_⟩:=hR.here c e0 f0 k1;refine ⟨_,G,I,N,rfl,DA hp (ys:=U7 xs++c8 (O xs - O (U7 xs)) 0) ho D hm.1 hR ?_⟩;simp_all [VR]<;>omega
     .cases hrun
    .cases hrun
   .cases hrun
  .cases hrun
 .cases hrun
def Ip {P:Program}{prom:FuncId->Bool}{f:FuncId}(hcan:P5 P f=W)
  (hR:∀w:World,Calls P f #[.slice K 0 0,.int .i64 0] w λe w' =>e= .returned (.slice K 0 0)/\w' =w)
  (hG:∀(n:Nat) (w:World),0<n->n<=1000000->Calls P f #[.slice K 0 0,.int .i64 n] w λe w' =>∃(cap:Nat) (c:Array Value) (t:TypeId),e= .returned (.slice (J ⟨w.heap.size,0,K⟩) 0 cap)/\w' =w.drew.alloc (.cells c t)/\c.size=cap):aD P prom f zf:=by
 refine ⟨hcan,λargs H l v H1 hrun w G I N H9 hp _=>?_⟩;unfold zf at hrun;split at hrun
 next n=>
  split at hrun
  .cases hrun
   obtain ⟨m,rfl⟩:∃m:Nat,n=m:=⟨n.toNat,V⟩;have ha:=hp.args;simp [H6,VR,DR] at ha;have hv:H9= #[.slice K 0 0,.int .i64 m]:=by
    grind
   subst hv
   rcases Nat.eq_zero_or_pos m with rfl|h0
   .refine (hR w).mono ?_
    rintro e w' ⟨rfl,rfl⟩;exact ⟨_,G,I,N,rfl,iL hp (by simp [VR])⟩
   .refine (hG m w h0 V).mono ?_
    rintro e w' ⟨cap,c,t,rfl,rfl,hc⟩;have hN:fF w (w.drew.alloc (.cells c t)) (.cells c t):=(fF.alloc w (.cells c t)).drew (w.drawn+1) (Nat.le_succ _);refine ⟨_,dc G w.heap.size (.grow 0 .ret),I,N,rfl,?_,hN.hr hp.wf _ (λ_ _=>rfl) (λ_ h=>h) hp.hr,hN.wf hp.wf _,hN.ext hp.wf _,hN.aV hp.wf _ _,λ_ _ _=>rfl,λ_ h=>h,λ_ _ h=>h,hp.Y8,λ_ o' _ ho=>Or.inr ⟨o',ho,j9 _⟩,hp.Q7⟩;exact ⟨rfl,Or.inr ⟨U,w.heap.size,0,cap,c,t,_,rfl,x3 _,hN.new,V,iR _,U,by simp [cS]⟩⟩
  .cases hrun
 .cases hrun
def dF {α:Type} [Inhabited α] (enc:α->List Value)(k:Nat)(hk:∀x,O (enc x)=k)(l:List α):flatK enc k l.toArray=(l.flatMap enc).toArray:=by
 have hl:∀l:List α,O (l.flatMap enc)=O l * k:=λl=>by
  induction l with
  |nil=>simp
  |cons a l ih=>grind
 have key:∀(l:List α) (t:Nat),t<O l * k->(l.flatMap enc)[t]! =(enc l[t / k]!)[t % k]! :=λl=>by
  induction l with
  |nil=>simp_all
  |cons a l ih =>
   intro t h;rw [o8,Nat.add_mul,Nat.one_mul] at h;have k0:0<k:=by
    grind
   rcases y7 t k with h1|h1
   .simp_all [Nat.div_eq_of_lt,Nat.mod_eq_of_lt,List.getElem!_eq_getElem?_getD,s9]
   .obtain ⟨s,rfl⟩:∃s,t=s+k:=⟨t - k,V⟩
    simp_all [Nat.add_div_right,Nat.add_mod_right,List.getElem!_eq_getElem?_getD,s5,Nat.add_sub_cancel]
 refine ext_get! (by simp [hl]) λt ht=>?_
 have ht' :t<O l * k:=M
 grind [get_flatK]
def vZ:Data->Option Value
 | .int k n=>J (.int k n)
 | .bool b=>J (.bool b)
 |_=>K
theorem qT {d:Data}{u v:Value}{G:Gh}{w:World}(h:vZ d=J u):DR G w d v↔v=u:=by
 cases d<;>simp [vZ,reduceCtorEq,Option.some.injEq] at h<;>subst h<;>simp [DR]
def yH {G:Gh}{I:O5}{N:Nat->Prop}{w:World}{H:k9}(hr:HR G I N w H){id lo len:Nat}{old:List c7}{ds:List Data}{us:List Value}(ho:H[id]? =J (.cells old))(hl:lo+len<=O old)(hx:(old.drop lo).take len=ds.map .d)
  (hu:O ds=O us) (hd:∀(j:Nat) (d:Data) (u:Value),ds[j]? =J d->us[j]? =J u->vZ d=J u):Holds _root_.id w (I id).1 ((I id).2+lo) us.toArray/\(I id).1<w.heap.size/\O ds=len:=by
 have hO:=hr id _ ho;obtain ⟨hN,c,e,f,h1,h2,h3,h4,h5⟩:=hO;have hlen:O ds=len:=by
  have:=congrArg List.length hx
  grind
 refine ⟨λj hj=>?_,?_,hlen⟩
 .have hj0:j<O us:=V
  have hj' :j<O ds:=V
  have e1:old[lo+j]? =J (.d ds[j]):=by
   have:=congrArg (·[j]?) hx;simp_all
  obtain ⟨v,g1,g2⟩:=h5 _ _ e1;have g2:=(qT (hd j _ us[j] (n9 hj') (n9 hj0))).1 g2;constructor
  .simp_all [ad,World.cell?,K1]
  .have hlt:(I id).2+lo+j<c.size:=by
    omega
   have:=h3 _ hlt;simp_all [World.frozen?]
 grind
def J8.vals (f:J8):List Value:=[.int .i64 f.src.1,.int .i64 f.src.2,.int .i64 f.dst.1,.int .i64 f.dst.2,.bool f.dat]
theorem oD:∀(n:Nat) (cs:List Data) (fs:List J8),O cs<=n->nr cs=J fs->cs=fs.flatMap J8.enc
 |_,[],fs,_,h=>by cases h;rfl
 |0,c::cs,fs,hn,h=>by simp at hn
 |n+1,c::cs,fs,hn,h=>by
  unfold nr at h;split at h
  .simp_all
  next a b c' d t r heq=>
   cases heq;split at h
   next l hl=>
    cases h;rw [List.flatMap_cons,<- oD n r l (by grind) hl];rfl
   .cases h
  .cases h
theorem Ao (fs:List J8):O (fs.flatMap J8.enc)=O fs * 5:=by
 induction fs with
 |nil=>rfl
 |cons a l ih=>grind [k8,o8,J8.enc]
theorem An (fs:List J8):O (fs.flatMap J8.vals)=O fs * 5:=by
 induction fs with
 |nil=>rfl
 |cons a l ih=>grind [k8,o8,J8.vals]
theorem qD:∀(fs:List J8) (j:Nat) (d:Data) (u:Value),(fs.flatMap J8.enc)[j]? =J d->(fs.flatMap J8.vals)[j]? =J u->vZ d=J u
 |[],j,d,u,h,_=>by simp at h
 |f::fs,j,d,u,h,h2=>by
  rw [List.flatMap_cons] at h h2
  rcases y7 j 5 with hj|hj
  .rw [s9 (by simp_all [J8.enc])] at h
   rw [s9 (by simp_all [J8.vals])] at h2
   match j,hj with
   |0,_=>cases h;cases h2;rfl
   |1,_=>cases h;cases h2;rfl
   |2,_=>cases h;cases h2;rfl
   |3,_=>cases h;cases h2;rfl
   |4,_=>cases h;cases h2;rfl
  .rw [s5 (by simp_all [J8.enc])] at h
   rw [s5 (by simp_all [J8.vals])] at h2;exact qD fs _ d u h h2
theorem Af:∀{vs:List c7} {cs:List Data},cs.all Data.flat=W->H7 vs=J cs->vs=cs.map .d
 |[],cs,_,h=>by cases h;rfl
 |v::vs,cs,hf,h=>by
  unfold H7 at h;split at h
  .split at h
   next xs hxs=>
    cases h;simp only [List.all_cons,c9] at hf;rw [E8,<- Af hf.2 hxs];simp_all [c7.data?,reduceCtorEq,Data.flat]<;>grind
   .cases h
  .cases h
theorem Ch:∀fs:List J8,(fs.flatMap J8.enc).all Data.flat=W
 |[]=>rfl
 |f::fs=>by rw [List.flatMap_cons,List.all_append,Ch fs];rfl
theorem mS:∀l:List Data,A2 (l.map .d)=0
 |[]=>rfl
 |a::l=>by simp [A2,c7.F4,mS l]
def FE {P:Program}{prom:FuncId->Bool}{f g:FuncId}(hcan:P5 P f=W)
  (hS:∀(blk off cap:Nat) (fs:List J8) (w:World),HoldsK J8.vals 5 w blk off fs.toArray->blk<w.heap.size->O fs<4611686018427387904->Calls P f #[.slice (J ⟨blk,off,K⟩) (O fs) cap,.func (.func g) #[] #[]] w λe w' =>
   e= .returned (.tuple #[])/\∃n os,w' =grow (putRowK J8.vals 5 (Sort.ahead w n) blk off (aY fs).toArray) os)
  (hE:∀(p:Option Addr) (cap:Nat) (fv:Value) (w:World),Calls P f #[.slice p 0 cap,fv] w λe w' =>e= .returned (.tuple #[])/\w' =w):aD P prom f (qR g):=by
 refine ⟨hcan,λargs H l v H1 hrun w G I N H9 hp _=>?_⟩;have two:∀{a:c7} {g' :FuncId},H6 G I N w [a,.func g' [] []] H9.toList->∃x,H9= #[x,.func (.func g') #[] #[]]/\VR G I N w .none a x:=λ{a g'} h=>by
  grind [H6,VR,Array.ext']
 unfold qR at hrun;split at hrun
 next H l id lo len g'=>
  split at hrun
  next hm=>
   obtain ⟨rfl,hm,hn⟩:=hm;split at hrun
   next vs hvs=>
    split at hrun
    next cs hcs=>
     split at hrun
     next fs yE=>
      split at hrun
      next H2 hw=>
       cases hrun;obtain ⟨old,ho,hl,rfl⟩:=rd_some hvs;have hc:=oD _ _ _ (j9 _) yE;subst hc;have hx:=Af (Ch fs) hcs;obtain ⟨g1,g2,g3⟩:=yH hp.hr (us:=fs.flatMap J8.vals) ho hl hx (by rw [Ao,An]) (qD fs);have hH:=mb ho hw;subst hH;obtain ⟨x,rfl,hv⟩:=two hp.args;simp only [VR] at hv;obtain ⟨_,cap,rfl,_⟩:=hv;have hlen:O fs=len:=by
        grind [Ao]
       subst hlen;refine (hS _ _ cap fs w (by simp_all [HoldsK,dF,J8.vals]) g2 V).mono ?_;rintro e w' ⟨rfl,n,os,rfl⟩;unfold putRowK;rw [dF J8.vals 5 (λ_=>rfl)];have hR:=fV _root_.id w n (I id).1 ((I id).2+lo) ((aY fs).flatMap J8.vals) os;rw [List.map_id] at hR;refine ⟨_,G,I,N,rfl,qV hp (us:=(aY fs).flatMap J8.vals) (by rw [A1,Ao,An]) (mS _) (λj a u ha hu G I N w p=>?_) ho (by grind [An,rj]) hm hR (by simp_all [VR,H6])⟩
       grind [Option.map_eq_some_iff,VR,qT,qD]
      .cases hrun
     .cases hrun
    .cases hrun
   .cases hrun
  .cases hrun
 next H l cs g'=>
  split at hrun
  next hg=>
   subst hg;cases hrun;obtain ⟨x,rfl,hv⟩:=two hp.args;simp only [VR,DR] at hv;have key:∃p cap,x= .slice p 0 cap:=by
    grind
   obtain ⟨p,cap,rfl⟩:=key;refine (hE p cap _ w).mono ?_;rintro e w' ⟨rfl,rfl⟩;exact ⟨_,G,I,N,rfl,iL hp (by simp_all [VR,H6])⟩
  .cases hrun
 .cases hrun
end Go.y9
namespace Go.Proofs.YtibjocmpkoepoaaGreat
open Go.y9 Go.y9.S
attribute [local irreducible] Rx Ry Rn Ex Pf
def A0:y9.Prog:=⟨UT,Fg,LD,λ_=>K⟩
def Ut [D2]:mQ Tryz.prog A0:=⟨JJ,λf p h=>(by cases h),λf af _ h=>Uu f af h⟩
def Xt (a:Int):Pf A0 136 [.d (Z a)] (.d (.bool F)):=by
 refine Pf.gr 1 ?_;exact ⟨_,rfl,by simp [j5,o6]⟩
def Yv (a b:Int):Pf A0 83 [.d (Z a),.d (Z b)] (.d (Z (cZ a b))):=by
 refine Pf.go 3 ?_;have p1:=Xt a;have p2:=Xt b;refine gc (And.intro p1 p2) ?_;refine tb (F) (λh1=>?_) (λh1=>?_)
 .cases h1
 refine gr ?_;refine tb (F) (λh2=>?_) (λh2=>?_)
 .cases h2
 refine gr ?_;refine tb (D5 a b) (λh3=>?_) (λh3=>?_)
 .have:=A7 h3
  refine gr ?_;have e:cZ a b= -1:=by unfold cZ;rw [if_pos this]
  rw [e]
  first|exact ⟨_,rfl,rfl⟩|(simp [j5];done)
 have:=B8 h3;refine gr ?_;refine tb (D5 b a) (λh4=>?_) (λh4=>?_)
 .have:=A7 h4
  refine gr ?_;have e:cZ a b=1:=by unfold cZ;rw [if_neg V,if_pos this]
  rw [e]
  first|exact ⟨_,rfl,rfl⟩|(simp [j5];done)
 have:=B8 h4;refine gr ?_;have e:cZ a b=0:=by unfold cZ;rw [if_neg V,if_neg V]
 rw [e]
 first|exact ⟨_,rfl,rfl⟩|(simp [j5];done)
def LN:List Int->Int
 |[]=>0
 |a::l=>if x4 a 0 then LN l else a
def q82 (l:List Int)(hl:O l<=1000000):Pf A0 82 [.d (ints l)] (.d (Z (LN l))):=by
 refine Pf.gr 6 ?_;refine Ex.J4 (λk T H=>∃(i:Nat),T=[.any,.any,.d (Z 0),.any,.d (ints l),.d (Z (O l)),.d (Z i)]/\H=[]/\i+k=O l/\LN l=LN (l.drop i)) ?_ (k:=O l) ⟨0,rfl,rfl,U,rfl⟩;rintro k _ _ ⟨i,rfl,rfl,hk,ho⟩;refine Ex.seq ?_;refine tl i (O l) (λh3=>?_) (λh3=>?_)
 .rw [C4 V,LN] at ho
  refine gr ?_;refine tb (!x4 (Y l i) 0) (λh4=>?_) (λh4=>?_)
  .refine gr ?_
   rw [if_neg (by simpa using h4)] at ho;rw [ho]
   first|exact ⟨_,rfl,rfl⟩|(simp [j5];done)
  .refine gr ?_
   rw [if_pos (by simpa using h4)] at ho;exact kk ⟨i+1,rfl,rfl,V,ho⟩
 .rw [n5 V] at ho
  rw [ho];refine gr ?_
  first|exact ⟨_,rfl,rfl⟩|(simp [j5];done)
def AM (p:D7):c7:= .agg [.d (Z p.1),.d (Z p.2)]
def Mp (a b:D7):Pf A0 118 [AM a,AM b] (.d (Z (mD a b))):=by
 refine Pf.go 3 ?_;unfold AM;have p1:=Yv a.1 b.1;have p2:=Yv a.2 b.2;have p3:=q82 [cZ a.1 b.1,cZ a.2 b.2] U;have e:mD a b=LN [cZ a.1 b.1,cZ a.2 b.2]:=by
  unfold mD;simp only [LN,o6]
  by_cases h:cZ a.1 b.1=0
  .by_cases h2:cZ a.2 b.2=0<;>simp [h,h2]
  .simp [h]
 rw [e]
 repeat' (first|refine iX p1 ?_|refine iX p2 ?_|refine iX p3 ?_|refine TU [Z (cZ a.1 b.1),Z (cZ a.2 b.2)] ?_|refine gx ?_|fail)
 first|exact ⟨_,rfl,rfl⟩|(simp [j5];done)
def au8 (a b:Bool):Pf A0 165 [.d (.bool a),.d (.bool b)] (.d (Z (RA a b))):=by
 refine Pf.go 1 ?_;cases a<;>cases b
 all_goals
  repeat' (first|refine gy ?_|refine ft (λht=>?_) λht=>?_|refine ⟨_,rfl,?_⟩|fail)
  all_goals first|rfl|(exfalso;revert ht;decide)|(rename_i h;exfalso;revert h;decide)
def KG (f:J8):c7:= .agg [.d (Z f.src.1),.d (Z f.src.2),.d (Z f.dst.1),.d (Z f.dst.2),.d (.bool f.dat)]
def au7 (a b:J8):Pf A0 164 [KG a,KG b] (.d (Z (Ka a b))):=by
 refine Pf.go 3 ?_;unfold KG;have p1:=Mp a.src b.src;have p2:=Mp a.dst b.dst;have p3:=au8 a.dat b.dat;have p4:=q82 [mD a.src b.src,mD a.dst b.dst,RA a.dat b.dat] U;have e:Ka a b=LN [mD a.src b.src,mD a.dst b.dst,RA a.dat b.dat]:=by
  unfold Ka;simp only [LN,o6]
  by_cases h:mD a.src b.src=0
  .by_cases h2:mD a.dst b.dst=0
   .by_cases h3:RA a.dat b.dat=0<;>simp [h,h2,h3]
   .simp [h,h2]
  .simp [h]
 rw [e];unfold AM at p1 p2
 repeat' (first|refine iX p1 ?_|refine iX p2 ?_|refine iX p3 ?_|refine iX p4 ?_|refine lqo ?_|refine TU [Z (mD a.src b.src),Z (mD a.dst b.dst),Z (RA a.dat b.dat)] ?_|refine gx ?_|fail)
 first|exact ⟨_,rfl,rfl⟩|(simp [j5];done)
end Go.Proofs.YtibjocmpkoepoaaGreat
namespace Go.y9
def BM (a b:D7):mD a b=0↔a.1=b.1/\a.2=b.2:=by
 unfold mD cZ;split<;>(repeat' split)<;>omega
def bn (b:Bool):Int:=if b then 0 else 1
def RB (a b:Bool):RA a b<0↔bn a<bn b:=by cases a<;>cases b<;>decide
def qw (a b:J8):Ka a b<0↔(a.src.1<b.src.1\/(a.src.1=b.src.1/\(a.src.2<b.src.2\/(a.src.2=b.src.2/\(a.dst.1<b.dst.1\/(a.dst.1=b.dst.1/\(a.dst.2<b.dst.2\/(a.dst.2=b.dst.2/\bn a.dat<bn b.dat)))))))):=by
 have h1:=dn a.src b.src;have h2:=BM a.src b.src;have h3:=dn a.dst b.dst;have h4:=BM a.dst b.dst;have h5:=RB a.dat b.dat;unfold Ka;split
 .rw [h1];omega
 .split
  .rw [h3];omega
  .rw [h5];omega
def Rv {a b:Bool}(h:bn a=bn b):a=b:=by cases a<;>cases b<;>first|rfl|(exact absurd h (by decide))
end Go.y9
namespace Go.Proofs.YtibjocmpkoepoaaGreat
open Go.y9 Go.Sort Go.Proofs
def XG:SWO (ltOf mD) where
 irrefl x:=by simp only [ltOf,decide_eq_false_iff_not,dn];omega
 trans x y z h1 h2:=by simp only [ltOf,decide_eq_true_eq,dn] at *;omega
 ntrans x y z h1 h2:=by simp only [ltOf,decide_eq_false_iff_not,dn] at *;omega
def PI (x y:D7)(h1:ltOf mD x y=F)(h2:ltOf mD y x=F):x=y:=by
 simp only [ltOf,decide_eq_false_iff_not,dn] at *
 exact Prod.ext V V
def av7:SWO (ltOf Ka) where
 irrefl x:=by simp only [ltOf,decide_eq_false_iff_not,qw];omega
 trans x y z h1 h2:=by simp only [ltOf,decide_eq_true_eq,qw] at *;omega
 ntrans x y z h1 h2:=by simp only [ltOf,decide_eq_false_iff_not,qw] at *;omega
def XJ (x y:J8)(h1:ltOf Ka x y=F)(h2:ltOf Ka y x=F):x=y:=by
 simp only [ltOf,decide_eq_false_iff_not,qw] at *
 obtain ⟨⟨a,b⟩,⟨c,d⟩,e⟩:=x;obtain ⟨⟨a',b'⟩,⟨c',d'⟩,e'⟩:=y;simp only at h1 h2;obtain rfl:a=a' :=V
 obtain rfl:b=b' :=V
 obtain rfl:c=c' :=V
 obtain rfl:d=d' :=V
 obtain rfl:e=e' :=Rv V;rfl
def D7.vals (p:D7):List Value:=[.int .i64 p.1,.int .i64 p.2]
def MV {G:Gh}{I:O5}{N:Nat->Prop}{w:World}(f:J8):VR G I N w .none (KG f) (.agg (J8.vals f).toArray):=by
 simp only [KG,VR];exact ⟨_,rfl,by simp only [J8.vals,H6,VR,DR];exact ⟨_,_,rfl,rfl,_,_,rfl,rfl,_,_,rfl,rfl,_,_,rfl,rfl,_,_,rfl,rfl,rfl⟩⟩
def Bh {G:Gh}{I:O5}{N:Nat->Prop}{w:World}(f:D7):VR G I N w .none (AM f) (.agg (D7.vals f).toArray):=by
 simp only [AM,VR];exact ⟨_,rfl,by simp only [D7.vals,H6,VR,DR];exact ⟨_,_,rfl,rfl,_,_,rfl,rfl,rfl⟩⟩
def EH {f:FuncId}{a b:c7}{x y:Value}{n:Int}(h:Pf A0 f [a,b] (.d (Z n)))(hv:∀w,H6 (G0 w) (λ_=>(0,0)) (λ_=>False) w [a,b] [x,y])(w:World) :
  Calls Tryz.prog f #[x,y] w λe w' =>e= .returned (.int .i64 n)/\∃q os,w' =grow (w.drewN q) os:=by
 obtain ⟨N,hN⟩:=h;refine (@EL ⟨True⟩ trivial Tryz.prog A0 (@Ut ⟨True⟩) N f [a,b] #[x,y] w _ (hN N (j9 _)) (hv w)).mono ?_;rintro e w' ⟨v,G',I',N',rfl,hv,hw⟩;simp only [VR,DR] at hv;subst hv;exact ⟨rfl,hw⟩
def ad1 (blk off size:Nat)(w:World):CmpLays Tryz.prog 164 #[] J8.vals 5 Ka blk off size w:=λm os dk _ x y =>
 EH (au7 x y) (λw=>by simp only [H6];exact ⟨_,_,rfl,MV x,_,_,rfl,MV y,rfl⟩) _
def ad2 (blk off size:Nat)(w:World):CmpLays Tryz.prog 118 #[] D7.vals 2 mD blk off size w:=λm os dk _ x y =>
 EH (Mp x y) (λw=>by simp only [H6];exact ⟨_,_,rfl,Bh x,_,_,rfl,Bh y,rfl⟩) _
theorem Pz (blk off cap:Nat)(fs:List J8)(w:World)(h1:HoldsK J8.vals 5 w blk off fs.toArray)(h2:blk<w.heap.size)(h3:O fs<4611686018427387904):Calls Tryz.prog 163 #[.slice (J ⟨blk,off,K⟩) (O fs) cap,.func (.func 164) #[] #[]] w λe w' =>
   e= .returned (.tuple #[])/\∃n os,w' =grow (putRowK J8.vals 5 (Sort.ahead w n) blk off (aY fs).toArray) os:=by
 have eg:∀args w,(callFunc 164 args).run Tryz.prog w= .ok (.enter 164 args) w:=enters_of Tryz.func164 (by kernel_rfl) rfl;rw [aY,<- kV (λa b c h1 h2=>by rw [qw] at *;omega) (λa b h=>by rw [qw] at *;omega) (λa b h1 h2=>XJ a b (by simpa [ltOf] using h2) (by simpa [ltOf] using h1)) fs];exact AnyQ.slices_SortFunc_total Tryz.sortQ 5 (λw=>by kernel_rfl) (λw=>by kernel_rfl) J8.vals (λ_=>rfl) (λx v hv=>by simp [J8.vals] at hv;rcases hv with rfl|rfl|rfl|rfl|rfl<;>rfl) Ka av7 164 #[] blk off cap fs.toArray w eg (ad1 blk off _ w) h1 h2 h3 XJ
theorem PA (blk off cap:Nat)(ps:List D7)(w:World)(h1:HoldsK D7.vals 2 w blk off ps.toArray)(h2:blk<w.heap.size)(h3:O ps<4611686018427387904):Calls Tryz.prog 89 #[.slice (J ⟨blk,off,K⟩) (O ps) cap,.func (.func 118) #[] #[]] w λe w' =>
   e= .returned (.tuple #[])/\∃n os,w' =grow (putRowK D7.vals 2 (Sort.ahead w n) blk off (sortP ps).toArray) os:=by
 have eg:∀args w,(callFunc 118 args).run Tryz.prog w= .ok (.enter 118 args) w:=enters_of Tryz.func118 (by kernel_rfl) rfl;rw [Go.y9.sortP,<- kV (λa b c h1 h2=>by rw [dn] at *;omega) (λa b h=>by rw [dn] at *;omega) (λa b h1 h2=>PI a b (by simpa [ltOf] using h2) (by simpa [ltOf] using h1)) ps];exact AnyQ.slices_SortFunc_total Tryz.sortP 2 (λw=>by kernel_rfl) (λw=>by kernel_rfl) D7.vals (λ_=>rfl) (λx v hv=>by simp [D7.vals] at hv;rcases hv with rfl|rfl<;>rfl) mD XG 118 #[] blk off cap ps.toArray w eg (ad2 blk off _ w) h1 h2 h3 PI
theorem OZ (prom:FuncId->Bool):aD Tryz.prog prom 163 (qR 164) :=
 FE (by kernel_rfl) Pz λp cap fv w=>AnyF.slices_SortFunc_none (P:=Tryz.prog) (ρ:=Tryz.sortQ_ren) { Tryz.sortQ with } p cap fv w
end Go.Proofs.YtibjocmpkoepoaaGreat
namespace Go.Proofs.YtibjocmpkoepoaaGreat
open Go.RowKit Go.Maps
def pv (p:Int×Int):Value:= .agg #[.int .i64 p.1,.int .i64 p.2]
def XL:Value->Int×Int
 | .agg cs=>match cs.toList with
  |[.int _ a,.int _ b]=>(a,b)
  |_=>(0,0)
 |_=>(0,0)
def PJ (p:Int×Int):XL (pv p)=p:=rfl
def xD:List (Int×Int)->List Value
 |[]=>[]
 |p::r=> .int .i64 p.1:: .int .i64 p.2::xD r
theorem Cf (p:Int×Int):∀l:List (Int×Int),xD (l++[p])=xD l++[.int .i64 p.1,.int .i64 p.2]
 |[]=>rfl
 |q::l=>by simp [x7,xD,Cf p l]
theorem dD:∀l:List (Int×Int),O (xD l)=O l * 2
 |[]=>rfl
 |q::l=>by simp [xD,o8,dD l];omega
def ug (es:Array MapEntry)(seen:Array Nat)(tp:List (Int×Int)):Prop:=∃tk:List MapEntry,tk.map (·.key)=tp.map pv/\(tk++(leftOf es seen).toList).Perm es.toList
def ug.start (es:Array MapEntry):ug es #[] []:=⟨[],rfl,by
 grind [leftOf,Array.toList_filter,List.filter_eq_self,List.Perm.refl]⟩
theorem yT (es:Array MapEntry)(seen:Array Nat)(b:Nat):(leftOf es (seen.push b)).toList=(leftOf es seen).toList.filter (λx=>x.born != b):=by
 grind [leftOf,Array.toList_filter,List.filter_filter,List.filter_congr,Array.contains_push,bne,Bool.and_comm]
theorem Dm:∀(l:List MapEntry) (e:MapEntry),e∈l->(l.map (·.born)).Nodup->(e::l.filter (λx=>x.born != e.born)).Perm l
 |[],_,h,_=>by cases h
 |x::l,e,h,hn=>by
  simp [E8,List.nodup_cons] at hn
  rcases List.mem_cons.1 h with rfl|h
  .have:l.filter (λx=>x.born != e.born)=l:=by
    simp_all
   simp [this]
  .have hx:x.born≠e.born:=by
    grind
   have hx' :(x.born != e.born)=W:=M
   rw [List.filter_cons,if_pos hx'];exact (List.Perm.swap x e _).trans ((Dm l e h hn.2).cons x)
def ug.step {es:Array MapEntry}{seen:Array Nat}{tp:List (Int×Int)}(h:ug es seen tp)(hn:(es.toList.map (·.born)).Nodup){e:MapEntry}(he:e∈(leftOf es seen).toList){p:Int×Int}(hk:e.key=pv p) :
  ug es (seen.push e.born) (tp++[p])/\(leftOf es (seen.push e.born)).size<(leftOf es seen).size:=by
 obtain ⟨tk,h1,h2⟩:=h;have hn' :((leftOf es seen).toList.map (·.born)).Nodup:=by
  grind
 have hp:=Dm _ e he hn';refine ⟨⟨tk++[e],by simp [h1,hk],?_⟩,?_⟩
 .rw [yT,G8]
  exact (List.Perm.append_left tk hp).trans h2
 .have:=hp.length_eq
  grind [yT,o8,Array.length_toList]
def ug.done {es:Array MapEntry}{seen:Array Nat}{tp:List (Int×Int)}(h:ug es seen tp)(h0:(leftOf es seen).size=0){ks:List (Int×Int)}(hk:es.toList.map (·.key)=ks.map pv):tp.Perm ks:=by
 obtain ⟨tk,h1,h2⟩:=h;have e0:(leftOf es seen).toList=[]:=by
  simp_all
 rw [e0,List.append_nil] at h2;have h3:=h2.map (·.key);have h4:=h3.map XL;simp_all [List.map_map,Function.comp_def,PJ]
theorem ug.len {es:Array MapEntry}{seen:Array Nat}{tp:List (Int×Int)}(h:ug es seen tp):O tp+(leftOf es seen).size=es.size:=by
 obtain ⟨tk,h1,h2⟩:=h;have e1:=congrArg List.length h1;have e2:=h2.length_eq
 grind
def JY (w:World)(x y:Value)(t:TypeId){k:Nat}(hk:k=w.heap.size):∀j u,[x,y][j]? =J u->(w.alloc (.cells #[x,y] t)).cell? ((⟨k,0,K⟩:Addr).add j)=J u:=by
 intro j u hj;subst hk;have e:∀i,(w.alloc (.cells #[x,y] t)).cell? ⟨w.heap.size,i,K⟩= #[x,y][i]? :=λi=>by
  simp_all
 match j,hj with
 |0,hj=>exact (e 0).trans hj
 |1,hj=>exact (e 1).trans hj
def Qy (w:World)(r:Nat):Nat:=match w.heap[r]? with
 |some (.mapIter (J bm) _ seen _)=>(match w.heap[bm]? with
  |some (.map es _)=>(leftOf es seen).size
  |_=>0)
 |_=>0
section
variable {d7:Fence} {n:Nat} {P:Program} (w:World) {ops:Array Oper} {rest:List Oper} {o:Oper} {a:Act} {Q:Exit->Act->World->Prop}
def nQ (hg:o.guard=K)(m:Operand)(t:TypeId)(hop:o.op=Op.range t m)(k e:TypeId)(ht:P.underlying t=J (.map k e))(b:Nat)(es:Array MapEntry)(cV:Nat)(hm:a.eval m= .map (J b))(hb:w.heap[b]? =J (.map es cV))
  (hK:wpListIn d7 n P ops Q rest (a.put o.dst (.pointer (J ⟨w.heap.size,0,K⟩))) (w.alloc (.mapIter (J b) cV #[] cV))) :
  wpListIn d7 n P ops Q (o::rest) a w:=by
 refine wpListIn_plain hg λK' XW =>?_
 have hrun:=run_range_map w t k e b es cV ht hb;refine ⟨?_,?_⟩
 .simp [Oper.about,hop]
 .rw [Oper.semAt_plain d7 _ _ M]
  simp [execOp,hop,hm,hrun];exact XW _ _ hK
def qf (hg:o.guard=K)(it:Operand)(hop:o.op=Op.next it F)(b r:Nat)(es:Array MapEntry)(cV:Nat)(seen:Array Nat)(hit:a.eval it= .pointer (J ⟨r,0,K⟩))
  (hr:w.heap[r]? =J (.mapIter (J b) cV seen cV)) (hb:w.heap[b]? =J (.map es cV)) (hold:∀x∈es.toList,x.born<cV) (hn:(es.toList.map (·.born)).Nodup) (hkeys:∀e∈es.toList,∃p,e.key=pv p) (hbr:b≠r)
  (hDone:(leftOf es seen).size=0->wpListIn d7 n P ops Q rest (a.put o.dst (.tuple #[.bool F])) w)
  (hMore:∀(e:MapEntry) (p:Int×Int) (v:Value) (w' :World),e∈(leftOf es seen).toList->e.key=pv p->w.grownBy w' (J r)->w'.heap.size=w.heap.size->w'.heap[r]? =J (.mapIter (J b) cV (seen.push e.born) cV)->w'.heap[b]? =J (.map es cV) ->
   (Instr.entry (.pointer (J ⟨r,0,K⟩))).run P w' = .ok (.tuple #[pv p,v]) w' ->wpListIn d7 n P ops Q rest (a.put o.dst (.tuple #[.bool W,pv p,v])) w') :
  wpListIn d7 n P ops Q (o::rest) a w:=by
 refine wpListIn_plain hg λK' XW =>?_
 refine ⟨by simp [Oper.about,hop],?_⟩;rw [Oper.semAt_plain d7 _ _ M]
 rcases run_next_at (P:=P) w o.type r b cV cV seen es cV hr hb hold (j9 _) with ⟨h0,hrun⟩|⟨e,he,w1,hw1,hrun⟩
 .simp [execOp,hop,hit,hrun]
  exact XW _ _ (hDone h0)
 .have Nh:e∈es.toList:=by
   have:e∈(Array.filter (λe=> !seen.contains e.born) es).toList:=he;simp_all
  obtain ⟨p,hp⟩:=hkeys e Nh;simp [execOp,hop,hit,hrun];have hsz:(ChangeMaps.setBlock w1 r (.mapIter (J b) cV (seen.push e.born) cV)).heap.size=w.heap.size:=by
   rcases hw1 with rfl|rfl<;>simp [ChangeMaps.setBlock]
  have hlt:r<w.heap.size:=by
   grind
  have hr' :(ChangeMaps.setBlock w1 r (.mapIter (J b) cV (seen.push e.born) cV)).heap[r]? =J (.mapIter (J b) cV (seen.push e.born) cV):=by
   simp_all [ChangeMaps.setBlock]
  have Iu:∀k,k≠r->(ChangeMaps.setBlock w1 r (.mapIter (J b) cV (seen.push e.born) cV)).heap[k]? =w.heap[k]? :=by
   intro k hk
   rcases hw1 with rfl|rfl
   .grind [ChangeMaps.setBlock]
   .simp [ChangeMaps.setBlock,Ne.symm hk]
    rfl
  have hb' :=(Iu b hbr).trans hb;have Sd:=run_entry_at (P:=P) _ r b cV seen es cV e hr' hb' Nh hn;rw [hp] at Sd ⊢;refine XW _ _ (hMore e p e.val _ he hp ⟨?_,?_,?_,Nat.le_of_eq hsz.symm,λk _ hk=>Iu k (λe=>hk (by rw [e]))⟩ hsz hr' hb' Sd)
  all_goals (rcases hw1 with rfl|rfl<;>rfl)
end
theorem SA:(Tryz.prog.info? 44).map (λi=>(i.zero,i.size,i.bytes))=J (J (.agg #[.int .i64 0,.int .i64 0]),2,16):=by kernel_rfl
set_option maxRecDepth 100000 in
set_option maxHeartbeats 2000000 in
def sP (bm:Nat)(es:Array MapEntry)(cV:Nat)(ks srt:List (Int×Int))(w:World)(hb:w.heap[bm]? =J (.map es cV))(hold:∀x∈es.toList,x.born<cV)(hn:(es.toList.map (·.born)).Nodup)(hk:es.toList.map (·.key)=ks.map pv)(hlen:O ks<=1000000)
  (hsort:∀(v:Value) (ps:List (Int×Int)) (d6:World),d6.ownsRow w.heap.size 44 2 v (O ps) (xD ps)->ps.Perm ks->Calls Tryz.prog 89 #[v,.func (.func 118) #[] #[]] d6 λe W' =>
   e= .returned (.tuple #[])/\W'.ownsRow w.heap.size 44 2 v (O ps) (xD srt)/\d6.grownBy W' v.ownBlock) :
  Calls Tryz.prog 63 #[.map (J bm)] w λe w' =>∃v,e= .returned v/\w'.ownsRow w.heap.size 44 2 v (O ks) (xD srt)/\Below w.heap.size w w' :=by
 obtain ⟨i0,hi,hz0,Ol,Cu⟩:=info_parts SA;have hbl:bm<w.heap.size:=by
  grind
 have hkeys:∀e∈es.toList,∃p,e.key=pv p:=by
  intro e he;have:e.key∈ks.map pv:=by grind
  grind
 have aQ6:es.size=O ks:=by
  have:=congrArg List.length hk
  grind
 refine (callsIn_wide (n:=68)).1 ?_;refine callsIn_of_wp Tryz.func63 rfl trivial ?_ rfl;simp only [Tryz.ntmps63,List.size_toArray,o8,A4,K2,Nat.reduceSub,Array.replicate_succ,Array.replicate_zero,List.push_toArray,List.append_toArray,y6,x7]
 gi_wp2_with (first
  |(gi_at_range;refine nQ _ rfl _ 124 rfl 44 4 Tryz.underlying124 bm es cV rfl hb ?_)
  |gi_in)
 go_frame
 gi_loopw [3] (λv wr=>∃(seen:Array Nat) (tp:List (Int×Int)),wr.heap[w.heap.size]? =J (.mapIter (J bm) cV seen cV)/\wr.heap[bm]? =J (.map es cV)/\ug es seen tp/\wr.ownsRow w.heap.size 44 2 v (O tp) (xD tp)/\Below w.heap.size w wr)
  (λ_ wr=>Qy wr w.heap.size)
 case atStart =>
  exact ⟨#[],[],heap_alloc_new _ _,(Below.heap_alloc _ _ _ hbl).trans hb,ug.start es,World.ownsRow_nil _ _ _ _,(Below.refl _ _).alloc (j9 _) _⟩
 case round =>
  obtain ⟨seen,tp,hr,hbb,hC,hrow,Ye⟩:=hrel
  gi_wp2_with (first
   |(gi_at_next;refine qf _ rfl _ rfl bm w.heap.size es cV seen rfl hr hbb hold hn hkeys V ?_ ?_)
   |gi_in)
  .intro h0
   have Cs:=hC.done (by rw [h0];rfl) hk;have hc:=hsort _ tp _ hrow Cs;clear h0
   gi_wp2_with (refine ⟨trivial,?_⟩;gi_at_call 89;refine ((callsIn_wide).2 hc).mono ?_;rintro e w' ⟨rfl,VF,hg'⟩)
   refine ⟨rfl,_,results_tmp rfl _ _ _,u3,rfl,?_,Ye.grown hg' Ye.size (λj hj=>(hrow.lt j hj).1)⟩;rw [<- Cs.length_eq];exact VF
  .intro e p1 p2 v' w2 he hp hg2 hs2 Fb RV Sd
   have yI:=hrow.kept hg2 (by
    by_cases h:u3.ownBlock=K
    .simp_all
    .refine Or.inr λe1=>?_
     rcases hrow.2 with ⟨rfl,_⟩|⟨g,cap,cur,rfl,_,hgg,_⟩
     all_goals simp_all [Value.ownBlock,Option.some.injEq])
   have aS6:=hg2.size;have hstep:=hC.step hn (Array.mem_toList_iff.2 he) (p:=(p1,p2)) hp;have aB3:O tp+1<=1000000:=by
    have:=hC.len;omega
   have ai1:Below w.heap.size w w2:=Ye.grown hg2 Ye.size (λj hj=>M);clear hs2;simp only [pv] at Sd ⊢
   gi_wp2_with (gi_at_builtin;go_loud (refine wpListIn_append_own _ rfl _ _ 49 rfl w.heap.size 44 i0 _ 2 16 Tryz.underlying49 hi hz0 Ol Cu rfl (by decide) _ _ _ rfl ((yI.alloc _).alloc _) ⟨w2.heap.size+1,0,K⟩ 1 1 [.int .i64 p1,.int .i64 p2] rfl rfl (JY _ _ _ _ U) (by simp [Value.oneCell']) (by grind [maxLen]) V (by simp_all<;>grind) ?_;intro v3 w3 hown' hg3 aB6;go_frame))
   have hg4:World.grownBy _ w3 u3.ownBlock:=hg3;have hkeep:∀(b:Nat) (o:Obj),w2.heap[b]? =J o->(∀c t f,o≠Obj.cells c t f)->w3.heap[b]? =J o:=by
    intro b o cQ hno;have hlt:b<w2.heap.size:=by
     grind
    rw [hg4.block b D (λe1=>by
     rcases yI.2 with ⟨rfl,_⟩|⟨g,cap,cur,rfl,_,hgg,_⟩
     all_goals simp_all [Value.ownBlock,Option.some.injEq]),Below.heap_alloc _ _ _ D,Below.heap_alloc _ _ _ hlt]
    exact cQ
   have hr3:=hkeep _ _ Fb U;have hb3:=hkeep _ _ RV U;have ai2:Below w.heap.size w w3:=((ai1.alloc (by grind) _).alloc (by simp_all<;>grind) _).grown hg4 (by simp_all<;>grind) (λj hj=>(yI.lt j hj).1)
   go_roundw
   case rel=>exact ⟨_,_,hr3,hb3,hstep.1,by simp_all [Cf,k8],ai2⟩
   simp_all [measure,Qy]
#print axioms sP
end Go.Proofs.YtibjocmpkoepoaaGreat
namespace Go.y9
open Go.RowKit
section
variable {w w' :World} {G G' :Gh} {I:O5} {N:Nat->Prop} {l:F9} {H:k9}
def qp (hB:Below w.heap.size w w')(hwf:WF G w)(hG:∀b,b<w.heap.size->G' b=G b):Ext G w G' w' where
 os:=hB.os
 tape:=hB.tape
 output:=hB.output
 size:=hB.size
 gO b o hi:=by
  have hb:b<w.heap.size:=Y0 hwf (by grind [eT]);exact ⟨by simp_all [eT],by simp [World.cell?,hB.block b hb]⟩
 still b hb:=by
  have hlt:b<w.heap.size:=Y0 hwf (by grind);exact ⟨hG b hlt,hB.block b hlt⟩
 shape b c e f hc:=by
  have hlt:b<w.heap.size:=by
   grind
  exact ⟨c,(hB.block b hlt).trans hc,rfl⟩
 drawn h:=h.elim
def rM (hB:Below w.heap.size w w')(hwf:WF G w)(hG:∀b,b<w.heap.size->G' b=G b)(q:Place):X7 q G w G' w' :=λb n hb=>by
 have hlt:b<w.heap.size:=Y0 hwf (by rw [hb];simp);exact ⟨(hG b hlt).trans hb,hB.block b hlt⟩
def um (hB:Below w.heap.size w w')(hwf:WF G w)(hG:∀b,b<w.heap.size->G' b=G b)(b id:Nat)(hb:G b= .obj id):G' b= .obj id/\w'.heap[b]? =w.heap[b]? :=by
 have hlt:b<w.heap.size:=Y0 hwf (by rw [hb];simp);exact ⟨(hG b hlt).trans hb,hB.block b hlt⟩
def Ey {args:List c7}{H9:Array Value}(hp:xb l H w G I N args H9)(hB:Below w.heap.size w w')(hG:∀b,b<w.heap.size->G' b=G b)(hwf' :WF G' w'){v:c7}{x:Value}(hv:VR G' I N w' .ret v x):jC l H w G I N v H x w' G' I N :=
 ⟨hv,λid o ho=>OR.mono (qp hB hp.wf hG) (λ_ _=>rfl) (λ_ h=>h) id o (λh=>um hB hp.wf hG _ _ h) (λ_=>rM hB hp.wf hG _) (hp.hr id o ho),hwf',qp hB hp.wf hG,
  λid _=>⟨λb hb=>um hB hp.wf hG b id hb,λ_=>rM hB hp.wf hG _⟩,λ_ _ _=>rfl,λ_ h=>h,λ_ _ h=>h,hp.Y8,λ_ o' _ ho=>Or.inr ⟨o',ho,j9 _⟩,hp.Q7⟩
def TR (G:Gh)(w:World)(cs:List Data)(news:List Value):Prop:=O news=O cs/\∀(j:Nat) (c:Data),cs[j]? =J c->∃u,news[j]? =J u/\DR G w c u
theorem cS.of {b:Nat}:∀(o:Nat) (cs:List Data),(∀(j:Nat) (c:Data),cs[j]? =J c->eT G b (o+j)/\∃u,w.cell? (ad b (o+j))=J u/\DR G w c u)->cS G w b o cs
 |_,[],_=>by simp [cS]
 |o,c::cs,h=>by
  obtain ⟨h1,h2⟩:=h 0 c rfl;refine ⟨h1,h2,cS.of (o+1) cs λj c hj=>?_⟩;have:=h (j+1) c (by simpa using hj)
  rwa [show o+(j+1)=o+1+j by omega] at this
def DR.one {d:Data}{v:Value}(h:DR G w d v):v.oneCell' =W:=by
 cases d<;>simp [DR] at h
 case slice len cells=>rcases h with ⟨h|⟨a,h⟩,_⟩|⟨b,o,cap,h,_⟩<;>subst h<;>rfl
 all_goals (subst h;rfl)
theorem TR.mono {cs:List Data}{news:List Value}(h:TR G w cs news)(hx:Ext G w G' w'):TR G' w' cs news:=⟨h.1,λj c hj=>by
 obtain ⟨u,h1,h2⟩:=h.2 j c hj;exact ⟨u,h1,DR.mono hx.gO c u h2⟩⟩
def TR.Df {cs:List Data}{news:List Value}(h:TR G w cs news):∀u∈news,u.oneCell' =W:=by
 intro u hu;obtain ⟨j,hj,rfl⟩:=List.mem_iff_getElem.1 hu;have hl:=h.1;obtain ⟨u',h1,h2⟩:=h.2 j (cs[j]' V) (n9 V);rw [n9 hj] at h1;cases h1;exact h2.one
def OP {e z n:Nat}{v:Value}{news:List Value}{cs:List Data}(hown:w'.ownsRow w.heap.size e z v n news)(hB:Below w.heap.size w w')(hwf:WF G w)(hd:TR G w cs news) :
  ∃G',(∀b,b<w.heap.size->G' b=G b)/\WF G' w' /\VR G' I N w' .ret (.own z n cs) v:=by
 obtain ⟨h1,h2⟩:=hown;have hl:O cs=n * z:=by rw [<- hd.1];exact h1
 rcases h2 with ⟨rfl,rfl⟩|⟨g,cap,cur,rfl,hg,hh,hc1,oG,Qh,hc4⟩
 .refine ⟨G,λ_ _=>rfl,λb hb=>hwf b (p7 hB.size hb),?_⟩
  simp_all [VR,trivial]
 .have hlt:g<w'.heap.size:=by
   grind
  have hG:∀b,b<w.heap.size->(dc G g (.grow (0+n * z) .ret)) b=G b:=λb hb=>G5 V
  refine ⟨dc G g (.grow (0+n * z) .ret),hG,λb hb=>?_,?_⟩
  .rw [G5 V]
   exact hwf b (p7 hB.size hb)
  .have hd' :=hd.mono (qp hB hwf hG)
   refine ⟨hl,Or.inr ⟨U,g,0,cap,cur,e,(0,0),rfl,hc1,hh,V,iR _,U,cS.of 0 cs λj c hj=>?_⟩⟩;obtain ⟨u,g1,g2⟩:=hd'.2 j c hj;simp_all [eT,World.cell?]<;>grind
def EW {P:Program}{prom:FuncId->Bool}{f:FuncId}{z e:Nat}(hcan:P5 P f=W)
  (hG:∀(n:Nat) (w:World),0<n->n<=1000000->Calls P f #[.slice K 0 0,.int .i64 n] w λx w' =>∃(cap:Nat) (c:Array Value),x= .returned (.slice (J ⟨w.heap.size,0,K⟩) 0 cap)/\w' =w.drew.alloc (.cells c e)/\c.size=cap * z):aD P prom f (qP z):=by
 refine ⟨hcan,λargs H l v H1 hrun w G I N H9 hp _=>?_⟩;unfold qP at hrun;split at hrun
 next n=>
  split at hrun
  .cases hrun
   obtain ⟨m,rfl⟩:∃m:Nat,n=m:=⟨n.toNat,V⟩;have ha:=hp.args;simp [H6,VR,DR] at ha;have hv:H9= #[.slice K 0 0,.int .i64 m]:=by
    grind
   subst hv;refine (hG m w V V).mono ?_;rintro e' w' ⟨cap,c,rfl,rfl,hc⟩;have hN:fF w (w.drew.alloc (.cells c e)) (.cells c e):=(fF.alloc w (.cells c e)).drew (w.drawn+1) (Nat.le_succ _);refine ⟨_,dc G w.heap.size (.grow 0 .ret),I,N,rfl,?_,hN.hr hp.wf _ (λ_ _=>rfl) (λ_ h=>h) hp.hr,hN.wf hp.wf _,hN.ext hp.wf _,hN.aV hp.wf _ _,λ_ _ _=>rfl,λ_ h=>h,λ_ _ h=>h,hp.Y8,λ_ o' _ ho=>Or.inr ⟨o',ho,j9 _⟩,hp.Q7⟩;exact ⟨U,Or.inr ⟨U,w.heap.size,0,cap,c,e,_,rfl,x3 _,hN.new,V,iR _,U,by simp [cS]⟩⟩
  .cases hrun
 .cases hrun
end
end Go.y9
namespace Go.Proofs.YtibjocmpkoepoaaGreat
open Go.RowKit Go.Maps Go.y9 Go.Sort Go.Proofs
theorem uX:∀ps:List (Int×Int),xD ps=ps.flatMap D7.vals
 |[]=>rfl
 |(a,b)::r=>by rw [xD,uX r];rfl
theorem zj:∀(ps:List (Int×Int)) (i:Nat) (d:y9.Data),(V9 ps)[i]? =J d->∃u,(xD ps)[i]? =J u/\∀G w,DR G w d u
 |[],i,d,h=>by simp [V9] at h
 |(a,b)::r,0,d,h=>by simp [V9] at h;subst h;exact ⟨_,rfl,λG w=>by simp [DR]⟩
 |(a,b)::r,1,d,h=>by simp [V9] at h;subst h;exact ⟨_,rfl,λG w=>by simp [DR]⟩
 |(a,b)::r,i+2,d,h=>by
  simp only [V9,List.getElem?_cons_succ] at h;simpa only [xD,List.getElem?_cons_succ] using zj r i d h
theorem kO:∀l:List (Int×Int),O (V9 l)=O l * 2
 |[]=>rfl
 |q::l=>by simp only [V9,o8,kO l];omega
theorem GV {G:Gh}{I:O5}{N:Nat->Prop}{w:World}:∀(es:List (Key×c7)) (ks:List (Int×Int)) (arr:List MapEntry),nE es=J ks->ER G I N w es arr->arr.map (·.key)=ks.map pv
 |[],ks,arr,h,hE=>by
  simp [nE] at h;simp [ER] at hE;subst h hE;rfl
 |(k,v)::r,ks,arr,h,hE=>by
  simp only [ER] at hE;obtain ⟨e,es',rfl,h1,_,h3⟩:=hE;unfold nE at h;split at h
  .rename_i heq;cases heq
  next a b v' r' heq=>
   cases heq;split at h
   next l hl=>
    cases h;rw [E8,GV _ l es' hl h3,h1];rfl
   .cases h
  .cases h
def MB (m:Nat)(v:Value)(ps:List D7)(d6:World)(hlen:O ps<=1000000)(hrow:d6.ownsRow m 44 2 v (O ps) (xD ps)):Calls Tryz.prog 89 #[v,.func (.func 118) #[] #[]] d6 λe W' =>
   e= .returned (.tuple #[])/\W'.ownsRow m 44 2 v (O ps) (xD (sortP ps))/\d6.grownBy W' v.ownBlock:=by
 obtain ⟨hl,⟨rfl,h0⟩|⟨g,cap,cur,rfl,hg,hh,hc1,oG,Qh,hc4⟩⟩:=hrow
 .have hp0:ps=[]:=List.length_eq_zero_iff.1 h0
  subst hp0;have h:=AnyF.slices_SortFunc_none (P:=Tryz.prog) (ρ:=Tryz.sortP_ren) { Tryz.sortP with } K 0 (.func (.func 118) #[] #[]) d6;refine h.mono ?_;rintro e W' ⟨rfl,rfl⟩;exact ⟨rfl,by rw [show sortP []=([]:List D7) from rfl];exact World.ownsRow_nil _ _ _ _,World.grownBy.refl _ _⟩
 .have hlt:g<d6.heap.size:=by
   rcases y7 g d6.heap.size with h|h
   .exact h
   .rw [Array.getElem?_eq_none h] at hh;cases hh
  have hsz:O (sortP ps)=O ps:=X0 ps;have hcell:∀j,j<O ps * 2->cur[j]? =(xD ps)[j]? :=λj hj=>by
   rw [<- hc4,List.getElem?_take,if_pos hj];simp
  refine (PA g 0 cap ps d6 ?_ hlt V).mono ?_
  .unfold HoldsK
   rw [dF D7.vals 2 (λ_=>rfl),<- uX];intro j hj;have hj' :j<O (xD ps):=by simpa using hj
   have hj2:j<O ps * 2:=by rw [<- dD];exact hj'
   constructor
   .show d6.cell? ⟨g,0+j,K⟩=_
    simp only [World.cell?,hh,Nat.zero_add];rw [hcell j hj2];simp [hj']
   .show d6.frozen? ⟨g,0+j,K⟩=_
    simp only [World.frozen?,hh];simp
  .rintro e W' ⟨rfl,n,os,rfl⟩
   have hR:=fV _root_.id d6 n g 0 (xD (sortP ps)) os;rw [List.map_id] at hR;unfold putRowK;rw [dF D7.vals 2 (λ_=>rfl),<- uX];obtain ⟨W',hW⟩:∃W',grow (putRow _root_.id (Sort.ahead d6 n) g 0 (xD (sortP ps)).toArray) os=W' :=⟨_,rfl⟩;rw [hW] at hR ⊢;obtain ⟨c',g1,g2,g3,g4⟩:=hR.here cur 44 (0,0) hh;refine ⟨rfl,⟨by rw [dD,hsz],.inr ⟨g,cap,c',rfl,hg,g1,hc1,oG,V,?_⟩⟩,⟨hR.os,hR.tape,hR.output,hR.size,λk hk hne=>hR.other k hk (λe=>hne (by rw [e];rfl))⟩⟩;apply List.ext_getElem?;intro j;rw [List.getElem?_take];split
   next hj=>
    have hj' :j<O (xD (sortP ps)):=by rw [dD,hsz];exact hj
    have:=g4 j _ V (n9 hj');rw [Nat.zero_add] at this;rw [n9 hj',<- this];simp
   next hj=>
    rw [List.getElem?_eq_none];rw [dD,hsz];omega
theorem Tl (prom:FuncId->Bool):aD Tryz.prog prom 63 ua:=by
 refine ⟨by kernel_rfl,λargs H l v H1 hrun w G I N H9 hp _=>?_⟩;unfold ua at hrun;split at hrun
 next id=>
  split at hrun
  next es Nh=>
   split at hrun
   next ks hks=>
    split at hrun
    next hlen=>
     cases hrun;obtain ⟨x,rfl,hv⟩:=jV hp.args;simp only [VR] at hv;obtain ⟨hN,rfl⟩:=hv;have hO:=hp.hr id _ Nh;simp only [OR] at hO;obtain ⟨_,arr,cV,h1,_,hE,hB⟩:=hO;have hk:=GV es ks arr.toList hks hE;refine (sP (I id).1 arr cV ks (sortP ks) w h1 hB.old hB.nodup hk hlen ?_).mono ?_
     .intro v ps d6 hown Cs
      have:=Cs.length_eq;rw [<- xQ Cs];exact MB _ v ps d6 V hown
     .rintro e w' ⟨v,rfl,hown,hBl⟩
      obtain ⟨G',hG,hwf',Oj⟩:=OP (I:=I) (N:=N) (cs:=V9 (sortP ks)) hown hBl hp.wf ⟨by rw [dD,kO],λj c hj=>by
       obtain ⟨u,u1,u2⟩:=zj (sortP ks) j c hj;exact ⟨u,u1,u2 _ _⟩⟩
      exact ⟨_,G',I,N,rfl,Ey hp hBl hG hwf' Oj⟩
    .cases hrun
   .cases hrun
  .cases hrun
 .cases hrun
end Go.Proofs.YtibjocmpkoepoaaGreat
namespace Go.Proofs.YtibjocmpkoepoaaGreat
open Go.RowKit Go.Lib
theorem Lf:(Tryz.prog.info? 44).map (λi=>(i.zero,i.size,i.bytes))=J (J (.agg #[.int .i64 0,.int .i64 0]),2,16):=by kernel_rfl
set_option maxRecDepth 100000 in
set_option maxHeartbeats 4000000 in
def NU (n:Nat)(w:World)(h0:0<n)(hn:n<=1000000):Calls Tryz.prog 226 #[.slice K 0 0,.int .i64 n] w λe w' =>∃(cap:Nat) (c:Array Value),e= .returned (.slice (J ⟨w.heap.size,0,K⟩) 0 cap)/\w' =w.drew.alloc (.cells c 44)/\c.size=cap * 2:=by
 obtain ⟨i0,hi,hz0,Ol,Cu⟩:=info_parts Lf;have h1:¬ ((n:Int)<0):=V
 have h2:wrap64 ((0:Int) - 0)=0:=by unfold wrap64;omega
 have h3:wrap64 ((n:Int) - 0)=(n:Int):=by unfold wrap64;omega
 have h4:(n:Int)>0:=V
 have hGn:0+n<=grownCap w (0+n) 0 44:=grownCap_ge w _ _ _;have Lc:∀ty,(Builtin.append_ #[49,3] ty #[.slice K 0 0,.int .i64 (n:Int)]).run Tryz.prog w =
   .ok (.slice (J ⟨w.heap.size,0,K⟩) (0+n) (grownCap w (0+n) 0 44)) (w.drew.alloc (.cells ((#[]:Array Value)++Builtin.zeroCells (.agg #[.int .i64 0,.int .i64 0]:Value).cells n++Builtin.zeroCells (.agg #[.int .i64 0,.int .i64 0]:Value).cells (grownCap w (0+n) 0 44 - (0+n))) 44)):=λty=>by
  have h:=Lib.run_append_grow_zeros w 49 3 ty 44 i0 (.agg #[.int .i64 0,.int .i64 0]) .i64 .i64 Tryz.underlying49 Tryz.underlying3 hi hz0 K 0 0 [] (run_firstCells_none w.drew i0.size 0 0 0) n h0 V V V (by rw [Cu];omega) (growslice_fits V (by rw [Cu];omega));exact h
 have RQ:grownCap w (0+n) 0 44<=9223372036854775807:=by
  have:=grownCap_le_maxLen w (0+n) 0 44 (by unfold maxLen;omega);unfold maxLen at this;omega
 obtain ⟨G,hG⟩:∃G,G=grownCap w (0+n) 0 44:=⟨_,rfl⟩;rw [<- hG] at Lc hGn RQ;have hsz:((#[]:Array Value)++Builtin.zeroCells (.agg #[.int .i64 0,.int .i64 0]:Value).cells n++Builtin.zeroCells (.agg #[.int .i64 0,.int .i64 0]:Value).cells (G - (0+n))).size=G * 2:=by
  simp only [Array.size_append,size_zeroCells,Value.cells,List.size_toArray,o8,A4];omega
 obtain ⟨c0,hc0⟩:∃c0,c0=((#[]:Array Value)++Builtin.zeroCells (.agg #[.int .i64 0,.int .i64 0]:Value).cells n++Builtin.zeroCells (.agg #[.int .i64 0,.int .i64 0]:Value).cells (G - (0+n))):=⟨_,rfl⟩;rw [<- hc0] at Lc hsz;clear hG hc0 hi hz0 Ol Cu
 go_enter Tryz.func226,Tryz.ntmps226
 go_wp2_with (at_builtin;refine Lib.wpList_append_run _ rfl _ _ _ _ rfl _ _ rfl rfl _ _ (Lc _) ?_)
 all_goals (go_ret;exact ⟨G,rfl,c0,rfl,by first|exact hsz|omega⟩)
theorem Lg:(Tryz.prog.info? 3).map (λi=>(i.zero,i.size,i.bytes))=J (J (.int .i64 0),1,8):=by kernel_rfl
set_option maxRecDepth 100000 in
set_option maxHeartbeats 4000000 in
def NV (n:Nat)(w:World)(h0:0<n)(hn:n<=1000000):Calls Tryz.prog 279 #[.slice K 0 0,.int .i64 n] w λe w' =>∃(cap:Nat) (c:Array Value),e= .returned (.slice (J ⟨w.heap.size,0,K⟩) 0 cap)/\w' =w.drew.alloc (.cells c 3)/\c.size=cap * 1:=by
 obtain ⟨i0,hi,hz0,Ol,Cu⟩:=info_parts Lg;have h1:¬ ((n:Int)<0):=V
 have h2:wrap64 ((0:Int) - 0)=0:=by unfold wrap64;omega
 have h3:wrap64 ((n:Int) - 0)=(n:Int):=by unfold wrap64;omega
 have h4:(n:Int)>0:=V
 have hGn:0+n<=grownCap w (0+n) 0 3:=grownCap_ge w _ _ _;have Lc:∀ty,(Builtin.append_ #[22,3] ty #[.slice K 0 0,.int .i64 (n:Int)]).run Tryz.prog w =
   .ok (.slice (J ⟨w.heap.size,0,K⟩) (0+n) (grownCap w (0+n) 0 3)) (w.drew.alloc (.cells ((#[]:Array Value)++Builtin.zeroCells (.int .i64 0:Value).cells n++Builtin.zeroCells (.int .i64 0:Value).cells (grownCap w (0+n) 0 3 - (0+n))) 3)):=λty=>by
  have h:=Lib.run_append_grow_zeros w 22 3 ty 3 i0 (.int .i64 0) .i64 .i64 Tryz.underlying22 Tryz.underlying3 hi hz0 K 0 0 [] (run_firstCells_none w.drew i0.size 0 0 0) n h0 V V V (by rw [Cu];omega) (growslice_fits V (by rw [Cu];omega));exact h
 have RQ:grownCap w (0+n) 0 3<=9223372036854775807:=by
  have:=grownCap_le_maxLen w (0+n) 0 3 (by unfold maxLen;omega);unfold maxLen at this;omega
 obtain ⟨G,hG⟩:∃G,G=grownCap w (0+n) 0 3:=⟨_,rfl⟩;rw [<- hG] at Lc hGn RQ;have hsz:((#[]:Array Value)++Builtin.zeroCells (.int .i64 0:Value).cells n++Builtin.zeroCells (.int .i64 0:Value).cells (G - (0+n))).size=G * 1:=by
  simp only [Array.size_append,size_zeroCells,Value.cells,List.size_toArray,o8,A4];omega
 obtain ⟨c0,hc0⟩:∃c0,c0=((#[]:Array Value)++Builtin.zeroCells (.int .i64 0:Value).cells n++Builtin.zeroCells (.int .i64 0:Value).cells (G - (0+n))):=⟨_,rfl⟩;rw [<- hc0] at Lc hsz;clear hG hc0 hi hz0 Ol Cu
 go_enter Tryz.func279,Tryz.ntmps279
 go_wp2_with (at_builtin;refine Lib.wpList_append_run _ rfl _ _ _ _ rfl _ _ rfl rfl _ _ (Lc _) ?_)
 all_goals (go_ret;exact ⟨G,rfl,c0,rfl,by first|exact hsz|omega⟩)
end Go.Proofs.YtibjocmpkoepoaaGreat
namespace Go.Proofs.YtibjocmpkoepoaaGreat
open Go.y9 Go.Sort Go.Proofs
def Io (w:World):Calls Tryz.prog 279 #[.slice K 0 0,.int .i64 0] w λe w' =>e= .returned (.slice K 0 0)/\w' =w:=by
 go_wp2
 all_goals (go_ret;simp_all)
theorem Pa (prom:FuncId->Bool):aD Tryz.prog prom 226 (qP 2):=EW (by kernel_rfl) NU
theorem Pc (prom:FuncId->Bool):aD Tryz.prog prom 279 zf:=Ip (by kernel_rfl) Io λn w h0 hn=>(NV n w h0 hn).mono λe w' ⟨cap,c,h1,h2,h3⟩=>⟨cap,c,_,h1,h2,V⟩
theorem Pb (prom:FuncId->Bool):aD Tryz.prog prom 263 zg :=
 Jl (by kernel_rfl) (λblk off cap zs w h1 h2 h3=>Any.slices_Sort_int Tryz.lays189 blk off cap zs w h1 h2 h3) (λp cap w=>Any.slices_Sort_int_none Tryz.lays189 p cap w)
theorem EI (prom:FuncId->Bool):aD Tryz.prog prom 134 iK :=
 Ab (by kernel_rfl) (λblk off cap zs w h1 h2 h3=>Any.slices_Compact_int Tryz.lays20 blk off cap zs w h1 h2 h3)
def Kk (p:Option Addr)(cap:Nat)(w:World):Calls Tryz.prog 134 #[.slice p 0 cap] w λe w' =>e= .returned (.slice p 0 cap)/\w' =w:=by
 go_wp2
 all_goals (go_ret;simp_all)
theorem OY (prom:FuncId->Bool):aD Tryz.prog prom 134 qO:=by
 refine ⟨by kernel_rfl,λargs H l v H1 hrun w G I N H9 hp h0=>?_⟩;unfold qO at hrun;split at hrun
 .cases hrun
  obtain ⟨x,rfl,hv⟩:=jV hp.args;simp [VR,DR] at hv;have key:∃p cap,x= .slice p 0 cap:=by
   grind
  obtain ⟨p,cap,rfl⟩:=key;refine (Kk p cap w).mono ?_;rintro e w' ⟨rfl,rfl⟩;exact ⟨_,G,I,N,rfl,iL hp (by grind [VR,DR,cS])⟩
 .exact (EI prom).2 _ _ _ _ _ hrun w G I N H9 hp h0
end Go.Proofs.YtibjocmpkoepoaaGreat
namespace Go.y9
open Go.Sort
def xN (p:D7):List Data:=[Z p.1,Z p.2]
def di (p:D7):List Value:=[.int .i64 p.1,.int .i64 p.2]
theorem pg:∀l:List D7,V9 l=l.flatMap xN
 |[]=>rfl
 |(a,b)::l=>by simp [V9,pg l,xN,Z]
theorem sJ:∀(n:Nat) (cs:List Data) (fs:List D7),O cs<=n->zk cs=J fs->cs=fs.flatMap xN
 |_,[],fs,_,h=>by cases h;rfl
 |0,c::cs,fs,hn,h=>by simp at hn
 |n+1,c::cs,fs,hn,h=>by
  unfold zk at h;split at h
  .rename_i heq;cases heq
  next a b r heq=>
   cases heq;split at h
   next l hl=>
    cases h;rw [List.flatMap_cons,<- sJ n r l (by simp at hn;omega) hl];rfl
   .cases h
  .cases h
def AI (fs:List D7):O (fs.flatMap xN)=O fs * 2:=by
 induction fs with
 |nil=>rfl
 |cons a l ih=>rw [List.flatMap_cons,k8,ih,o8];simp [xN];omega
def AO (fs:List D7):O (fs.flatMap di)=O fs * 2:=by
 induction fs with
 |nil=>rfl
 |cons a l ih=>rw [List.flatMap_cons,k8,ih,o8];simp [di];omega
theorem qS:∀(fs:List D7) (j:Nat) (d:Data) (u:Value),(fs.flatMap xN)[j]? =J d->(fs.flatMap di)[j]? =J u->vZ d=J u
 |[],j,d,u,h,_=>by simp at h
 |f::fs,j,d,u,h,h2=>by
  rw [List.flatMap_cons] at h h2
  rcases y7 j 2 with hj|hj
  .rw [s9 (by simpa [xN] using hj)] at h
   rw [s9 (by simpa [di] using hj)] at h2;unfold xN at h;unfold di at h2
   match j,hj with
   |0,_=>cases h;cases h2;rfl
   |1,_=>cases h;cases h2;rfl
  .rw [s5 (by simpa [xN] using hj)] at h
   rw [s5 (by simpa [di] using hj)] at h2;exact qS fs _ d u h h2
theorem Dl:∀fs:List D7,(fs.flatMap xN).all Data.flat=W
 |[]=>rfl
 |f::fs=>by rw [List.flatMap_cons,List.all_append,Dl fs];rfl
def FF {P:Program}{prom:FuncId->Bool}{f g:FuncId}(hcan:P5 P f=W)
  (hS:∀(blk off cap:Nat) (fs:List D7) (w:World),HoldsK di 2 w blk off fs.toArray->blk<w.heap.size->O fs<4611686018427387904->Calls P f #[.slice (J ⟨blk,off,K⟩) (O fs) cap,.func (.func g) #[] #[]] w λe w' =>
   e= .returned (.tuple #[])/\∃n os,w' =grow (putRowK di 2 (Sort.ahead w n) blk off (sortP fs).toArray) os)
  (hE:∀(p:Option Addr) (cap:Nat) (fv:Value) (w:World),Calls P f #[.slice p 0 cap,fv] w λe w' =>e= .returned (.tuple #[])/\w' =w):aD P prom f (vX g):=by
 refine ⟨hcan,λargs H l v H1 hrun w G I N H9 hp _=>?_⟩;have two:∀{a:c7} {g' :FuncId},H6 G I N w [a,.func g' [] []] H9.toList->∃x,H9= #[x,.func (.func g') #[] #[]]/\VR G I N w .none a x:=λ{a g'} h=>by
  simp only [H6,VR] at h;obtain ⟨x,xs,h1,h2,y,ys,rfl,⟨c1,c2,rfl,e1,e2⟩,rfl⟩:=h;have e1:c1= #[]:=Array.ext' (by simpa using e1);have e2:c2= #[]:=Array.ext' (by simpa using e2);subst e1 e2;exact ⟨x,Array.ext' (by rw [h1]),h2⟩
 unfold vX at hrun;split at hrun
 next H l id lo len g'=>
  split at hrun
  next hm=>
   obtain ⟨rfl,hm,hn⟩:=hm;split at hrun
   next vs hvs=>
    split at hrun
    next cs hcs=>
     split at hrun
     next fs yE=>
      rw [pg] at hrun;split at hrun
      next H2 hw=>
       cases hrun;obtain ⟨old,ho,hl,rfl⟩:=rd_some hvs;have hc:=sJ _ _ _ (j9 _) yE;subst hc;have hx:=Af (Dl fs) hcs;obtain ⟨g1,g2,g3⟩:=yH hp.hr (us:=fs.flatMap di) ho hl hx (by rw [AI,AO]) (qS fs);have hH:=mb ho hw;subst hH;obtain ⟨x,rfl,hv⟩:=two hp.args;simp only [VR] at hv;obtain ⟨_,cap,rfl,_⟩:=hv;have hlen:O fs=len:=by
        rw [AI] at g3;omega
       subst hlen;refine (hS _ _ cap fs w (by unfold HoldsK;rw [dF di 2 (λ_=>rfl)];exact g1) g2 V).mono ?_;rintro e w' ⟨rfl,n,os,rfl⟩;unfold putRowK;rw [dF di 2 (λ_=>rfl)];have hR:=fV _root_.id w n (I id).1 ((I id).2+lo) ((sortP fs).flatMap di) os;rw [List.map_id] at hR;refine ⟨_,G,I,N,rfl,qV hp (us:=(sortP fs).flatMap di) (by rw [A1,AI,AO]) (mS _) (λj a u ha hu G I N w p=>?_) ho (by rw [AO,X0];exact hl) hm hR (by simp only [VR];exact ⟨#[],rfl,by simp [H6]⟩)⟩;rw [List.getElem?_map,Option.map_eq_some_iff] at ha;obtain ⟨d,hd,rfl⟩:=ha;simp only [VR];exact (qT (qS _ _ _ _ hd hu)).2 rfl
      .cases hrun
     .cases hrun
    .cases hrun
   .cases hrun
  .cases hrun
 next H l cs g'=>
  split at hrun
  next hg=>
   subst hg;cases hrun;obtain ⟨x,rfl,hv⟩:=two hp.args;simp only [VR,DR] at hv;have key:∃p cap,x= .slice p 0 cap:=by
    rcases hv with ⟨hv|⟨a,hv⟩,_⟩|⟨b,o,cap,hv,_⟩
    .exact ⟨_,_,hv⟩
    .exact ⟨_,_,hv⟩
    .exact ⟨_,_,hv⟩
   obtain ⟨p,cap,rfl⟩:=key;refine (hE p cap _ w).mono ?_;rintro e w' ⟨rfl,rfl⟩;exact ⟨_,G,I,N,rfl,iL hp (by simp only [VR];exact ⟨#[],rfl,by simp [H6]⟩)⟩
  .cases hrun
 .cases hrun
end Go.y9
namespace Go.Proofs.YtibjocmpkoepoaaGreat
open Go.y9 Go.y9.S Go.Sort Go.Proofs
attribute [local irreducible] Rx Ry Rn Ex Pf
def q90 (a b:D7):Pf A0 90 [AM a,AM b] (.d (Z (mD a b))):=by
 refine Pf.go 3 ?_;unfold AM;have p1:=Yv a.1 b.1;have p2:=Yv a.2 b.2;have p3:=q82 [cZ a.1 b.1,cZ a.2 b.2] U;have e:mD a b=LN [cZ a.1 b.1,cZ a.2 b.2]:=by
  unfold mD;simp only [LN,o6]
  by_cases h:cZ a.1 b.1=0
  .by_cases h2:cZ a.2 b.2=0<;>simp [h,h2]
  .simp [h]
 rw [e]
 repeat' (first|refine iX p1 ?_|refine iX p2 ?_|refine iX p3 ?_|refine TU [Z (cZ a.1 b.1),Z (cZ a.2 b.2)] ?_|refine gx ?_|fail)
 exact ⟨_,rfl,rfl⟩
def RC (blk off size:Nat)(w:World):CmpLays Tryz.prog 90 #[] di 2 mD blk off size w:=λm os dk _ x y =>
 EH (q90 x y) (λw=>by simp only [H6];exact ⟨_,_,rfl,Bh x,_,_,rfl,Bh y,rfl⟩) _
theorem Jk (blk off cap:Nat)(ps:List D7)(w:World)(h1:HoldsK di 2 w blk off ps.toArray)(h2:blk<w.heap.size)(h3:O ps<4611686018427387904):Calls Tryz.prog 89 #[.slice (J ⟨blk,off,K⟩) (O ps) cap,.func (.func 90) #[] #[]] w λe w' =>
   e= .returned (.tuple #[])/\∃n os,w' =grow (putRowK di 2 (Sort.ahead w n) blk off (sortP ps).toArray) os:=by
 have eg:∀args w,(callFunc 90 args).run Tryz.prog w= .ok (.enter 90 args) w:=enters_of Tryz.func90 (by kernel_rfl) rfl;rw [Go.y9.sortP,<- kV (λa b c h1 h2=>by rw [dn] at *;omega) (λa b h=>by rw [dn] at *;omega) (λa b h1 h2=>PI a b (by simpa [ltOf] using h2) (by simpa [ltOf] using h1)) ps];exact AnyQ.slices_SortFunc_total Tryz.sortP 2 (λw=>by kernel_rfl) (λw=>by kernel_rfl) di (λ_=>rfl) (λx v hv=>by simp [di] at hv;rcases hv with rfl|rfl<;>rfl) mD XG 90 #[] blk off cap ps.toArray w eg (RC blk off _ w) h1 h2 h3 PI
theorem Tm (prom:FuncId->Bool):aD Tryz.prog prom 89 (vX 90) :=
 FF (by kernel_rfl) Jk λp cap fv w=>AnyF.slices_SortFunc_none (P:=Tryz.prog) (ρ:=Tryz.sortP_ren) { Tryz.sortP with } p cap fv w
end Go.Proofs.YtibjocmpkoepoaaGreat
namespace Go.Proofs.YtibjocmpkoepoaaGreat
open Go.y9
set_option maxHeartbeats 1000000 in
def Rj:mQ Tryz.prog A:=YC (λf p h=>by
 revert h;unfold A;simp only;split
 .rename_i h;rintro h2;cases h2;subst h;exact Pc _
 .split
  .rename_i h;rintro h2;cases h2;subst h;exact Pb _
  .split
   .rename_i h;rintro h2;cases h2;subst h;exact OY _
   .split
    .rename_i h;rintro h2;cases h2;subst h;exact Pa _
    .split
     .rename_i h;rintro h2;cases h2;subst h;exact Tl _
     .split
      .rename_i h;rintro h2;cases h2;subst h;exact OZ _
      .split
       .rename_i h;rintro h2;cases h2;subst h;exact Tm _
       .rintro h2;cases h2)
end Go.Proofs.YtibjocmpkoepoaaGreat


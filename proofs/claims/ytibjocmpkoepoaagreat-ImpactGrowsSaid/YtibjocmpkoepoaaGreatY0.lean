import Derived.Sort.Grow
import Derived.Deep.Draws
import Derived.Lib.SlicesCompact
import Derived.Shelf.GgSortFunc.RowK
import Derived.Test.YtibjocmpkoepoaaGreatAbs
import Derived.Test.YtibjocmpkoepoaaGreatShelf
import Derived.Sort.MapsRangeIn
import Derived.Maps.AppendAt
import Derived.Maps.RangeRun
import Derived.OwnWalkIn
import Derived.TacticsInMore
import Derived.RegionIn
import Derived.LoopNIn
import Derived.LoopIn
import Derived.Laws.OwnMore
import Derived.Lib.Walk
import Derived.Lib.SliceRun
import Derived.Lib.AppendZerosOnto
set_option linter.all false
open Bool renaming and_eq_true→c9,true→W,false→F
open List renaming append_assoc→K2,cons_append→x6,drop_of_length_le→n5,flatMap_cons→O7,getElem?_append_left→y8,getElem?_append_right→x7,getElem?_eq_getElem→n9,getElem?_set_ne→x3,getElem?_set_self→E9,length_append→l5,length_cons→o8,length_map→A9,length_nil→B1,length_take→P3,map_cons→G4,nil_append→y5,pairwise_cons→O5,replicate→c8,length→O
open Nat renaming le_of_ble_eq_true→j6,le_refl→k9,le_trans→s5,lt_or_ge→A7,reduceAdd→N6,zero_le→s9
open Option renaming some→J,none→K
namespace Go.A5
open Go.Sort
def YB {w w' :World}(h1:w'.os=w.os)(h2:w'.tape=w.tape)(h3:w'.output=w.output)(h4:w.heap.size<=w'.heap.size)(h5:∀b,b<w.heap.size->w'.heap[b]? =w.heap[b]?)(h6:w.drawn<=w'.drawn):∃q os,w' =grow (w.drewN q) os:=by
 refine ⟨w'.drawn - w.drawn,w'.heap.extract w.heap.size w'.heap.size,?_⟩;obtain ⟨hp,tp,dr,os,out⟩:=w';have e:w.heap++hp.extract w.heap.size hp.size=hp:=by
  grind
 simp_all [grow,World.drewN]
section
variable [E3]
def MP (hD:E3.on){P:Program}{A:Prog}(h:sJ P A){n:Nat}{f:FuncId}{args:List c7}{K8:Array Value}{w:World}{v:c7}(hc:call A n f args [] R5=J (v,[]))
  (hargs:K1 (G0 w) (λ_=>(0,0)) (λ_=>False) w args K8.toList):Calls P f K8 w λe w' =>∃(x:Value) (G' :Gh) (I' :S8) (N' :Nat->Prop),e= .returned x/\VR G' I' N' w' .ret v x/\∃q os,w' =grow (w.drewN q) os:=by
 have hpre:Di R5 [] w (G0 w) (λ_=>(0,0)) (λ_=>False) args K8:=by
  refine ⟨hargs,?_,?_,?_,?_,k9 _,k9 _,?_,λ_ b n pl hb=>by grind [G0]⟩
  .intro id o ho;simp at ho
  .intro b hb;simp_all [G0,if_neg]
  .simp_all
  .intro id o ho;simp at ho
  grind [G0]
 refine Calls.mono ((sL h n).1 f args [] R5 _ _ hc w _ _ _ K8 hpre (λ_=>rfl)) ?_;rintro e w' ⟨x,G',I',N',rfl,hp⟩;refine ⟨x,G',I',N',rfl,hp.val,YB hp.ext.os hp.ext.tape hp.ext.output hp.ext.size (λb hb=>(hp.ext.still b (Or.inl ?_)).2) (hp.ext.drawn hD)⟩;simp_all [G0,if_pos]
end
end Go.A5
namespace Go.A5
open Go.Sort
structure TD (w w' :World)(blk off:Nat)(us:List Value):Prop where
 os:w'.os=w.os
 tape:w'.tape=w.tape
 output:w'.output=w.output
 size:w.heap.size<=w'.heap.size
 other:∀b:Nat,b<w.heap.size->b≠blk->w'.heap[b]? =w.heap[b]?
 here:∀(c:Array Value) (e:TypeId) (f:Nat×Nat),w.heap[blk]? =J (.cells c e f)->∃c' :Array Value,w'.heap[blk]? =J (.cells c' e f)/\c'.size=c.size /\
  (∀k:Nat,(k<off\/off+O us<=k)->c'[k]? =c[k]?)/\∀(j:Nat) (u:Value),off+j<c.size->us[j]? =J u->c'[off+j]? =J u
def nV {α:Type} [Inhabited α] (enc:α->Value)(w:World)(n blk off:Nat)(ys:List α)(os:Array Obj):TD w (grow (putRow enc (Sort.ahead w n) blk off ys.toArray) os) blk off (ys.map enc) where
 os:=rfl
 tape:=rfl
 output:=rfl
 size:=M
 other b hb hne:=by
  have:b<(w.heap.modify blk (onCells (putCells enc off ys.toArray))).size:=M
  show (w.heap.modify blk (onCells (putCells enc off ys.toArray))++os)[b]? =_
  grind
 here c e f hc:=by
  have hb:blk<w.heap.size:=by
   grind
  have:blk<(w.heap.modify blk (onCells (putCells enc off ys.toArray))).size:=M
  refine ⟨putCells enc off ys.toArray c,?_,by simp [putCells],λk hk=>?_,λj u hj hu=>?_⟩
  .show (w.heap.modify blk (onCells (putCells enc off ys.toArray))++os)[blk]? =_
   rw [Array.getElem?_append_left this,Array.getElem?_modify,if_pos rfl,hc];rfl
  .grind [putCells]
  .grind [putCells]
def Nh (n:Int):c7:= .d (.int .i64 n)
theorem Ed:∀ys:List Int,A8 (ys.map Nh)=0
 |[]=>rfl
 |y::ys=>by simp [G4,A8,Ed ys,Nh];rfl
def MF (old:List c7)(lo:Nat)(az:List c7)(h:A8 az=0):A8 (splice old lo az)<=A8 old:=by
 grind [qN,qM,splice,iw]
def Fc {l:J2}{H:j9}{w w' :World}{G:Gh}{I:S8}{N:Nat->Prop}{args:List c7}{K8:Array Value}(hp:Di l H w G I N args K8){id lo:Nat}{old az:List c7}{us:List Value}(DB:O az=O us)(hab:A8 az=0)(hau:∀(j:Nat) (a:c7) (u:Value),az[j]? =J a->us[j]? =J u->∀G I N w p,VR G I N w p a u)
  (ho:H[id]? =J (.cells old)) (hlo:lo+O us<=O old) (hm:l.may id=W) (hr:TD w w' (I id).1 ((I id).2+lo) us) {v:c7} {x:Value} (hv:VR G I N w' .ret v x) :
  om l H w G I N v (H.set id (.cells (splice old lo az))) x w' G I N:=by
 have hO:=hp.hr id _ ho;simp only [OR] at hO;obtain ⟨hN,c,e,f,h1,h2,h3,h4,h5⟩:=hO;obtain ⟨c',g1,g2,g3,g4⟩:=hr.here c e f h1;have hlt:∀b:Nat,G b≠ .free->b<w.heap.size:=λb hb=>by
  rcases A7 b w.heap.size with h|h
  .exact h
  .exact absurd (hp.wf b h) hb
 have Nc:Ext G w G w' :=by
  refine ⟨hr.os,hr.tape,hr.output,λh=>h.elim,hr.size,λb o hi=>⟨hi,?_⟩,λb hb=>⟨rfl,?_⟩,λb c0 e0 f0 hc0=>?_⟩
  .have hne:b≠(I id).1:=by grind [jm]
   have hb:G b≠ .free:=λh=>by simp_all [jm]
   simp only [World.cell?,hr.other b (hlt b hb) hne]
  .have hne:b≠(I id).1:=by grind
   exact hr.other b (hlt b (λh=>M)) hne
  .by_cases hne:b=(I id).1
   .simp_all
   .rw [hr.other b ?_ hne]
    all_goals grind
 have hkeep:∀q,bE q G w G w' :=λq b n hb=>⟨hb,hr.other b (hlt b (λh=>M)) (by grind)⟩
 have Sd:∀(b i:Nat),i≠id->G b= .obj i->G b= .obj i/\w'.heap[b]? =w.heap[b]? :=λb i hi hb=>⟨hb,hr.other b (hlt b (λh=>M)) (by grind)⟩
 have YH:id<O H:=A3 ho;have rF:∀(i:Nat) (o' :x4),(H.set id (.cells (splice old lo az)))[i]? =J o' ->∃o:x4,H[i]? =J o/\o'.J4<=o.J4:=λi o' hi=>by
  by_cases he:i=id
  .subst he
   rw [E9 YH] at hi;cases hi;exact ⟨_,ho,MF old lo az hab⟩
  grind
 refine ⟨hv,?_,?_,Nc,λi hi=>⟨λb hb=>Sd b i (by grind) hb,λoff=>hkeep _⟩,λ_ _ _=>rfl,λ_ h=>h,λ_ _ h=>h,λi hi=>by simpa using hp.bT i hi,λi o' _ hi=>Or.inr (rF i o' hi),λi o' hi=>?_⟩
 .intro i o hi
  by_cases he:i=id
  .subst he
   rw [E9 YH] at hi;cases hi;simp only [OR];refine ⟨hN,c',e,f,g1,h2,M,?_,λj a hj=>?_⟩
   .grind [splice,l5,P3,A9,List.length_drop]
   .rcases A7 j lo with hj1|hj1
    .have hj2:old[j]? =J a:=by
      rw [<- hj,splice,K2,y8 D,List.getElem?_take,if_pos hj1]
     obtain ⟨u,u1,u2⟩:=h5 j a hj2;exact ⟨u,by rw [g3 _ V];exact u1,VR.mono Nc (λ_ _=>rfl) (λ_ h=>h) _ _ _ (Or.inr (hkeep _)) u2⟩
    rcases A7 j (lo+O us) with hj2|hj2
    .have hj3:az[j - lo]? =J a:=by
      rw [<- hj,splice,y8 D,x7 D]
      congr 1
      simp;omega
     have hj4:j - lo<O us:=V
     refine ⟨us[j - lo],?_,hau _ _ _ hj3 (n9 hj4) _ _ _ _ _⟩;rw [show (I i).2+j=(I i).2+lo+(j - lo) by omega];exact g4 _ _ V (n9 hj4)
    .have hj3:old[j]? =J a:=by
      rw [<- hj,splice,x7 D,List.getElem?_drop]
      congr 1
      simp;omega
     obtain ⟨u,u1,u2⟩:=h5 j a hj3;exact ⟨u,by rw [g3 _ V];exact u1,VR.mono Nc (λ_ _=>rfl) (λ_ h=>h) _ _ _ (Or.inr (hkeep _)) u2⟩
  .rw [x3 (λe=>he e.symm)] at hi
   exact OR.mono Nc (λ_ _=>rfl) (λ_ h=>h) i o (λh=>Sd _ i he h) (λoff=>hkeep _) (hp.hr i o hi)
 .intro b hb
  exact hp.wf b (s5 hr.size hb)
 .obtain ⟨o,h6,h7⟩:=rF i o' hi
  obtain ⟨h8,h9⟩:=hp.W1 i o h6;exact ⟨λh=>s5 h7 (h8 h),λh=>s5 h7 (h9 h)⟩
def Kq {l:J2}{H:j9}{w w' :World}{G:Gh}{I:S8}{N:Nat->Prop}{args:List c7}{K8:Array Value}(hp:Di l H w G I N args K8){id lo:Nat}{old:List c7}{ys:List Int}
  (ho:H[id]? =J (.cells old)) (hlo:lo+O ys<=O old) (hm:l.may id=W) (hr:TD w w' (I id).1 ((I id).2+lo) (ys.map (.int .i64))) {v:c7} {x:Value} (hv:VR G I N w' .ret v x) :
  om l H w G I N v (H.set id (.cells (splice old lo (ys.map Nh)))) x w' G I N :=
 Fc hp (us:=ys.map (.int .i64)) U (Ed ys) (λj a u ha hu G I N w p=>by
  rw [List.getElem?_map,Option.map_eq_some_iff] at ha hu;obtain ⟨y,hy,rfl⟩:=ha;obtain ⟨z,hz,rfl⟩:=hu;rw [hy] at hz;cases hz;simp [Nh,VR,DR]) ho (by simpa using hlo) hm hr hv
theorem wH (x:Int):∀l:List Int,(th x l).Perm (x::l)
 |[]=>List.Perm.refl _
 |y::l=>by
  simp [th];split
  .rfl
  .exact ((wH x l).cons y).trans (List.Perm.swap x y l)
theorem tH:∀l:List Int,(bz l).Perm l
 |[]=>List.Perm.refl _
 |x::l=>(wH x _).trans ((tH l).cons x)
theorem xU (x:Int):∀l:List Int,l.Pairwise (·<=·)->(th x l).Pairwise (·<=·)
 |[],_=>by simp [th]
 |y::l,h=>by
  simp [th];rw [O5] at h;split
  .grind [O5,Int.le_trans]
  .refine O5.2 ⟨λz hz=>?_,xU x l h.2⟩
   grind [wH]
theorem uV:∀l:List Int,(bz l).Pairwise (·<=·)
 |[]=>List.Pairwise.nil
 |x::l=>xU x _ (uV l)
def zK (l:List Int):(l.mergeSort λx y=>decide (x<=y))=bz l:=by
 grind [List.Perm.eq_of_pairwise,Int.le_antisymm,uV,List.mergeSort_perm,trans,tH,List.pairwise_mergeSort,decide]
theorem HQ (l:List Int):O (bz l)=O l:=(tH l).length_eq
theorem En (a b:Int):∀l:List Int,aL (l++[a,b])=aL (l++[a])++(if b=a then [] else [b])
 |[]=>by
  grind [aL]
 |[x]=>by
  grind [aL]
 |x::y::l=>by
  have ih:=En a b (y::l)
  grind [aL]
theorem mC (zs:List Int):∀m,m<=O zs->Lib.compactUpTo zs.toArray m=aL (zs.take m)
 |0,_=>by rfl
 |1,h=>by
  obtain ⟨z,r,rfl⟩:∃z r,zs=z::r:=by
   cases zs with
   |nil=>simp at h
   |cons z r=>simp_all
  rfl
 |m+2,h=>by
  have ih:=mC zs (m+1) V;have e1:zs.take (m+1)=zs.take m++[zs[m]]:=M
  have e2:zs.take (m+2)=zs.take m++[zs[m],zs[m+1]]:=by
   grind [List.take_append_getElem,K2]
  rw [Lib.compactUpTo_succ,ih,e1,e2,En];have g1:zs.toArray[m+1]! =zs[m+1]:=by
   grind
  have g2:zs.toArray[m+1 - 1]! =zs[m]:=by
   grind
  by_cases hk:zs[m+1]=zs[m]
  .rw [Lib.keeps_neg V V,if_pos hk]
   rfl
  .rw [Lib.keeps_pos V,if_neg hk,g1]
   rfl
def GS (zs:List Int):Lib.compact zs=aL zs:=by
 rw [Lib.compact,mC zs _ (k9 _),List.take_length]
theorem xJ:∀l:List Int,O (aL l)<=O l
 |[]=>by simp [aL]
 |[x]=>by simp [aL]
 |x::y::l=>by
  have:=xJ (y::l)
  grind [aL]
theorem nP:∀{vs:List c7} {xs:List Int},kK vs=J xs->vs=xs.map Nh
 |[],xs,h=>by simp_all [kK]
 |v::vs,xs,h=>by
  unfold kK at h;split at h
  .simp_all
  next n r heq=>
   cases heq;split at h
   next ys hy=>
    cases h;rw [nP hy];rfl
   .cases h
  .cases h
def rd_some {H:j9}{id lo len:Nat}{vs:List c7}(h:rd H id lo len=J vs):∃old,H[id]? =J (.cells old)/\lo+len<=O old/\vs=(old.drop lo).take len:=by
 grind [rd]
def holds_of {G:Gh}{I:S8}{N:Nat->Prop}{w:World}{H:j9}(hr:HR G I N w H){id lo len:Nat}{old:List c7}{xs:List Int}(ho:H[id]? =J (.cells old))(hl:lo+len<=O old)(hx:(old.drop lo).take len=xs.map Nh) :
  Holds (Value.int .i64) w (I id).1 ((I id).2+lo) xs.toArray/\(I id).1<w.heap.size/\O xs=len:=by
 have hO:=hr id _ ho;obtain ⟨hN,c,e,f,h1,h2,h3,h4,h5⟩:=hO;have hlen:O xs=len:=by
  have:=congrArg List.length hx
  grind
 refine ⟨λj hj=>?_,?_,hlen⟩
 .have hj' :j<O xs:=V
  have e1:old[lo+j]? =J (Nh xs[j]):=by
   have:=congrArg (·[j]?) hx
   grind
  obtain ⟨v,g1,g2⟩:=h5 _ _ e1;subst g2;constructor
  .simp_all [ad,World.cell?,Nat.add_assoc]
  .have hlt:(I id).2+lo+j<c.size:=by
    omega
   have:=h3 _ hlt;simp_all [World.frozen?]
 grind
def xd {H:j9}{id lo:Nat}{old vs:List c7}{H1:j9}(ho:H[id]? =J (.cells old))(h:wr H id lo vs=J H1):H1=H.set id (.cells (splice old lo vs)):=by
 simp_all [wr]
def qW {l:J2}{H:j9}{w:World}{G:Gh}{I:S8}{N:Nat->Prop}{args:List c7}{K8:Array Value}(hp:Di l H w G I N args K8){v:c7}{x:Value}(hv:VR G I N w .ret v x):om l H w G I N v H x w G I N :=
 ⟨hv,hp.hr,hp.wf,Ext.refl _ _,mh.refl _ _ _,λ_ _ _=>rfl,λ_ h=>h,λ_ _ h=>h,hp.bT,λ_ o' _ ho=>Or.inr ⟨o',ho,k9 _⟩,hp.W1⟩
def oR {G:Gh}{I:S8}{N:Nat->Prop}{w:World}{a:c7}{K8:Array Value}(h:K1 G I N w [a] K8.toList):∃x,K8= #[x]/\VR G I N w .none a x:=by
 grind [K1,Array.ext']
def SX {P:Program}{prom:FuncId->Bool}{f:FuncId}(hcan:V3 P f=W)
  (hS:∀(blk off cap:Nat) (zs:List Int) (w:World),Holds (Value.int .i64) w blk off zs.toArray->blk<w.heap.size->O zs<4611686018427387904->Calls P f #[.slice (J ⟨blk,off,K⟩) (O zs) cap] w λe w' =>
   e= .returned (.tuple #[])/\∃n os,w' =grow (putRow (Value.int .i64) (Sort.ahead w n) blk off (zs.mergeSort λx y=>decide (x<=y)).toArray) os)
  (hE:∀(p:Option Addr) (cap:Nat) (w:World),Calls P f #[.slice p 0 cap] w λe w' =>e= .returned (.tuple #[])/\w' =w):fS P prom f EW:=by
 refine ⟨hcan,λargs H l v H1 hrun w G I N K8 hp _=>?_⟩;unfold EW at hrun;split at hrun
 .split at hrun
  next hm=>
   simp only [c9] at hm;have hb:=j6 hm.2;split at hrun
   next vs hvs=>
    split at hrun
    next xs hxs=>
     split at hrun
     next H2 hw=>
      cases hrun;obtain ⟨old,ho,hl,rfl⟩:=rd_some hvs;have hx:=nP hxs;obtain ⟨g1,g2,g3⟩:=holds_of hp.hr ho hl hx;have hH:=xd ho hw;subst hH;obtain ⟨x,rfl,hv⟩:=oR hp.args;obtain ⟨_,cap,rfl,_⟩:=hv;subst g3;refine (hS _ _ cap xs w g1 g2 V).mono ?_;rintro e w' ⟨rfl,n,os,rfl⟩;rw [zK];exact ⟨_,G,I,N,rfl,Kq hp (ys:=bz xs) ho (by grind [HQ]) hm.1 (nV _ _ _ _ _ _ _) (by simp_all [VR,K1])⟩
     .cases hrun
    .cases hrun
   .cases hrun
  .cases hrun
 .cases hrun
  obtain ⟨x,rfl,hv⟩:=oR hp.args;simp [VR,DR] at hv;have key:∃p cap,x= .slice p 0 cap:=by
   grind
  obtain ⟨p,cap,rfl⟩:=key;refine (hE p cap w).mono ?_;rintro e w' ⟨rfl,rfl⟩;exact ⟨_,G,I,N,rfl,qW hp (by simp_all [VR,K1])⟩
 .cases hrun
def GU {P:Program}{prom:FuncId->Bool}{f:FuncId}(hcan:V3 P f=W)
  (hS:∀(blk off cap:Nat) (zs:List Int) (w:World),Holds (Value.int .i64) w blk off zs.toArray->O zs<=9223372036854775807->O zs<=cap->Calls P f #[.slice (J ⟨blk,off,K⟩) (O zs) cap] w λe w' =>
   e= .returned (.slice (J ⟨blk,off,K⟩) (O (Lib.compact zs)) cap)/\∃q,w' =putRow (Value.int .i64) (Sort.ahead w q) blk off (Lib.compact zs++c8 (O zs - O (Lib.compact zs)) 0).toArray):fS P prom f mP:=by
 refine ⟨hcan,λargs H l v H1 hrun w G I N K8 hp _=>?_⟩;unfold mP at hrun;split at hrun
 next id lo len=>
  split at hrun
  next hm=>
   simp only [c9] at hm;have hb:=j6 hm.2;split at hrun
   next vs hvs=>
    split at hrun
    next xs hxs=>
     split at hrun
     next H2 hw=>
      cases hrun;obtain ⟨old,ho,hl,rfl⟩:=rd_some hvs;have hx:=nP hxs;obtain ⟨g1,g2,g3⟩:=holds_of hp.hr ho hl hx;have hH:=xd ho hw;subst hH;obtain ⟨x,rfl,hv⟩:=oR hp.args;obtain ⟨hN,cap,rfl,hcap,c,e0,f0,k1,k2⟩:=hv;subst g3;refine (hS _ _ cap xs w g1 V hcap).mono ?_;rintro e w' ⟨rfl,q,rfl⟩;rw [GS];have hd:=xJ xs;have hR:=nV (Value.int .i64) w q (I id).1 ((I id).2+lo) (aL xs++c8 (O xs - O (aL xs)) 0) #[];obtain ⟨c',u1,u2,_⟩:=hR.here c e0 f0 k1;refine ⟨_,G,I,N,rfl,Kq hp (ys:=aL xs++c8 (O xs - O (aL xs)) 0) ho D hm.1 hR ?_⟩;simp_all [VR]<;>omega
     .cases hrun
    .cases hrun
   .cases hrun
  .cases hrun
 .cases hrun
def Sb {P:Program}{prom:FuncId->Bool}{f:FuncId}(hcan:V3 P f=W)
  (hR:∀w:World,Calls P f #[.slice K 0 0,.int .i64 0] w λe w' =>e= .returned (.slice K 0 0)/\w' =w)
  (hG:∀(n:Nat) (w:World),0<n->n<=1000000->Calls P f #[.slice K 0 0,.int .i64 n] w λe w' =>∃(cap:Nat) (c:Array Value) (t:TypeId),e= .returned (.slice (J ⟨w.heap.size,0,K⟩) 0 cap)/\w' =w.drew.alloc (.cells c t)/\c.size=cap):fS P prom f EV:=by
 refine ⟨hcan,λargs H l v H1 hrun w G I N K8 hp _=>?_⟩;unfold EV at hrun;split at hrun
 next n=>
  split at hrun
  .cases hrun
   obtain ⟨m,rfl⟩:∃m:Nat,n=m:=⟨n.toNat,V⟩;have ha:=hp.args;simp [K1,VR,DR] at ha;have hv:K8= #[.slice K 0 0,.int .i64 m]:=by
    grind
   subst hv
   rcases Nat.eq_zero_or_pos m with rfl|h0
   .refine (hR w).mono ?_
    rintro e w' ⟨rfl,rfl⟩;exact ⟨_,G,I,N,rfl,qW hp (by simp [VR])⟩
   .refine (hG m w h0 V).mono ?_
    rintro e w' ⟨cap,c,t,rfl,rfl,hc⟩;have hN:jK w (w.drew.alloc (.cells c t)) (.cells c t):=(jK.alloc w (.cells c t)).drew (w.drawn+1) (Nat.le_succ _);refine ⟨_,gF G w.heap.size (.grow 0 .ret),I,N,rfl,?_,hN.hr hp.wf _ (λ_ _=>rfl) (λ_ h=>h) hp.hr,hN.wf hp.wf _,hN.ext hp.wf _,hN.dQ hp.wf _ _,λ_ _ _=>rfl,λ_ h=>h,λ_ _ h=>h,hp.bT,λ_ o' _ ho=>Or.inr ⟨o',ho,k9 _⟩,hp.W1⟩;exact ⟨rfl,Or.inr ⟨U,w.heap.size,0,cap,c,t,_,rfl,s9 _,hN.new,V,nr _,U,by simp [gB]⟩⟩
  .cases hrun
 .cases hrun
def nK {α:Type} [Inhabited α] (enc:α->List Value)(k:Nat)(hk:∀x,O (enc x)=k)(l:List α):flatK enc k l.toArray=(l.flatMap enc).toArray:=by
 have hl:∀l:List α,O (l.flatMap enc)=O l * k:=λl=>by
  induction l with
  |nil=>simp
  |cons a l ih=>grind
 have key:∀(l:List α) (t:Nat),t<O l * k->(l.flatMap enc)[t]! =(enc l[t / k]!)[t % k]! :=λl=>by
  induction l with
  |nil=>simp_all
  |cons a l ih =>
   intro t h;rw [o8,Nat.add_mul,Nat.one_mul] at h;have k0:0<k:=by
    grind
   rcases A7 t k with h1|h1
   .simp_all [Nat.div_eq_of_lt,Nat.mod_eq_of_lt,List.getElem!_eq_getElem?_getD,y8]
   .obtain ⟨s,rfl⟩:∃s,t=s+k:=⟨t - k,V⟩
    simp_all [Nat.add_div_right,Nat.add_mod_right,List.getElem!_eq_getElem?_getD,x7,Nat.add_sub_cancel]
 refine ext_get! (by simp [hl]) λt ht=>?_
 have ht' :t<O l * k:=M
 grind [get_flatK]
def HE:Data->Option Value
 | .int k n=>J (.int k n)
 | .bool b=>J (.bool b)
 |_=>K
theorem Fa {d:Data}{u v:Value}{G:Gh}{w:World}(h:HE d=J u):DR G w d v↔v=u:=by
 cases d<;>simp [HE,reduceCtorEq,Option.some.injEq] at h<;>subst h<;>simp [DR]
def Se {G:Gh}{I:S8}{N:Nat->Prop}{w:World}{H:j9}(hr:HR G I N w H){id lo len:Nat}{old:List c7}{ds:List Data}{us:List Value}(ho:H[id]? =J (.cells old))(hl:lo+len<=O old)(hx:(old.drop lo).take len=ds.map .d)
  (hu:O ds=O us) (hd:∀(j:Nat) (d:Data) (u:Value),ds[j]? =J d->us[j]? =J u->HE d=J u):Holds _root_.id w (I id).1 ((I id).2+lo) us.toArray/\(I id).1<w.heap.size/\O ds=len:=by
 have hO:=hr id _ ho;obtain ⟨hN,c,e,f,h1,h2,h3,h4,h5⟩:=hO;have hlen:O ds=len:=by
  have:=congrArg List.length hx
  grind
 refine ⟨λj hj=>?_,?_,hlen⟩
 .have hj0:j<O us:=V
  have hj' :j<O ds:=V
  have e1:old[lo+j]? =J (.d ds[j]):=by
   have:=congrArg (·[j]?) hx;simp_all
  obtain ⟨v,g1,g2⟩:=h5 _ _ e1;have g2:=(Fa (hd j _ us[j] (n9 hj') (n9 hj0))).1 g2;constructor
  .simp_all [ad,World.cell?,Nat.add_assoc]
  .have hlt:(I id).2+lo+j<c.size:=by
    omega
   have:=h3 _ hlt;simp_all [World.frozen?]
 grind
def O1.vals (f:O1):List Value:=[.int .i64 f.src.1,.int .i64 f.src.2,.int .i64 f.dst.1,.int .i64 f.dst.2,.bool f.dat]
theorem uq:∀(n:Nat) (cs:List Data) (fs:List O1),O cs<=n->tf cs=J fs->cs=fs.flatMap O1.enc
 |_,[],fs,_,h=>by cases h;rfl
 |0,c::cs,fs,hn,h=>by simp at hn
 |n+1,c::cs,fs,hn,h=>by
  unfold tf at h;split at h
  .simp_all
  next a b c' d t r heq=>
   cases heq;split at h
   next l hl=>
    cases h;rw [O7,<- uq n r l (by grind) hl];rfl
   .cases h
  .cases h
theorem Hi (fs:List O1):O (fs.flatMap O1.enc)=O fs * 5:=by
 induction fs with
 |nil=>rfl
 |cons a l ih=>grind [l5,o8,O1.enc]
theorem Hh (fs:List O1):O (fs.flatMap O1.vals)=O fs * 5:=by
 induction fs with
 |nil=>rfl
 |cons a l ih=>grind [l5,o8,O1.vals]
theorem wB:∀(fs:List O1) (j:Nat) (d:Data) (u:Value),(fs.flatMap O1.enc)[j]? =J d->(fs.flatMap O1.vals)[j]? =J u->HE d=J u
 |[],j,d,u,h,_=>by simp at h
 |f::fs,j,d,u,h,h2=>by
  rw [O7] at h h2
  rcases A7 j 5 with hj|hj
  .rw [y8 (by simp_all [O1.enc])] at h
   rw [y8 (by simp_all [O1.vals])] at h2
   match j,hj with
   |0,_=>cases h;cases h2;rfl
   |1,_=>cases h;cases h2;rfl
   |2,_=>cases h;cases h2;rfl
   |3,_=>cases h;cases h2;rfl
   |4,_=>cases h;cases h2;rfl
  .rw [x7 (by simp_all [O1.enc])] at h
   rw [x7 (by simp_all [O1.vals])] at h2;exact wB fs _ d u h h2
theorem Ox:∀{vs:List c7} {cs:List Data},cs.all Data.flat=W->L1 vs=J cs->vs=cs.map .d
 |[],cs,_,h=>by cases h;rfl
 |v::vs,cs,hf,h=>by
  unfold L1 at h;split at h
  .split at h
   next xs hxs=>
    cases h;simp only [List.all_cons,c9] at hf;rw [G4,<- Ox hf.2 hxs];simp_all [c7.data?,reduceCtorEq,Data.flat]<;>grind
   .cases h
  .cases h
theorem Jf:∀fs:List O1,(fs.flatMap O1.enc).all Data.flat=W
 |[]=>rfl
 |f::fs=>by rw [O7,List.all_append,Jf fs];rfl
theorem Ay:∀l:List Data,A8 (l.map .d)=0
 |[]=>rfl
 |a::l=>by simp [A8,c7.J4,Ay l]
def NI {P:Program}{prom:FuncId->Bool}{f g:FuncId}(hcan:V3 P f=W)
  (hS:∀(blk off cap:Nat) (fs:List O1) (w:World),HoldsK O1.vals 5 w blk off fs.toArray->blk<w.heap.size->O fs<4611686018427387904->Calls P f #[.slice (J ⟨blk,off,K⟩) (O fs) cap,.func (.func g) #[] #[]] w λe w' =>
   e= .returned (.tuple #[])/\∃n os,w' =grow (putRowK O1.vals 5 (Sort.ahead w n) blk off (dV fs).toArray) os)
  (hE:∀(p:Option Addr) (cap:Nat) (fv:Value) (w:World),Calls P f #[.slice p 0 cap,fv] w λe w' =>e= .returned (.tuple #[])/\w' =w):fS P prom f (wP g):=by
 refine ⟨hcan,λargs H l v H1 hrun w G I N K8 hp _=>?_⟩;have two:∀{a:c7} {g' :FuncId},K1 G I N w [a,.func g' [] []] K8.toList->∃x,K8= #[x,.func (.func g') #[] #[]]/\VR G I N w .none a x:=λ{a g'} h=>by
  grind [K1,VR,Array.ext']
 unfold wP at hrun;split at hrun
 next H l id lo len g'=>
  split at hrun
  next hm=>
   obtain ⟨rfl,hm,hn⟩:=hm;split at hrun
   next vs hvs=>
    split at hrun
    next cs hcs=>
     split at hrun
     next fs Ig=>
      split at hrun
      next H2 hw=>
       cases hrun;obtain ⟨old,ho,hl,rfl⟩:=rd_some hvs;have hc:=uq _ _ _ (k9 _) Ig;subst hc;have hx:=Ox (Jf fs) hcs;obtain ⟨g1,g2,g3⟩:=Se hp.hr (us:=fs.flatMap O1.vals) ho hl hx (by rw [Hi,Hh]) (wB fs);have hH:=xd ho hw;subst hH;obtain ⟨x,rfl,hv⟩:=two hp.args;simp only [VR] at hv;obtain ⟨_,cap,rfl,_⟩:=hv;have hlen:O fs=len:=by
        grind [Hi]
       subst hlen;refine (hS _ _ cap fs w (by simp_all [HoldsK,nK,O1.vals]) g2 V).mono ?_;rintro e w' ⟨rfl,n,os,rfl⟩;unfold putRowK;rw [nK O1.vals 5 (λ_=>rfl)];have hR:=nV _root_.id w n (I id).1 ((I id).2+lo) ((dV fs).flatMap O1.vals) os;rw [List.map_id] at hR;refine ⟨_,G,I,N,rfl,Fc hp (us:=(dV fs).flatMap O1.vals) (by rw [A9,Hi,Hh]) (Ay _) (λj a u ha hu G I N w p=>?_) ho (by grind [Hh,wU]) hm hR (by simp_all [VR,K1])⟩
       grind [Option.map_eq_some_iff,VR,Fa,wB]
      .cases hrun
     .cases hrun
    .cases hrun
   .cases hrun
  .cases hrun
 next H l cs g'=>
  split at hrun
  next hg=>
   subst hg;cases hrun;obtain ⟨x,rfl,hv⟩:=two hp.args;simp only [VR,DR] at hv;have key:∃p cap,x= .slice p 0 cap:=by
    grind
   obtain ⟨p,cap,rfl⟩:=key;refine (hE p cap _ w).mono ?_;rintro e w' ⟨rfl,rfl⟩;exact ⟨_,G,I,N,rfl,qW hp (by simp_all [VR,K1])⟩
  .cases hrun
 .cases hrun
end Go.A5
namespace Go.Proofs.YtibjocmpkoepoaaGreat
open Go.A5 Go.A5.S
attribute [local irreducible] Rx Ry Rn Ex Pf
def A0:A5.Prog:=⟨aB4,Ni,Ve,λ_=>K⟩
def ay9 [E3]:sJ Tryz.prog A0:=⟨Tx,λf p h=>(by cases h),λf af _ h=>az0 f af h⟩
def aN5 (a:Int):Pf A0 136 [.d (Z a)] (.d (.bool F)):=by
 refine Pf.gr 1 ?_;exact ⟨_,rfl,by simp [j4,o9]⟩
def q83 (a b:Int):Pf A0 83 [.d (Z a),.d (Z b)] (.d (Z (mB a b))):=by
 refine Pf.go 3 ?_;have p1:=aN5 a;have p2:=aN5 b;refine gc (And.intro p1 p2) ?_;refine tb (F) (λh1=>?_) (λh1=>?_)
 .cases h1
 refine gr ?_;refine tb (F) (λh2=>?_) (λh2=>?_)
 .cases h2
 refine gr ?_;refine tb (F0 a b) (λh3=>?_) (λh3=>?_)
 .have:=C8 h3
  refine gr ?_;have e:mB a b= -1:=by unfold mB;rw [if_pos this]
  rw [e]
  first|exact ⟨_,rfl,rfl⟩|(simp [j4];done)
 have:=D4 h3;refine gr ?_;refine tb (F0 b a) (λh4=>?_) (λh4=>?_)
 .have:=C8 h4
  refine gr ?_;have e:mB a b=1:=by unfold mB;rw [if_neg V,if_pos this]
  rw [e]
  first|exact ⟨_,rfl,rfl⟩|(simp [j4];done)
 have:=D4 h4;refine gr ?_;have e:mB a b=0:=by unfold mB;rw [if_neg V,if_neg V]
 rw [e]
 first|exact ⟨_,rfl,rfl⟩|(simp [j4];done)
def Zt:List Int->Int
 |[]=>0
 |a::l=>if x5 a 0 then Zt l else a
def q82 (l:List Int)(hl:O l<=1000000):Pf A0 82 [.d (ints l)] (.d (Z (Zt l))):=by
 refine Pf.gr 6 ?_;refine Ex.M4 (λk T H=>∃(i:Nat),T=[.any,.any,.d (Z 0),.any,.d (ints l),.d (Z (O l)),.d (Z i)]/\H=[]/\i+k=O l/\Zt l=Zt (l.drop i)) ?_ (k:=O l) ⟨0,rfl,rfl,U,rfl⟩;rintro k _ _ ⟨i,rfl,rfl,hk,ho⟩;refine Ex.seq ?_;refine tl i (O l) (λh3=>?_) (λh3=>?_)
 .rw [D8 V,Zt] at ho
  refine gr ?_;refine tb (!x5 (Y l i) 0) (λh4=>?_) (λh4=>?_)
  .refine gr ?_
   rw [if_neg (by simpa using h4)] at ho;rw [ho]
   first|exact ⟨_,rfl,rfl⟩|(simp [j4];done)
  .refine gr ?_
   rw [if_pos (by simpa using h4)] at ho;exact kk ⟨i+1,rfl,rfl,V,ho⟩
 .rw [n5 V] at ho
  rw [ho];refine gr ?_
  first|exact ⟨_,rfl,rfl⟩|(simp [j4];done)
def SG (p:J9):c7:= .agg [.d (Z p.1),.d (Z p.2)]
def VO (a b:J9):Pf A0 118 [SG a,SG b] (.d (Z (wk a b))):=by
 refine Pf.go 3 ?_;unfold SG;have p1:=q83 a.1 b.1;have p2:=q83 a.2 b.2;have p3:=q82 [mB a.1 b.1,mB a.2 b.2] U;have e:wk a b=Zt [mB a.1 b.1,mB a.2 b.2]:=by
  unfold wk;simp only [Zt,o9]
  by_cases h:mB a.1 b.1=0
  .by_cases h2:mB a.2 b.2=0<;>simp [h,h2]
  .simp [h]
 rw [e]
 repeat' (first|refine sO p1 ?_|refine sO p2 ?_|refine sO p3 ?_|refine bsv [Z (mB a.1 b.1),Z (mB a.2 b.2)] ?_|refine gx ?_|fail)
 first|exact ⟨_,rfl,rfl⟩|(simp [j4];done)
def bw0 (a b:Bool):Pf A0 165 [.d (.bool a),.d (.bool b)] (.d (Z (cfB a b))):=by
 refine Pf.go 1 ?_;cases a<;>cases b
 all_goals
  repeat' (first|refine gy ?_|refine ft (λht=>?_) λht=>?_|refine ⟨_,rfl,?_⟩|fail)
  all_goals first|rfl|(exfalso;revert ht;decide)|(rename_i h;exfalso;revert h;decide)
def Up (f:O1):c7:= .agg [.d (Z f.src.1),.d (Z f.src.2),.d (Z f.dst.1),.d (Z f.dst.2),.d (.bool f.dat)]
def bv9 (a b:O1):Pf A0 164 [Up a,Up b] (.d (Z (TM a b))):=by
 refine Pf.go 3 ?_;unfold Up;have p1:=VO a.src b.src;have p2:=VO a.dst b.dst;have p3:=bw0 a.dat b.dat;have p4:=q82 [wk a.src b.src,wk a.dst b.dst,cfB a.dat b.dat] U;have e:TM a b=Zt [wk a.src b.src,wk a.dst b.dst,cfB a.dat b.dat]:=by
  unfold TM;simp only [Zt,o9]
  by_cases h:wk a.src b.src=0
  .by_cases h2:wk a.dst b.dst=0
   .by_cases h3:cfB a.dat b.dat=0<;>simp [h,h2,h3]
   .simp [h,h2]
  .simp [h]
 rw [e];unfold SG at p1 p2
 repeat' (first|refine sO p1 ?_|refine sO p2 ?_|refine sO p3 ?_|refine sO p4 ?_|refine lqo ?_|refine bsv [Z (wk a.src b.src),Z (wk a.dst b.dst),Z (cfB a.dat b.dat)] ?_|refine gx ?_|fail)
 first|exact ⟨_,rfl,rfl⟩|(simp [j4];done)
end Go.Proofs.YtibjocmpkoepoaaGreat
namespace Go.A5
def IJ (a b:J9):wk a b=0↔a.1=b.1/\a.2=b.2:=by
 unfold wk mB;split<;>(repeat' split)<;>omega
def bn (b:Bool):Int:=if b then 0 else 1
def ak1 (a b:Bool):cfB a b<0↔bn a<bn b:=by cases a<;>cases b<;>decide
def wg (a b:O1):TM a b<0↔(a.src.1<b.src.1\/(a.src.1=b.src.1/\(a.src.2<b.src.2\/(a.src.2=b.src.2/\(a.dst.1<b.dst.1\/(a.dst.1=b.dst.1/\(a.dst.2<b.dst.2\/(a.dst.2=b.dst.2/\bn a.dat<bn b.dat)))))))):=by
 have h1:=jL a.src b.src;have h2:=IJ a.src b.src;have h3:=jL a.dst b.dst;have h4:=IJ a.dst b.dst;have h5:=ak1 a.dat b.dat;unfold TM;split
 .rw [h1];omega
 .split
  .rw [h3];omega
  .rw [h5];omega
def aj8 {a b:Bool}(h:bn a=bn b):a=b:=by cases a<;>cases b<;>first|rfl|(exact absurd h (by decide))
end Go.A5
namespace Go.Proofs.YtibjocmpkoepoaaGreat
open Go.A5 Go.Sort Go.Proofs
def bx0:SWO (ltOf wk) where
 irrefl x:=by simp only [ltOf,decide_eq_false_iff_not,jL];omega
 trans x y z h1 h2:=by simp only [ltOf,decide_eq_true_eq,jL] at *;omega
 ntrans x y z h1 h2:=by simp only [ltOf,decide_eq_false_iff_not,jL] at *;omega
def aP0 (x y:J9)(h1:ltOf wk x y=F)(h2:ltOf wk y x=F):x=y:=by
 simp only [ltOf,decide_eq_false_iff_not,jL] at *
 exact Prod.ext V V
def bw9:SWO (ltOf TM) where
 irrefl x:=by simp only [ltOf,decide_eq_false_iff_not,wg];omega
 trans x y z h1 h2:=by simp only [ltOf,decide_eq_true_eq,wg] at *;omega
 ntrans x y z h1 h2:=by simp only [ltOf,decide_eq_false_iff_not,wg] at *;omega
def aO9 (x y:O1)(h1:ltOf TM x y=F)(h2:ltOf TM y x=F):x=y:=by
 simp only [ltOf,decide_eq_false_iff_not,wg] at *
 obtain ⟨⟨a,b⟩,⟨c,d⟩,e⟩:=x;obtain ⟨⟨a',b'⟩,⟨c',d'⟩,e'⟩:=y;simp only at h1 h2;obtain rfl:a=a' :=V
 obtain rfl:b=b' :=V
 obtain rfl:c=c' :=V
 obtain rfl:d=d' :=V
 obtain rfl:e=e' :=aj8 V;rfl
def J9.vals (p:J9):List Value:=[.int .i64 p.1,.int .i64 p.2]
def Wt {G:Gh}{I:S8}{N:Nat->Prop}{w:World}(f:O1):VR G I N w .none (Up f) (.agg (O1.vals f).toArray):=by
 simp only [Up,VR];exact ⟨_,rfl,by simp only [O1.vals,K1,VR,DR];exact ⟨_,_,rfl,rfl,_,_,rfl,rfl,_,_,rfl,rfl,_,_,rfl,rfl,_,_,rfl,rfl,rfl⟩⟩
def Wu {G:Gh}{I:S8}{N:Nat->Prop}{w:World}(f:J9):VR G I N w .none (SG f) (.agg (J9.vals f).toArray):=by
 simp only [SG,VR];exact ⟨_,rfl,by simp only [J9.vals,K1,VR,DR];exact ⟨_,_,rfl,rfl,_,_,rfl,rfl,rfl⟩⟩
def TT {f:FuncId}{a b:c7}{x y:Value}{n:Int}(h:Pf A0 f [a,b] (.d (Z n)))(hv:∀w,K1 (G0 w) (λ_=>(0,0)) (λ_=>False) w [a,b] [x,y])(w:World) :
  Calls Tryz.prog f #[x,y] w λe w' =>e= .returned (.int .i64 n)/\∃q os,w' =grow (w.drewN q) os:=by
 obtain ⟨N,hN⟩:=h;refine (@MP ⟨True⟩ trivial Tryz.prog A0 (@ay9 ⟨True⟩) N f [a,b] #[x,y] w _ (hN N (k9 _)) (hv w)).mono ?_;rintro e w' ⟨v,G',I',N',rfl,hv,hw⟩;simp only [VR,DR] at hv;subst hv;exact ⟨rfl,hw⟩
def bf2 (blk off size:Nat)(w:World):CmpLays Tryz.prog 164 #[] O1.vals 5 TM blk off size w:=λm os dk _ x y =>
 TT (bv9 x y) (λw=>by simp only [K1];exact ⟨_,_,rfl,Wt x,_,_,rfl,Wt y,rfl⟩) _
def bf3 (blk off size:Nat)(w:World):CmpLays Tryz.prog 118 #[] J9.vals 2 wk blk off size w:=λm os dk _ x y =>
 TT (VO x y) (λw=>by simp only [K1];exact ⟨_,_,rfl,Wu x,_,_,rfl,Wu y,rfl⟩) _
theorem ZR (blk off cap:Nat)(fs:List O1)(w:World)(h1:HoldsK O1.vals 5 w blk off fs.toArray)(h2:blk<w.heap.size)(h3:O fs<4611686018427387904):Calls Tryz.prog 163 #[.slice (J ⟨blk,off,K⟩) (O fs) cap,.func (.func 164) #[] #[]] w λe w' =>
   e= .returned (.tuple #[])/\∃n os,w' =grow (putRowK O1.vals 5 (Sort.ahead w n) blk off (dV fs).toArray) os:=by
 have eg:∀args w,(callFunc 164 args).run Tryz.prog w= .ok (.enter 164 args) w:=enters_of Tryz.func164 (by kernel_rfl) rfl;rw [dV,<- yx (λa b c h1 h2=>by rw [wg] at *;omega) (λa b h=>by rw [wg] at *;omega) (λa b h1 h2=>aO9 a b (by simpa [ltOf] using h2) (by simpa [ltOf] using h1)) fs];exact AnyQ.slices_SortFunc_total Tryz.sortQ 5 (λw=>by kernel_rfl) (λw=>by kernel_rfl) O1.vals (λ_=>rfl) (λx v hv=>by simp [O1.vals] at hv;rcases hv with rfl|rfl|rfl|rfl|rfl<;>rfl) TM bw9 164 #[] blk off cap fs.toArray w eg (bf2 blk off _ w) h1 h2 h3 aO9
theorem ZS (blk off cap:Nat)(ps:List J9)(w:World)(h1:HoldsK J9.vals 2 w blk off ps.toArray)(h2:blk<w.heap.size)(h3:O ps<4611686018427387904):Calls Tryz.prog 89 #[.slice (J ⟨blk,off,K⟩) (O ps) cap,.func (.func 118) #[] #[]] w λe w' =>
   e= .returned (.tuple #[])/\∃n os,w' =grow (putRowK J9.vals 2 (Sort.ahead w n) blk off (sortP ps).toArray) os:=by
 have eg:∀args w,(callFunc 118 args).run Tryz.prog w= .ok (.enter 118 args) w:=enters_of Tryz.func118 (by kernel_rfl) rfl;rw [Go.A5.sortP,<- yx (λa b c h1 h2=>by rw [jL] at *;omega) (λa b h=>by rw [jL] at *;omega) (λa b h1 h2=>aP0 a b (by simpa [ltOf] using h2) (by simpa [ltOf] using h1)) ps];exact AnyQ.slices_SortFunc_total Tryz.sortP 2 (λw=>by kernel_rfl) (λw=>by kernel_rfl) J9.vals (λ_=>rfl) (λx v hv=>by simp [J9.vals] at hv;rcases hv with rfl|rfl<;>rfl) wk bx0 118 #[] blk off cap ps.toArray w eg (bf3 blk off _ w) h1 h2 h3 aP0
theorem ZA (prom:FuncId->Bool):fS Tryz.prog prom 163 (wP 164) :=
 NI (by kernel_rfl) ZR λp cap fv w=>AnyF.slices_SortFunc_none (P:=Tryz.prog) (ρ:=Tryz.sortQ_ren) { Tryz.sortQ with } p cap fv w
end Go.Proofs.YtibjocmpkoepoaaGreat
namespace Go.Proofs.YtibjocmpkoepoaaGreat
open Go.RowKit Go.Maps
def pv (p:Int×Int):Value:= .agg #[.int .i64 p.1,.int .i64 p.2]
def aP3:Value->Int×Int
 | .agg cs=>match cs.toList with
  |[.int _ a,.int _ b]=>(a,b)
  |_=>(0,0)
 |_=>(0,0)
def ZZ (p:Int×Int):aP3 (pv p)=p:=rfl
def DA:List (Int×Int)->List Value
 |[]=>[]
 |p::r=> .int .i64 p.1:: .int .i64 p.2::DA r
theorem Jc (p:Int×Int):∀l:List (Int×Int),DA (l++[p])=DA l++[.int .i64 p.1,.int .i64 p.2]
 |[]=>rfl
 |q::l=>by simp [x6,DA,Jc p l]
theorem gP:∀l:List (Int×Int),O (DA l)=O l * 2
 |[]=>rfl
 |q::l=>by simp [DA,o8,gP l];omega
def Ap (es:Array MapEntry)(seen:Array Nat)(tp:List (Int×Int)):Prop:=∃tk:List MapEntry,tk.map (·.key)=tp.map pv/\(tk++(leftOf es seen).toList).Perm es.toList
def Ap.start (es:Array MapEntry):Ap es #[] []:=⟨[],rfl,by
 grind [leftOf,Array.toList_filter,List.filter_eq_self,List.Perm.refl]⟩
theorem EL (es:Array MapEntry)(seen:Array Nat)(b:Nat):(leftOf es (seen.push b)).toList=(leftOf es seen).toList.filter (λx=>x.born != b):=by
 grind [leftOf,Array.toList_filter,List.filter_filter,List.filter_congr,Array.contains_push,bne,Bool.and_comm]
theorem JZ:∀(l:List MapEntry) (e:MapEntry),e∈l->(l.map (·.born)).Nodup->(e::l.filter (λx=>x.born != e.born)).Perm l
 |[],_,h,_=>by cases h
 |x::l,e,h,hn=>by
  simp [G4,List.nodup_cons] at hn
  rcases List.mem_cons.1 h with rfl|h
  .have:l.filter (λx=>x.born != e.born)=l:=by
    simp_all
   simp [this]
  .have hx:x.born≠e.born:=by
    grind
   have hx' :(x.born != e.born)=W:=M
   rw [List.filter_cons,if_pos hx'];exact (List.Perm.swap x e _).trans ((JZ l e h hn.2).cons x)
def Ap.step {es:Array MapEntry}{seen:Array Nat}{tp:List (Int×Int)}(h:Ap es seen tp)(hn:(es.toList.map (·.born)).Nodup){e:MapEntry}(he:e∈(leftOf es seen).toList){p:Int×Int}(hk:e.key=pv p) :
  Ap es (seen.push e.born) (tp++[p])/\(leftOf es (seen.push e.born)).size<(leftOf es seen).size:=by
 obtain ⟨tk,h1,h2⟩:=h;have hn' :((leftOf es seen).toList.map (·.born)).Nodup:=by
  grind
 have hp:=JZ _ e he hn';refine ⟨⟨tk++[e],by simp [h1,hk],?_⟩,?_⟩
 .rw [EL,K2]
  exact (List.Perm.append_left tk hp).trans h2
 .have:=hp.length_eq
  grind [EL,o8,Array.length_toList]
def Ap.done {es:Array MapEntry}{seen:Array Nat}{tp:List (Int×Int)}(h:Ap es seen tp)(h0:(leftOf es seen).size=0){ks:List (Int×Int)}(hk:es.toList.map (·.key)=ks.map pv):tp.Perm ks:=by
 obtain ⟨tk,h1,h2⟩:=h;have e0:(leftOf es seen).toList=[]:=by
  simp_all
 rw [e0,List.append_nil] at h2;have h3:=h2.map (·.key);have h4:=h3.map aP3;simp_all [List.map_map,Function.comp_def,ZZ]
theorem Ap.len {es:Array MapEntry}{seen:Array Nat}{tp:List (Int×Int)}(h:Ap es seen tp):O tp+(leftOf es seen).size=es.size:=by
 obtain ⟨tk,h1,h2⟩:=h;have e1:=congrArg List.length h1;have e2:=h2.length_eq
 grind
def TK (w:World)(x y:Value)(t:TypeId){k:Nat}(hk:k=w.heap.size):∀j u,[x,y][j]? =J u->(w.alloc (.cells #[x,y] t)).cell? ((⟨k,0,K⟩:Addr).add j)=J u:=by
 intro j u hj;subst hk;have e:∀i,(w.alloc (.cells #[x,y] t)).cell? ⟨w.heap.size,i,K⟩= #[x,y][i]? :=λi=>by
  simp_all
 match j,hj with
 |0,hj=>exact (e 0).trans hj
 |1,hj=>exact (e 1).trans hj
def ae1 (w:World)(r:Nat):Nat:=match w.heap[r]? with
 |some (.mapIter (J bm) _ seen _)=>(match w.heap[bm]? with
  |some (.map es _)=>(leftOf es seen).size
  |_=>0)
 |_=>0
section
variable {d6:Fence} {n:Nat} {P:Program} (w:World) {ops:Array Oper} {rest:List Oper} {o:Oper} {a:Act} {Q:Exit->Act->World->Prop}
def tK (hg:o.guard=K)(m:Operand)(t:TypeId)(hop:o.op=Op.range t m)(k e:TypeId)(ht:P.underlying t=J (.map k e))(b:Nat)(es:Array MapEntry)(gE:Nat)(hm:a.eval m= .map (J b))(hb:w.heap[b]? =J (.map es gE))
  (hK:wpListIn d6 n P ops Q rest (a.put o.dst (.pointer (J ⟨w.heap.size,0,K⟩))) (w.alloc (.mapIter (J b) gE #[] gE))) :
  wpListIn d6 n P ops Q (o::rest) a w:=by
 refine wpListIn_plain hg λK' hK' =>?_
 have hrun:=run_range_map w t k e b es gE ht hb;refine ⟨?_,?_⟩
 .simp [Oper.about,hop]
 .rw [Oper.semAt_plain d6 _ _ M]
  simp [execOp,hop,hm,hrun];exact hK' _ _ hK
def vh (hg:o.guard=K)(it:Operand)(hop:o.op=Op.next it F)(b r:Nat)(es:Array MapEntry)(gE:Nat)(seen:Array Nat)(hit:a.eval it= .pointer (J ⟨r,0,K⟩))
  (hr:w.heap[r]? =J (.mapIter (J b) gE seen gE)) (hb:w.heap[b]? =J (.map es gE)) (hold:∀x∈es.toList,x.born<gE) (hn:(es.toList.map (·.born)).Nodup) (hkeys:∀e∈es.toList,∃p,e.key=pv p) (hbr:b≠r)
  (hDone:(leftOf es seen).size=0->wpListIn d6 n P ops Q rest (a.put o.dst (.tuple #[.bool F])) w)
  (hMore:∀(e:MapEntry) (p:Int×Int) (v:Value) (w' :World),e∈(leftOf es seen).toList->e.key=pv p->w.grownBy w' (J r)->w'.heap.size=w.heap.size->w'.heap[r]? =J (.mapIter (J b) gE (seen.push e.born) gE)->w'.heap[b]? =J (.map es gE) ->
   (Instr.entry (.pointer (J ⟨r,0,K⟩))).run P w' = .ok (.tuple #[pv p,v]) w' ->wpListIn d6 n P ops Q rest (a.put o.dst (.tuple #[.bool W,pv p,v])) w') :
  wpListIn d6 n P ops Q (o::rest) a w:=by
 refine wpListIn_plain hg λK' hK' =>?_
 refine ⟨by simp [Oper.about,hop],?_⟩;rw [Oper.semAt_plain d6 _ _ M]
 rcases run_next_at (P:=P) w o.type r b gE gE seen es gE hr hb hold (k9 _) with ⟨h0,hrun⟩|⟨e,he,w1,hw1,hrun⟩
 .simp [execOp,hop,hit,hrun]
  exact hK' _ _ (hDone h0)
 .have XQ:e∈es.toList:=by
   have:e∈(Array.filter (λe=> !seen.contains e.born) es).toList:=he;simp_all
  obtain ⟨p,hp⟩:=hkeys e XQ;simp [execOp,hop,hit,hrun];have hsz:(ChangeMaps.setBlock w1 r (.mapIter (J b) gE (seen.push e.born) gE)).heap.size=w.heap.size:=by
   rcases hw1 with rfl|rfl<;>simp [ChangeMaps.setBlock]
  have hlt:r<w.heap.size:=by
   grind
  have hr' :(ChangeMaps.setBlock w1 r (.mapIter (J b) gE (seen.push e.born) gE)).heap[r]? =J (.mapIter (J b) gE (seen.push e.born) gE):=by
   simp_all [ChangeMaps.setBlock]
  have Sf:∀k,k≠r->(ChangeMaps.setBlock w1 r (.mapIter (J b) gE (seen.push e.born) gE)).heap[k]? =w.heap[k]? :=by
   intro k hk
   rcases hw1 with rfl|rfl
   .grind [ChangeMaps.setBlock]
   .simp [ChangeMaps.setBlock,Ne.symm hk]
    rfl
  have hb' :=(Sf b hbr).trans hb;have hen:=run_entry_at (P:=P) _ r b gE seen es gE e hr' hb' XQ hn;rw [hp] at hen ⊢;refine hK' _ _ (hMore e p e.val _ he hp ⟨?_,?_,?_,Nat.le_of_eq hsz.symm,λk _ hk=>Sf k (λe=>hk (by rw [e]))⟩ hsz hr' hb' hen)
  all_goals (rcases hw1 with rfl|rfl<;>rfl)
end
theorem ao7:(Tryz.prog.info? 44).map (λi=>(i.zero,i.size,i.bytes))=J (J (.agg #[.int .i64 0,.int .i64 0]),2,16):=by kernel_rfl
set_option maxRecDepth 100000 in
set_option maxHeartbeats 2000000 in
def yy (bm:Nat)(es:Array MapEntry)(gE:Nat)(ks srt:List (Int×Int))(w:World)(hb:w.heap[bm]? =J (.map es gE))(hold:∀x∈es.toList,x.born<gE)(hn:(es.toList.map (·.born)).Nodup)(hk:es.toList.map (·.key)=ks.map pv)(hlen:O ks<=1000000)
  (hsort:∀(v:Value) (ps:List (Int×Int)) (d5:World),d5.ownsRow w.heap.size 44 2 v (O ps) (DA ps)->ps.Perm ks->Calls Tryz.prog 89 #[v,.func (.func 118) #[] #[]] d5 λe W' =>
   e= .returned (.tuple #[])/\W'.ownsRow w.heap.size 44 2 v (O ps) (DA srt)/\d5.grownBy W' v.ownBlock) :
  Calls Tryz.prog 63 #[.map (J bm)] w λe w' =>∃v,e= .returned v/\w'.ownsRow w.heap.size 44 2 v (O ks) (DA srt)/\Below w.heap.size w w' :=by
 obtain ⟨i0,hi,hz0,YT,Jt⟩:=info_parts ao7;have hbl:bm<w.heap.size:=by
  grind
 have hkeys:∀e∈es.toList,∃p,e.key=pv p:=by
  intro e he;have:e.key∈ks.map pv:=by grind
  grind
 have bR7:es.size=O ks:=by
  have:=congrArg List.length hk
  grind
 refine (callsIn_wide (n:=68)).1 ?_;refine callsIn_of_wp Tryz.func63 rfl trivial ?_ rfl;simp only [Tryz.ntmps63,List.size_toArray,o8,B1,N6,Nat.reduceSub,Array.replicate_succ,Array.replicate_zero,List.push_toArray,List.append_toArray,y5,x6]
 gi_wp2_with (first
  |(gi_at_range;refine tK _ rfl _ 124 rfl 44 4 Tryz.underlying124 bm es gE rfl hb ?_)
  |gi_in)
 go_frame
 gi_loopw [3] (λv wr=>∃(seen:Array Nat) (tp:List (Int×Int)),wr.heap[w.heap.size]? =J (.mapIter (J bm) gE seen gE)/\wr.heap[bm]? =J (.map es gE)/\Ap es seen tp/\wr.ownsRow w.heap.size 44 2 v (O tp) (DA tp)/\Below w.heap.size w wr)
  (λ_ wr=>ae1 wr w.heap.size)
 case atStart =>
  exact ⟨#[],[],heap_alloc_new _ _,(Below.heap_alloc _ _ _ hbl).trans hb,Ap.start es,World.ownsRow_nil _ _ _ _,(Below.refl _ _).alloc (k9 _) _⟩
 case round =>
  obtain ⟨seen,tp,hr,hbb,hC,hrow,hnx⟩:=hrel
  gi_wp2_with (first
   |(gi_at_next;refine vh _ rfl _ rfl bm w.heap.size es gE seen rfl hr hbb hold hn hkeys V ?_ ?_)
   |gi_in)
  .intro h0
   have Jr:=hC.done (by rw [h0];rfl) hk;have hc:=hsort _ tp _ hrow Jr;clear h0
   gi_wp2_with (refine ⟨trivial,?_⟩;gi_at_call 89;refine ((callsIn_wide).2 hc).mono ?_;rintro e w' ⟨rfl,aE8,hg'⟩)
   refine ⟨rfl,_,results_tmp rfl _ _ _,u3,rfl,?_,hnx.grown hg' hnx.size (λj hj=>(hrow.lt j hj).1)⟩;rw [<- Jr.length_eq];exact aE8
  .intro e p1 p2 v' w2 he hp hg2 hs2 Sh hb2 hen
   have EA:=hrow.kept hg2 (by
    by_cases h:u3.ownBlock=K
    .simp_all
    .refine Or.inr λe1=>?_
     rcases hrow.2 with ⟨rfl,_⟩|⟨g,cap,cur,rfl,_,hgg,_⟩
     all_goals simp_all [Value.ownBlock,Option.some.injEq])
   have bT9:=hg2.size;have hstep:=hC.step hn (Array.mem_toList_iff.2 he) (p:=(p1,p2)) hp;have bC3:O tp+1<=1000000:=by
    have:=hC.len;omega
   have bj9:Below w.heap.size w w2:=hnx.grown hg2 hnx.size (λj hj=>M);clear hs2;simp only [pv] at hen ⊢
   gi_wp2_with (gi_at_builtin;go_loud (refine wpListIn_append_own _ rfl _ _ 49 rfl w.heap.size 44 i0 _ 2 16 Tryz.underlying49 hi hz0 YT Jt rfl (by decide) _ _ _ rfl ((EA.alloc _).alloc _) ⟨w2.heap.size+1,0,K⟩ 1 1 [.int .i64 p1,.int .i64 p2] rfl rfl (TK _ _ _ _ U) (by simp [Value.oneCell']) (by grind [maxLen]) V (by simp_all<;>grind) ?_;intro v3 w3 hown' hg3 bC7;go_frame))
   have hg4:World.grownBy _ w3 u3.ownBlock:=hg3;have hkeep:∀(b:Nat) (o:Obj),w2.heap[b]? =J o->(∀c t f,o≠Obj.cells c t f)->w3.heap[b]? =J o:=by
    intro b o iP hno;have hlt:b<w2.heap.size:=by
     grind
    rw [hg4.block b D (λe1=>by
     rcases EA.2 with ⟨rfl,_⟩|⟨g,cap,cur,rfl,_,hgg,_⟩
     all_goals simp_all [Value.ownBlock,Option.some.injEq]),Below.heap_alloc _ _ _ D,Below.heap_alloc _ _ _ hlt]
    exact iP
   have hr3:=hkeep _ _ Sh U;have hb3:=hkeep _ _ hb2 U;have bk0:Below w.heap.size w w3:=((bj9.alloc (by grind) _).alloc (by simp_all<;>grind) _).grown hg4 (by simp_all<;>grind) (λj hj=>(EA.lt j hj).1)
   go_roundw
   case rel=>exact ⟨_,_,hr3,hb3,hstep.1,by simp_all [Jc,l5],bk0⟩
   simp_all [measure,ae1]
#print axioms yy
end Go.Proofs.YtibjocmpkoepoaaGreat
namespace Go.A5
open Go.RowKit
section
variable {w w' :World} {G G' :Gh} {I:S8} {N:Nat->Prop} {l:J2} {H:j9}
def vY (hB:Below w.heap.size w w')(hwf:WF G w)(hG:∀b,b<w.heap.size->G' b=G b):Ext G w G' w' where
 os:=hB.os
 tape:=hB.tape
 output:=hB.output
 size:=hB.size
 lK b o hi:=by
  have hb:b<w.heap.size:=bH hwf (by grind [jm]);exact ⟨by simp_all [jm],by simp [World.cell?,hB.block b hb]⟩
 still b hb:=by
  have hlt:b<w.heap.size:=bH hwf (by grind);exact ⟨hG b hlt,hB.block b hlt⟩
 shape b c e f hc:=by
  have hlt:b<w.heap.size:=by
   grind
  exact ⟨c,(hB.block b hlt).trans hc,rfl⟩
 drawn h:=h.elim
def xy (hB:Below w.heap.size w w')(hwf:WF G w)(hG:∀b,b<w.heap.size->G' b=G b)(q:Place):bE q G w G' w' :=λb n hb=>by
 have hlt:b<w.heap.size:=bH hwf (by rw [hb];simp);exact ⟨(hG b hlt).trans hb,hB.block b hlt⟩
def Au (hB:Below w.heap.size w w')(hwf:WF G w)(hG:∀b,b<w.heap.size->G' b=G b)(b id:Nat)(hb:G b= .obj id):G' b= .obj id/\w'.heap[b]? =w.heap[b]? :=by
 have hlt:b<w.heap.size:=bH hwf (by rw [hb];simp);exact ⟨(hG b hlt).trans hb,hB.block b hlt⟩
def MD {args:List c7}{K8:Array Value}(hp:Di l H w G I N args K8)(hB:Below w.heap.size w w')(hG:∀b,b<w.heap.size->G' b=G b)(hwf' :WF G' w'){v:c7}{x:Value}(hv:VR G' I N w' .ret v x):om l H w G I N v H x w' G' I N :=
 ⟨hv,λid o ho=>OR.mono (vY hB hp.wf hG) (λ_ _=>rfl) (λ_ h=>h) id o (λh=>Au hB hp.wf hG _ _ h) (λ_=>xy hB hp.wf hG _) (hp.hr id o ho),hwf',vY hB hp.wf hG,
  λid _=>⟨λb hb=>Au hB hp.wf hG b id hb,λ_=>xy hB hp.wf hG _⟩,λ_ _ _=>rfl,λ_ h=>h,λ_ _ h=>h,hp.bT,λ_ o' _ ho=>Or.inr ⟨o',ho,k9 _⟩,hp.W1⟩
def DRx (G:Gh)(w:World)(cs:List Data)(news:List Value):Prop:=O news=O cs/\∀(j:Nat) (c:Data),cs[j]? =J c->∃u,news[j]? =J u/\DR G w c u
theorem gB.of {b:Nat}:∀(o:Nat) (cs:List Data),(∀(j:Nat) (c:Data),cs[j]? =J c->jm G b (o+j)/\∃u,w.cell? (ad b (o+j))=J u/\DR G w c u)->gB G w b o cs
 |_,[],_=>by simp [gB]
 |o,c::cs,h=>by
  obtain ⟨h1,h2⟩:=h 0 c rfl;refine ⟨h1,h2,gB.of (o+1) cs λj c hj=>?_⟩;have:=h (j+1) c (by simpa using hj)
  rwa [show o+(j+1)=o+1+j by omega] at this
def DR.one {d:Data}{v:Value}(h:DR G w d v):v.oneCell' =W:=by
 cases d<;>simp [DR] at h
 case slice len cells=>rcases h with ⟨h|⟨a,h⟩,_⟩|⟨b,o,cap,h,_⟩<;>subst h<;>rfl
 all_goals (subst h;rfl)
theorem DRx.mono {cs:List Data}{news:List Value}(h:DRx G w cs news)(hx:Ext G w G' w'):DRx G' w' cs news:=⟨h.1,λj c hj=>by
 obtain ⟨u,h1,h2⟩:=h.2 j c hj;exact ⟨u,h1,DR.mono hx.lK c u h2⟩⟩
def DRx.JT {cs:List Data}{news:List Value}(h:DRx G w cs news):∀u∈news,u.oneCell' =W:=by
 intro u hu;obtain ⟨j,hj,rfl⟩:=List.mem_iff_getElem.1 hu;have hl:=h.1;obtain ⟨u',h1,h2⟩:=h.2 j (cs[j]' V) (n9 V);rw [n9 hj] at h1;cases h1;exact h2.one
def Zu {e z n:Nat}{v:Value}{news:List Value}{cs:List Data}(hown:w'.ownsRow w.heap.size e z v n news)(hB:Below w.heap.size w w')(hwf:WF G w)(hd:DRx G w cs news) :
  ∃G',(∀b,b<w.heap.size->G' b=G b)/\WF G' w' /\VR G' I N w' .ret (.own z n cs) v:=by
 obtain ⟨h1,h2⟩:=hown;have hl:O cs=n * z:=by rw [<- hd.1];exact h1
 rcases h2 with ⟨rfl,rfl⟩|⟨g,cap,cur,rfl,hg,hh,hc1,uv,hc3,hc4⟩
 .refine ⟨G,λ_ _=>rfl,λb hb=>hwf b (s5 hB.size hb),?_⟩
  simp_all [VR,trivial]
 .have hlt:g<w'.heap.size:=by
   grind
  have hG:∀b,b<w.heap.size->(gF G g (.grow (0+n * z) .ret)) b=G b:=λb hb=>J3 V
  refine ⟨gF G g (.grow (0+n * z) .ret),hG,λb hb=>?_,?_⟩
  .rw [J3 V]
   exact hwf b (s5 hB.size hb)
  .have hd' :=hd.mono (vY hB hwf hG)
   refine ⟨hl,Or.inr ⟨U,g,0,cap,cur,e,(0,0),rfl,hc1,hh,V,nr _,U,gB.of 0 cs λj c hj=>?_⟩⟩;obtain ⟨u,g1,g2⟩:=hd'.2 j c hj;simp_all [jm,World.cell?]<;>grind
def MY {P:Program}{prom:FuncId->Bool}{f:FuncId}{z e:Nat}(hcan:V3 P f=W)
  (hG:∀(n:Nat) (w:World),0<n->n<=1000000->Calls P f #[.slice K 0 0,.int .i64 n] w λx w' =>∃(cap:Nat) (c:Array Value),x= .returned (.slice (J ⟨w.heap.size,0,K⟩) 0 cap)/\w' =w.drew.alloc (.cells c e)/\c.size=cap * z):fS P prom f (wN z):=by
 refine ⟨hcan,λargs H l v H1 hrun w G I N K8 hp _=>?_⟩;unfold wN at hrun;split at hrun
 next n=>
  split at hrun
  .cases hrun
   obtain ⟨m,rfl⟩:∃m:Nat,n=m:=⟨n.toNat,V⟩;have ha:=hp.args;simp [K1,VR,DR] at ha;have hv:K8= #[.slice K 0 0,.int .i64 m]:=by
    grind
   subst hv;refine (hG m w V V).mono ?_;rintro e' w' ⟨cap,c,rfl,rfl,hc⟩;have hN:jK w (w.drew.alloc (.cells c e)) (.cells c e):=(jK.alloc w (.cells c e)).drew (w.drawn+1) (Nat.le_succ _);refine ⟨_,gF G w.heap.size (.grow 0 .ret),I,N,rfl,?_,hN.hr hp.wf _ (λ_ _=>rfl) (λ_ h=>h) hp.hr,hN.wf hp.wf _,hN.ext hp.wf _,hN.dQ hp.wf _ _,λ_ _ _=>rfl,λ_ h=>h,λ_ _ h=>h,hp.bT,λ_ o' _ ho=>Or.inr ⟨o',ho,k9 _⟩,hp.W1⟩;exact ⟨U,Or.inr ⟨U,w.heap.size,0,cap,c,e,_,rfl,s9 _,hN.new,V,nr _,U,by simp [gB]⟩⟩
  .cases hrun
 .cases hrun
end
end Go.A5
namespace Go.Proofs.YtibjocmpkoepoaaGreat
open Go.RowKit Go.Maps Go.A5 Go.Sort Go.Proofs
theorem Be:∀ps:List (Int×Int),DA ps=ps.flatMap J9.vals
 |[]=>rfl
 |(a,b)::r=>by rw [DA,Be r];rfl
theorem EZ:∀(ps:List (Int×Int)) (i:Nat) (d:A5.Data),(ey ps)[i]? =J d->∃u,(DA ps)[i]? =J u/\∀G w,DR G w d u
 |[],i,d,h=>by simp [ey] at h
 |(a,b)::r,0,d,h=>by simp [ey] at h;subst h;exact ⟨_,rfl,λG w=>by simp [DR]⟩
 |(a,b)::r,1,d,h=>by simp [ey] at h;subst h;exact ⟨_,rfl,λG w=>by simp [DR]⟩
 |(a,b)::r,i+2,d,h=>by
  simp only [ey,List.getElem?_cons_succ] at h;simpa only [DA,List.getElem?_cons_succ] using EZ r i d h
theorem qc:∀l:List (Int×Int),O (ey l)=O l * 2
 |[]=>rfl
 |q::l=>by simp only [ey,o8,qc l];omega
theorem OX {G:Gh}{I:S8}{N:Nat->Prop}{w:World}:∀(es:List (Key×c7)) (ks:List (Int×Int)) (arr:List MapEntry),tu es=J ks->ER G I N w es arr->arr.map (·.key)=ks.map pv
 |[],ks,arr,h,hE=>by
  simp [tu] at h;simp [ER] at hE;subst h hE;rfl
 |(k,v)::r,ks,arr,h,hE=>by
  simp only [ER] at hE;obtain ⟨e,es',rfl,h1,_,h3⟩:=hE;unfold tu at h;split at h
  .rename_i heq;cases heq
  next a b v' r' heq=>
   cases heq;split at h
   next l hl=>
    cases h;rw [G4,OX _ l es' hl h3,h1];rfl
   .cases h
  .cases h
def VY (m:Nat)(v:Value)(ps:List J9)(d5:World)(hlen:O ps<=1000000)(hrow:d5.ownsRow m 44 2 v (O ps) (DA ps)):Calls Tryz.prog 89 #[v,.func (.func 118) #[] #[]] d5 λe W' =>
   e= .returned (.tuple #[])/\W'.ownsRow m 44 2 v (O ps) (DA (sortP ps))/\d5.grownBy W' v.ownBlock:=by
 obtain ⟨hl,⟨rfl,h0⟩|⟨g,cap,cur,rfl,hg,hh,hc1,uv,hc3,hc4⟩⟩:=hrow
 .have hp0:ps=[]:=List.length_eq_zero_iff.1 h0
  subst hp0;have h:=AnyF.slices_SortFunc_none (P:=Tryz.prog) (ρ:=Tryz.sortP_ren) { Tryz.sortP with } K 0 (.func (.func 118) #[] #[]) d5;refine h.mono ?_;rintro e W' ⟨rfl,rfl⟩;exact ⟨rfl,by rw [show sortP []=([]:List J9) from rfl];exact World.ownsRow_nil _ _ _ _,World.grownBy.refl _ _⟩
 .have hlt:g<d5.heap.size:=by
   rcases A7 g d5.heap.size with h|h
   .exact h
   .rw [Array.getElem?_eq_none h] at hh;cases hh
  have hsz:O (sortP ps)=O ps:=wV ps;have hcell:∀j,j<O ps * 2->cur[j]? =(DA ps)[j]? :=λj hj=>by
   rw [<- hc4,List.getElem?_take,if_pos hj];simp
  refine (ZS g 0 cap ps d5 ?_ hlt V).mono ?_
  .unfold HoldsK
   rw [nK J9.vals 2 (λ_=>rfl),<- Be];intro j hj;have hj' :j<O (DA ps):=by simpa using hj
   have hj2:j<O ps * 2:=by rw [<- gP];exact hj'
   constructor
   .show d5.cell? ⟨g,0+j,K⟩=_
    simp only [World.cell?,hh,Nat.zero_add];rw [hcell j hj2];simp [hj']
   .show d5.frozen? ⟨g,0+j,K⟩=_
    simp only [World.frozen?,hh];simp
  .rintro e W' ⟨rfl,n,os,rfl⟩
   have hR:=nV _root_.id d5 n g 0 (DA (sortP ps)) os;rw [List.map_id] at hR;unfold putRowK;rw [nK J9.vals 2 (λ_=>rfl),<- Be];obtain ⟨W',hW⟩:∃W',grow (putRow _root_.id (Sort.ahead d5 n) g 0 (DA (sortP ps)).toArray) os=W' :=⟨_,rfl⟩;rw [hW] at hR ⊢;obtain ⟨c',g1,g2,g3,g4⟩:=hR.here cur 44 (0,0) hh;refine ⟨rfl,⟨by rw [gP,hsz],.inr ⟨g,cap,c',rfl,hg,g1,hc1,uv,V,?_⟩⟩,⟨hR.os,hR.tape,hR.output,hR.size,λk hk hne=>hR.other k hk (λe=>hne (by rw [e];rfl))⟩⟩;apply List.ext_getElem?;intro j;rw [List.getElem?_take];split
   next hj=>
    have hj' :j<O (DA (sortP ps)):=by rw [gP,hsz];exact hj
    have:=g4 j _ V (n9 hj');rw [Nat.zero_add] at this;rw [n9 hj',<- this];simp
   next hj=>
    rw [List.getElem?_eq_none];rw [gP,hsz];omega
theorem as1 (prom:FuncId->Bool):fS Tryz.prog prom 63 Ak:=by
 refine ⟨by kernel_rfl,λargs H l v H1 hrun w G I N K8 hp _=>?_⟩;unfold Ak at hrun;split at hrun
 next id=>
  split at hrun
  next es XQ=>
   split at hrun
   next ks hks=>
    split at hrun
    next hlen=>
     cases hrun;obtain ⟨x,rfl,hv⟩:=oR hp.args;simp only [VR] at hv;obtain ⟨hN,rfl⟩:=hv;have hO:=hp.hr id _ XQ;simp only [OR] at hO;obtain ⟨_,arr,gE,h1,_,hE,hB⟩:=hO;have hk:=OX es ks arr.toList hks hE;refine (yy (I id).1 arr gE ks (sortP ks) w h1 hB.old hB.nodup hk hlen ?_).mono ?_
     .intro v ps d5 hown Jr
      have:=Jr.length_eq;rw [<- DL Jr];exact VY _ v ps d5 V hown
     .rintro e w' ⟨v,rfl,hown,hBl⟩
      obtain ⟨G',hG,hwf',YS⟩:=Zu (I:=I) (N:=N) (cs:=ey (sortP ks)) hown hBl hp.wf ⟨by rw [gP,qc],λj c hj=>by
       obtain ⟨u,u1,u2⟩:=EZ (sortP ks) j c hj;exact ⟨u,u1,u2 _ _⟩⟩
      exact ⟨_,G',I,N,rfl,MD hp hBl hG hwf' YS⟩
    .cases hrun
   .cases hrun
  .cases hrun
 .cases hrun
end Go.Proofs.YtibjocmpkoepoaaGreat
namespace Go.Proofs.YtibjocmpkoepoaaGreat
open Go.RowKit Go.Lib
theorem UL:(Tryz.prog.info? 44).map (λi=>(i.zero,i.size,i.bytes))=J (J (.agg #[.int .i64 0,.int .i64 0]),2,16):=by kernel_rfl
set_option maxRecDepth 100000 in
set_option maxHeartbeats 4000000 in
def Yz (n:Nat)(w:World)(h0:0<n)(hn:n<=1000000):Calls Tryz.prog 226 #[.slice K 0 0,.int .i64 n] w λe w' =>∃(cap:Nat) (c:Array Value),e= .returned (.slice (J ⟨w.heap.size,0,K⟩) 0 cap)/\w' =w.drew.alloc (.cells c 44)/\c.size=cap * 2:=by
 obtain ⟨i0,hi,hz0,YT,Jt⟩:=info_parts UL;have h1:¬ ((n:Int)<0):=V
 have h2:wrap64 ((0:Int) - 0)=0:=by unfold wrap64;omega
 have h3:wrap64 ((n:Int) - 0)=(n:Int):=by unfold wrap64;omega
 have h4:(n:Int)>0:=V
 have hGn:0+n<=grownCap w (0+n) 0 44:=grownCap_ge w _ _ _;have UI:∀ty,(Builtin.append_ #[49,3] ty #[.slice K 0 0,.int .i64 (n:Int)]).run Tryz.prog w =
   .ok (.slice (J ⟨w.heap.size,0,K⟩) (0+n) (grownCap w (0+n) 0 44)) (w.drew.alloc (.cells ((#[]:Array Value)++Builtin.zeroCells (.agg #[.int .i64 0,.int .i64 0]:Value).cells n++Builtin.zeroCells (.agg #[.int .i64 0,.int .i64 0]:Value).cells (grownCap w (0+n) 0 44 - (0+n))) 44)):=λty=>by
  have h:=Lib.run_append_grow_zeros w 49 3 ty 44 i0 (.agg #[.int .i64 0,.int .i64 0]) .i64 .i64 Tryz.underlying49 Tryz.underlying3 hi hz0 K 0 0 [] (run_firstCells_none w.drew i0.size 0 0 0) n h0 V V V (by rw [Jt];omega) (growslice_fits V (by rw [Jt];omega));exact h
 have al7:grownCap w (0+n) 0 44<=9223372036854775807:=by
  have:=grownCap_le_maxLen w (0+n) 0 44 (by unfold maxLen;omega);unfold maxLen at this;omega
 obtain ⟨G,hG⟩:∃G,G=grownCap w (0+n) 0 44:=⟨_,rfl⟩;rw [<- hG] at UI hGn al7;have hsz:((#[]:Array Value)++Builtin.zeroCells (.agg #[.int .i64 0,.int .i64 0]:Value).cells n++Builtin.zeroCells (.agg #[.int .i64 0,.int .i64 0]:Value).cells (G - (0+n))).size=G * 2:=by
  simp only [Array.size_append,size_zeroCells,Value.cells,List.size_toArray,o8,B1];omega
 obtain ⟨c0,hc0⟩:∃c0,c0=((#[]:Array Value)++Builtin.zeroCells (.agg #[.int .i64 0,.int .i64 0]:Value).cells n++Builtin.zeroCells (.agg #[.int .i64 0,.int .i64 0]:Value).cells (G - (0+n))):=⟨_,rfl⟩;rw [<- hc0] at UI hsz;clear hG hc0 hi hz0 YT Jt
 go_enter Tryz.func226,Tryz.ntmps226
 go_wp2_with (at_builtin;refine Lib.wpList_append_run _ rfl _ _ _ _ rfl _ _ rfl rfl _ _ (UI _) ?_)
 all_goals (go_ret;exact ⟨G,rfl,c0,rfl,by first|exact hsz|omega⟩)
theorem UM:(Tryz.prog.info? 3).map (λi=>(i.zero,i.size,i.bytes))=J (J (.int .i64 0),1,8):=by kernel_rfl
set_option maxRecDepth 100000 in
set_option maxHeartbeats 4000000 in
def YA (n:Nat)(w:World)(h0:0<n)(hn:n<=1000000):Calls Tryz.prog 279 #[.slice K 0 0,.int .i64 n] w λe w' =>∃(cap:Nat) (c:Array Value),e= .returned (.slice (J ⟨w.heap.size,0,K⟩) 0 cap)/\w' =w.drew.alloc (.cells c 3)/\c.size=cap * 1:=by
 obtain ⟨i0,hi,hz0,YT,Jt⟩:=info_parts UM;have h1:¬ ((n:Int)<0):=V
 have h2:wrap64 ((0:Int) - 0)=0:=by unfold wrap64;omega
 have h3:wrap64 ((n:Int) - 0)=(n:Int):=by unfold wrap64;omega
 have h4:(n:Int)>0:=V
 have hGn:0+n<=grownCap w (0+n) 0 3:=grownCap_ge w _ _ _;have UI:∀ty,(Builtin.append_ #[22,3] ty #[.slice K 0 0,.int .i64 (n:Int)]).run Tryz.prog w =
   .ok (.slice (J ⟨w.heap.size,0,K⟩) (0+n) (grownCap w (0+n) 0 3)) (w.drew.alloc (.cells ((#[]:Array Value)++Builtin.zeroCells (.int .i64 0:Value).cells n++Builtin.zeroCells (.int .i64 0:Value).cells (grownCap w (0+n) 0 3 - (0+n))) 3)):=λty=>by
  have h:=Lib.run_append_grow_zeros w 22 3 ty 3 i0 (.int .i64 0) .i64 .i64 Tryz.underlying22 Tryz.underlying3 hi hz0 K 0 0 [] (run_firstCells_none w.drew i0.size 0 0 0) n h0 V V V (by rw [Jt];omega) (growslice_fits V (by rw [Jt];omega));exact h
 have al7:grownCap w (0+n) 0 3<=9223372036854775807:=by
  have:=grownCap_le_maxLen w (0+n) 0 3 (by unfold maxLen;omega);unfold maxLen at this;omega
 obtain ⟨G,hG⟩:∃G,G=grownCap w (0+n) 0 3:=⟨_,rfl⟩;rw [<- hG] at UI hGn al7;have hsz:((#[]:Array Value)++Builtin.zeroCells (.int .i64 0:Value).cells n++Builtin.zeroCells (.int .i64 0:Value).cells (G - (0+n))).size=G * 1:=by
  simp only [Array.size_append,size_zeroCells,Value.cells,List.size_toArray,o8,B1];omega
 obtain ⟨c0,hc0⟩:∃c0,c0=((#[]:Array Value)++Builtin.zeroCells (.int .i64 0:Value).cells n++Builtin.zeroCells (.int .i64 0:Value).cells (G - (0+n))):=⟨_,rfl⟩;rw [<- hc0] at UI hsz;clear hG hc0 hi hz0 YT Jt
 go_enter Tryz.func279,Tryz.ntmps279
 go_wp2_with (at_builtin;refine Lib.wpList_append_run _ rfl _ _ _ _ rfl _ _ rfl rfl _ _ (UI _) ?_)
 all_goals (go_ret;exact ⟨G,rfl,c0,rfl,by first|exact hsz|omega⟩)
end Go.Proofs.YtibjocmpkoepoaaGreat
namespace Go.Proofs.YtibjocmpkoepoaaGreat
open Go.A5 Go.Sort Go.Proofs
def Sa (w:World):Calls Tryz.prog 279 #[.slice K 0 0,.int .i64 0] w λe w' =>e= .returned (.slice K 0 0)/\w' =w:=by
 go_wp2
 all_goals (go_ret;simp_all)
theorem ZB (prom:FuncId->Bool):fS Tryz.prog prom 226 (wN 2):=MY (by kernel_rfl) Yz
theorem ZD (prom:FuncId->Bool):fS Tryz.prog prom 279 EV:=Sb (by kernel_rfl) Sa λn w h0 hn=>(YA n w h0 hn).mono λe w' ⟨cap,c,h1,h2,h3⟩=>⟨cap,c,_,h1,h2,V⟩
theorem ZC (prom:FuncId->Bool):fS Tryz.prog prom 263 EW :=
 SX (by kernel_rfl) (λblk off cap zs w h1 h2 h3=>Any.slices_Sort_int Tryz.lays189 blk off cap zs w h1 h2 h3) (λp cap w=>Any.slices_Sort_int_none Tryz.lays189 p cap w)
theorem MN (prom:FuncId->Bool):fS Tryz.prog prom 134 mP :=
 GU (by kernel_rfl) (λblk off cap zs w h1 h2 h3=>Any.slices_Compact_int Tryz.lays20 blk off cap zs w h1 h2 h3)
def TW (p:Option Addr)(cap:Nat)(w:World):Calls Tryz.prog 134 #[.slice p 0 cap] w λe w' =>e= .returned (.slice p 0 cap)/\w' =w:=by
 go_wp2
 all_goals (go_ret;simp_all)
theorem Zz (prom:FuncId->Bool):fS Tryz.prog prom 134 wM:=by
 refine ⟨by kernel_rfl,λargs H l v H1 hrun w G I N K8 hp h0=>?_⟩;unfold wM at hrun;split at hrun
 .cases hrun
  obtain ⟨x,rfl,hv⟩:=oR hp.args;simp [VR,DR] at hv;have key:∃p cap,x= .slice p 0 cap:=by
   grind
  obtain ⟨p,cap,rfl⟩:=key;refine (TW p cap w).mono ?_;rintro e w' ⟨rfl,rfl⟩;exact ⟨_,G,I,N,rfl,qW hp (by grind [VR,DR,gB])⟩
 .exact (MN prom).2 _ _ _ _ _ hrun w G I N K8 hp h0
end Go.Proofs.YtibjocmpkoepoaaGreat
namespace Go.Proofs.YtibjocmpkoepoaaGreat
open Go.A5
set_option maxHeartbeats 1000000 in
def aj0:sJ Tryz.prog A:=aU6 (λf p h=>by
 revert h;unfold A;simp only;split
 .rename_i h;rintro h2;cases h2;subst h;exact ZD _
 .split
  .rename_i h;rintro h2;cases h2;subst h;exact ZC _
  .split
   .rename_i h;rintro h2;cases h2;subst h;exact Zz _
   .split
    .rename_i h;rintro h2;cases h2;subst h;exact ZB _
    .split
     .rename_i h;rintro h2;cases h2;subst h;exact as1 _
     .split
      .rename_i h;rintro h2;cases h2;subst h;exact ZA _
      .rintro h2;cases h2)
end Go.Proofs.YtibjocmpkoepoaaGreat


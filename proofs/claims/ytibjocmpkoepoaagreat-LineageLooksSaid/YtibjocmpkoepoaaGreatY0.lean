import Derived.Sort.Grow
import Derived.Deep.Draws
import Derived.Lib.SlicesCompact
import Derived.Shelf.GgSortFunc.RowK
import Derived.Test.YtibjocmpkoepoaaGreatAbs
import Derived.Test.YtibjocmpkoepoaaGreatShelf
import Derived.Sort.MapsRangeIn
import Derived.Maps.AppendAt
import Derived.Maps.RangeRun
import Derived.OwnWalkIn
import Derived.TacticsInMore
import Derived.RegionIn
import Derived.LoopNIn
import Derived.LoopIn
import Derived.Laws.OwnMore
import Derived.Lib.Walk
import Derived.Lib.SliceRun
import Derived.Lib.AppendZerosOnto
import Derived.RangeFuncNested
import Derived.RangeFuncBound
import Derived.RangeFuncCalls
import Derived.RangeFuncBox
import Derived.RangeFuncLeaves
import Derived.RangeFuncWrites
import Derived.Shelf.Abstract
set_option linter.all false
open Bool renaming and_eq_true→c7,true→W,false→F
open List renaming append_assoc→D3,cons_append→A8,drop_of_length_le→n9,getElem?_append_left→B9,getElem?_append_right→y3,getElem?_eq_getElem→o6,getElem?_set_ne→D0,getElem?_set_self→N6,length_append→n5,length_cons→p8,length_map→A7,length_nil→y9,map_cons→K0,mem_cons→B6,nil_append→B3,pairwise_cons→M7,replicate→c9,take_length→H8,length→O
open Nat renaming add_assoc→O8,le_of_ble_eq_true→j9,le_refl→l6,le_trans→C9,lt_or_ge→A5,zero_le→O0
open Option renaming map_some→O9,some→J,none→K
namespace Go.A1
open Go.Sort
def ax0 {w w' :World}(h1:w'.os=w.os)(h2:w'.tape=w.tape)(h3:w'.output=w.output)(h4:w.heap.size<=w'.heap.size)(h5:∀b,b<w.heap.size->w'.heap[b]? =w.heap[b]?)(h6:w.drawn<=w'.drawn):∃q os,w' =grow (w.drewN q) os:=by
 refine ⟨w'.drawn - w.drawn,w'.heap.extract w.heap.size w'.heap.size,?_⟩;obtain ⟨hp,tp,dr,os,out⟩:=w';have e:w.heap++hp.extract w.heap.size hp.size=hp:=by
  grind
 simp_all [grow,World.drewN]
section
variable [E5]
def Qr (hD:E5.on){P:Program}{A:Prog}(h:qH P A){n:Nat}{f:FuncId}{args:List c8}{J5:Array Value}{w:World}{v:c8}(hc:call A n f args [] W8=J (v,[]))
  (hargs:L3 (G0 w) (λ_=>(0,0)) (λ_=>False) w args J5.toList):Calls P f J5 w λe w' =>∃(x:Value) (G' :Gh) (I' :U3) (N' :Nat->Prop),e= .returned x/\VR G' I' N' w' .ret v x/\∃q os,w' =grow (w.drewN q) os:=by
 have hpre:Cn W8 [] w (G0 w) (λ_=>(0,0)) (λ_=>False) args J5:=by
  refine ⟨hargs,?_,?_,?_,?_,l6 _,l6 _,?_,λ_ b n pl hb=>by grind [G0]⟩
  .intro id o ho;simp at ho
  .intro b hb;simp_all [G0,if_neg]
  .simp_all
  .intro id o ho;simp at ho
  grind [G0]
 refine Calls.mono ((oR h n).1 f args [] W8 _ _ hc w _ _ _ J5 hpre (λ_=>rfl)) ?_;rintro e w' ⟨x,G',I',N',rfl,hp⟩;refine ⟨x,G',I',N',rfl,hp.val,ax0 hp.ext.os hp.ext.tape hp.ext.output hp.ext.size (λb hb=>(hp.ext.still b (Or.inl ?_)).2) (hp.ext.drawn hD)⟩;simp_all [G0,if_pos]
end
end Go.A1
namespace Go.A1
open Go.Sort
structure Yk (w w' :World)(blk off:Nat)(us:List Value):Prop where
 os:w'.os=w.os
 tape:w'.tape=w.tape
 output:w'.output=w.output
 size:w.heap.size<=w'.heap.size
 other:∀b:Nat,b<w.heap.size->b≠blk->w'.heap[b]? =w.heap[b]?
 here:∀(c:Array Value) (e:TypeId) (f:Nat×Nat),w.heap[blk]? =J (.cells c e f)->∃c' :Array Value,w'.heap[blk]? =J (.cells c' e f)/\c'.size=c.size /\
  (∀k:Nat,(k<off\/off+O us<=k)->c'[k]? =c[k]?)/\∀(j:Nat) (u:Value),off+j<c.size->us[j]? =J u->c'[off+j]? =J u
def pT {α:Type} [Inhabited α] (enc:α->Value)(w:World)(n blk off:Nat)(ys:List α)(os:Array Obj):Yk w (grow (putRow enc (Sort.ahead w n) blk off ys.toArray) os) blk off (ys.map enc) where
 os:=rfl
 tape:=rfl
 output:=rfl
 size:=M
 other b hb hne:=by
  have:b<(w.heap.modify blk (onCells (putCells enc off ys.toArray))).size:=M
  show (w.heap.modify blk (onCells (putCells enc off ys.toArray))++os)[b]? =_
  grind
 here c e f hc:=by
  have hb:blk<w.heap.size:=by
   grind
  have:blk<(w.heap.modify blk (onCells (putCells enc off ys.toArray))).size:=M
  refine ⟨putCells enc off ys.toArray c,?_,by simp [putCells],λk hk=>?_,λj u hj hu=>?_⟩
  .show (w.heap.modify blk (onCells (putCells enc off ys.toArray))++os)[blk]? =_
   rw [Array.getElem?_append_left this,Array.getElem?_modify,if_pos rfl,hc];rfl
  .grind [putCells]
  .grind [putCells]
def QH (n:Int):c8:= .d (.int .i64 n)
theorem GF:∀ys:List Int,C5 (ys.map QH)=0
 |[]=>rfl
 |y::ys=>by simp [K0,C5,GF ys,QH];rfl
def Qg (old:List c8)(lo:Nat)(az:List c8)(h:C5 az=0):C5 (splice old lo az)<=C5 old:=by
 grind [yw,yu,splice,jf]
def HB {l:I7}{H:q6}{w w' :World}{G:Gh}{I:U3}{N:Nat->Prop}{args:List c8}{J5:Array Value}(hp:Cn l H w G I N args J5){id lo:Nat}{old az:List c8}{us:List Value}(vM:O az=O us)(hab:C5 az=0)(hau:∀(j:Nat) (a:c8) (u:Value),az[j]? =J a->us[j]? =J u->∀G I N w p,VR G I N w p a u)
  (ho:H[id]? =J (.cells old)) (hlo:lo+O us<=O old) (hm:l.may id=W) (hr:Yk w w' (I id).1 ((I id).2+lo) us) {v:c8} {x:Value} (hv:VR G I N w' .ret v x) :
  nq l H w G I N v (H.set id (.cells (splice old lo az))) x w' G I N:=by
 have hO:=hp.hr id _ ho;simp only [OR] at hO;obtain ⟨hN,c,e,f,h1,h2,h3,h4,h5⟩:=hO;obtain ⟨c',g1,g2,g3,g4⟩:=hr.here c e f h1;have hlt:∀b:Nat,G b≠ .free->b<w.heap.size:=λb hb=>by
  rcases A5 b w.heap.size with h|h
  .exact h
  .exact absurd (hp.wf b h) hb
 have QE:Ext G w G w' :=by
  refine ⟨hr.os,hr.tape,hr.output,λh=>h.elim,hr.size,λb o hi=>⟨hi,?_⟩,λb hb=>⟨rfl,?_⟩,λb c0 e0 f0 hc0=>?_⟩
  .have hne:b≠(I id).1:=by grind [kA]
   have hb:G b≠ .free:=λh=>by simp_all [kA]
   simp only [World.cell?,hr.other b (hlt b hb) hne]
  .have hne:b≠(I id).1:=by grind
   exact hr.other b (hlt b (λh=>M)) hne
  .by_cases hne:b=(I id).1
   .simp_all
   .rw [hr.other b ?_ hne]
    all_goals grind
 have hkeep:∀q,cR q G w G w' :=λq b n hb=>⟨hb,hr.other b (hlt b (λh=>M)) (by grind)⟩
 have ay0:∀(b i:Nat),i≠id->G b= .obj i->G b= .obj i/\w'.heap[b]? =w.heap[b]? :=λb i hi hb=>⟨hb,hr.other b (hlt b (λh=>M)) (by grind)⟩
 have aT8:id<O H:=y5 ho;have uY:∀(i:Nat) (o' :y6),(H.set id (.cells (splice old lo az)))[i]? =J o' ->∃o:y6,H[i]? =J o/\o'.L7<=o.L7:=λi o' hi=>by
  by_cases he:i=id
  .subst he
   rw [N6 aT8] at hi;cases hi;exact ⟨_,ho,Qg old lo az hab⟩
  grind
 refine ⟨hv,?_,?_,QE,λi hi=>⟨λb hb=>ay0 b i (by grind) hb,λoff=>hkeep _⟩,λ_ _ _=>rfl,λ_ h=>h,λ_ _ h=>h,λi hi=>by simpa using hp.cz i hi,λi o' _ hi=>Or.inr (uY i o' hi),λi o' hi=>?_⟩
 .intro i o hi
  by_cases he:i=id
  .subst he
   rw [N6 aT8] at hi;cases hi;simp only [OR];refine ⟨hN,c',e,f,g1,h2,M,?_,λj a hj=>?_⟩
   .grind [splice,n5,List.length_take,A7,List.length_drop]
   .rcases A5 j lo with hj1|hj1
    .have hj2:old[j]? =J a:=by
      rw [<- hj,splice,D3,B9 D,List.getElem?_take,if_pos hj1]
     obtain ⟨u,u1,u2⟩:=h5 j a hj2;exact ⟨u,by rw [g3 _ V];exact u1,VR.mono QE (λ_ _=>rfl) (λ_ h=>h) _ _ _ (Or.inr (hkeep _)) u2⟩
    rcases A5 j (lo+O us) with hj2|hj2
    .have hj3:az[j - lo]? =J a:=by
      rw [<- hj,splice,B9 D,y3 D]
      congr 1
      simp;omega
     have hj4:j - lo<O us:=V
     refine ⟨us[j - lo],?_,hau _ _ _ hj3 (o6 hj4) _ _ _ _ _⟩;rw [show (I i).2+j=(I i).2+lo+(j - lo) by omega];exact g4 _ _ V (o6 hj4)
    .have hj3:old[j]? =J a:=by
      rw [<- hj,splice,y3 D,List.getElem?_drop]
      congr 1
      simp;omega
     obtain ⟨u,u1,u2⟩:=h5 j a hj3;exact ⟨u,by rw [g3 _ V];exact u1,VR.mono QE (λ_ _=>rfl) (λ_ h=>h) _ _ _ (Or.inr (hkeep _)) u2⟩
  .rw [D0 (λe=>he e.symm)] at hi
   exact OR.mono QE (λ_ _=>rfl) (λ_ h=>h) i o (λh=>ay0 _ i he h) (λoff=>hkeep _) (hp.hr i o hi)
 .intro b hb
  exact hp.wf b (C9 hr.size hb)
 .obtain ⟨o,h6,h7⟩:=uY i o' hi
  obtain ⟨h8,h9⟩:=hp.X7 i o h6;exact ⟨λh=>C9 h7 (h8 h),λh=>C9 h7 (h9 h)⟩
def Nw {l:I7}{H:q6}{w w' :World}{G:Gh}{I:U3}{N:Nat->Prop}{args:List c8}{J5:Array Value}(hp:Cn l H w G I N args J5){id lo:Nat}{old:List c8}{ys:List Int}
  (ho:H[id]? =J (.cells old)) (hlo:lo+O ys<=O old) (hm:l.may id=W) (hr:Yk w w' (I id).1 ((I id).2+lo) (ys.map (.int .i64))) {v:c8} {x:Value} (hv:VR G I N w' .ret v x) :
  nq l H w G I N v (H.set id (.cells (splice old lo (ys.map QH)))) x w' G I N :=
 HB hp (us:=ys.map (.int .i64)) U (GF ys) (λj a u ha hu G I N w p=>by
  rw [List.getElem?_map,Option.map_eq_some_iff] at ha hu;obtain ⟨y,hy,rfl⟩:=ha;obtain ⟨z,hz,rfl⟩:=hu;rw [hy] at hz;cases hz;simp [QH,VR,DR]) ho (by simpa using hlo) hm hr hv
theorem yR (x:Int):∀l:List Int,(BA x l).Perm (x::l)
 |[]=>List.Perm.refl _
 |y::l=>by
  simp [BA];split
  .rfl
  .exact ((yR x l).cons y).trans (List.Perm.swap x y l)
theorem vD:∀l:List Int,(dW l).Perm l
 |[]=>List.Perm.refl _
 |x::l=>(yR x _).trans ((vD l).cons x)
theorem Aj (x:Int):∀l:List Int,l.Pairwise (·<=·)->(BA x l).Pairwise (·<=·)
 |[],_=>by simp [BA]
 |y::l,h=>by
  simp [BA];rw [M7] at h;split
  .grind [M7,Int.le_trans]
  .refine M7.2 ⟨λz hz=>?_,Aj x l h.2⟩
   grind [yR]
theorem xw:∀l:List Int,(dW l).Pairwise (·<=·)
 |[]=>List.Pairwise.nil
 |x::l=>Aj x _ (xw l)
def BC (l:List Int):(l.mergeSort λx y=>decide (x<=y))=dW l:=by
 grind [List.Perm.eq_of_pairwise,Int.le_antisymm,xw,List.mergeSort_perm,trans,vD,List.pairwise_mergeSort,decide]
theorem Kw (l:List Int):O (dW l)=O l:=(vD l).length_eq
theorem GL (a b:Int):∀l:List Int,aj (l++[a,b])=aj (l++[a])++(if b=a then [] else [b])
 |[]=>by
  grind [aj]
 |[x]=>by
  grind [aj]
 |x::y::l=>by
  have ih:=GL a b (y::l)
  grind [aj]
theorem nD (zs:List Int):∀m,m<=O zs->Lib.compactUpTo zs.toArray m=aj (zs.take m)
 |0,_=>by rfl
 |1,h=>by
  obtain ⟨z,r,rfl⟩:∃z r,zs=z::r:=by
   cases zs with
   |nil=>simp at h
   |cons z r=>simp_all
  rfl
 |m+2,h=>by
  have ih:=nD zs (m+1) V;have e1:zs.take (m+1)=zs.take m++[zs[m]]:=M
  have e2:zs.take (m+2)=zs.take m++[zs[m],zs[m+1]]:=by
   grind [List.take_append_getElem,D3]
  rw [Lib.compactUpTo_succ,ih,e1,e2,GL];have g1:zs.toArray[m+1]! =zs[m+1]:=by
   grind
  have g2:zs.toArray[m+1 - 1]! =zs[m]:=by
   grind
  by_cases hk:zs[m+1]=zs[m]
  .rw [Lib.keeps_neg V V,if_pos hk]
   rfl
  .rw [Lib.keeps_pos V,if_neg hk,g1]
   rfl
def Jo (zs:List Int):Lib.compact zs=aj zs:=by
 rw [Lib.compact,nD zs _ (l6 _),H8]
theorem Aa:∀l:List Int,O (aj l)<=O l
 |[]=>by simp [aj]
 |[x]=>by simp [aj]
 |x::y::l=>by
  have:=Aa (y::l)
  grind [aj]
theorem pK:∀{vs:List c8} {xs:List Int},me vs=J xs->vs=xs.map QH
 |[],xs,h=>by simp_all [me]
 |v::vs,xs,h=>by
  unfold me at h;split at h
  .simp_all
  next n r heq=>
   cases heq;split at h
   next ys hy=>
    cases h;rw [pK hy];rfl
   .cases h
  .cases h
theorem rd_some {H:q6}{id lo len:Nat}{vs:List c8}(h:rd H id lo len=J vs):∃old,H[id]? =J (.cells old)/\lo+len<=O old/\vs=(old.drop lo).take len:=by
 grind [rd]
def holds_of {G:Gh}{I:U3}{N:Nat->Prop}{w:World}{H:q6}(hr:HR G I N w H){id lo len:Nat}{old:List c8}{xs:List Int}(ho:H[id]? =J (.cells old))(hl:lo+len<=O old)(hx:(old.drop lo).take len=xs.map QH) :
  Holds (Value.int .i64) w (I id).1 ((I id).2+lo) xs.toArray/\(I id).1<w.heap.size/\O xs=len:=by
 have hO:=hr id _ ho;obtain ⟨hN,c,e,f,h1,h2,h3,h4,h5⟩:=hO;have hlen:O xs=len:=by
  have:=congrArg List.length hx
  grind
 refine ⟨λj hj=>?_,?_,hlen⟩
 .have hj' :j<O xs:=V
  have e1:old[lo+j]? =J (QH xs[j]):=by
   have:=congrArg (·[j]?) hx
   grind
  obtain ⟨v,g1,g2⟩:=h5 _ _ e1;subst g2;constructor
  .simp_all [ad,World.cell?,O8]
  .have hlt:(I id).2+lo+j<c.size:=by
    omega
   have:=h3 _ hlt;simp_all [World.frozen?]
 grind
def zG {H:q6}{id lo:Nat}{old vs:List c8}{H1:q6}(ho:H[id]? =J (.cells old))(h:wr H id lo vs=J H1):H1=H.set id (.cells (splice old lo vs)):=by
 simp_all [wr]
def om {l:I7}{H:q6}{w:World}{G:Gh}{I:U3}{N:Nat->Prop}{args:List c8}{J5:Array Value}(hp:Cn l H w G I N args J5){v:c8}{x:Value}(hv:VR G I N w .ret v x):nq l H w G I N v H x w G I N :=
 ⟨hv,hp.hr,hp.wf,Ext.refl _ _,nr.refl _ _ _,λ_ _ _=>rfl,λ_ h=>h,λ_ _ h=>h,hp.cz,λ_ o' _ ho=>Or.inr ⟨o',ho,l6 _⟩,hp.X7⟩
def kJ {G:Gh}{I:U3}{N:Nat->Prop}{w:World}{a:c8}{J5:Array Value}(h:L3 G I N w [a] J5.toList):∃x,J5= #[x]/\VR G I N w .none a x:=by
 grind [L3,Array.ext']
def Xy {P:Program}{prom:FuncId->Bool}{f:FuncId}(hcan:V2 P f=W)
  (hS:∀(blk off cap:Nat) (zs:List Int) (w:World),Holds (Value.int .i64) w blk off zs.toArray->blk<w.heap.size->O zs<4611686018427387904->Calls P f #[.slice (J ⟨blk,off,K⟩) (O zs) cap] w λe w' =>
   e= .returned (.tuple #[])/\∃n os,w' =grow (putRow (Value.int .i64) (Sort.ahead w n) blk off (zs.mergeSort λx y=>decide (x<=y)).toArray) os)
  (hE:∀(p:Option Addr) (cap:Nat) (w:World),Calls P f #[.slice p 0 cap] w λe w' =>e= .returned (.tuple #[])/\w' =w):cL P prom f Hv:=by
 refine ⟨hcan,λargs H l v H1 hrun w G I N J5 hp _=>?_⟩;unfold Hv at hrun;split at hrun
 .split at hrun
  next hm=>
   simp only [c7] at hm;have hb:=j9 hm.2;split at hrun
   next vs hvs=>
    split at hrun
    next xs hxs=>
     split at hrun
     next H2 hw=>
      cases hrun;obtain ⟨old,ho,hl,rfl⟩:=rd_some hvs;have hx:=pK hxs;obtain ⟨g1,g2,g3⟩:=holds_of hp.hr ho hl hx;have hH:=zG ho hw;subst hH;obtain ⟨x,rfl,hv⟩:=kJ hp.args;obtain ⟨_,cap,rfl,_⟩:=hv;subst g3;refine (hS _ _ cap xs w g1 g2 V).mono ?_;rintro e w' ⟨rfl,n,os,rfl⟩;rw [BC];exact ⟨_,G,I,N,rfl,Nw hp (ys:=dW xs) ho (by grind [Kw]) hm.1 (pT _ _ _ _ _ _ _) (by simp_all [VR,L3])⟩
     .cases hrun
    .cases hrun
   .cases hrun
  .cases hrun
 .cases hrun
  obtain ⟨x,rfl,hv⟩:=kJ hp.args;simp [VR,DR] at hv;have key:∃p cap,x= .slice p 0 cap:=by
   grind
  obtain ⟨p,cap,rfl⟩:=key;refine (hE p cap w).mono ?_;rintro e w' ⟨rfl,rfl⟩;exact ⟨_,G,I,N,rfl,om hp (by simp_all [VR,L3])⟩
 .cases hrun
def Jp {P:Program}{prom:FuncId->Bool}{f:FuncId}(hcan:V2 P f=W)
  (hS:∀(blk off cap:Nat) (zs:List Int) (w:World),Holds (Value.int .i64) w blk off zs.toArray->O zs<=9223372036854775807->O zs<=cap->Calls P f #[.slice (J ⟨blk,off,K⟩) (O zs) cap] w λe w' =>
   e= .returned (.slice (J ⟨blk,off,K⟩) (O (Lib.compact zs)) cap)/\∃q,w' =putRow (Value.int .i64) (Sort.ahead w q) blk off (Lib.compact zs++c9 (O zs - O (Lib.compact zs)) 0).toArray):cL P prom f oc:=by
 refine ⟨hcan,λargs H l v H1 hrun w G I N J5 hp _=>?_⟩;unfold oc at hrun;split at hrun
 next id lo len=>
  split at hrun
  next hm=>
   simp only [c7] at hm;have hb:=j9 hm.2;split at hrun
   next vs hvs=>
    split at hrun
    next xs hxs=>
     split at hrun
     next H2 hw=>
      cases hrun;obtain ⟨old,ho,hl,rfl⟩:=rd_some hvs;have hx:=pK hxs;obtain ⟨g1,g2,g3⟩:=holds_of hp.hr ho hl hx;have hH:=zG ho hw;subst hH;obtain ⟨x,rfl,hv⟩:=kJ hp.args;obtain ⟨hN,cap,rfl,hcap,c,e0,f0,k1,k2⟩:=hv;subst g3;refine (hS _ _ cap xs w g1 V hcap).mono ?_;rintro e w' ⟨rfl,q,rfl⟩;rw [Jo];have hd:=Aa xs;have hR:=pT (Value.int .i64) w q (I id).1 ((I id).2+lo) (aj xs++c9 (O xs - O (aj xs)) 0) #[];obtain ⟨c',u1,u2,_⟩:=hR.here c e0 f0 k1;refine ⟨_,G,I,N,rfl,Nw hp (ys:=aj xs++c9 (O xs - O (aj xs)) 0) ho D hm.1 hR ?_⟩;simp_all [VR]<;>omega
     .cases hrun
    .cases hrun
   .cases hrun
  .cases hrun
 .cases hrun
def WB {P:Program}{prom:FuncId->Bool}{f:FuncId}(hcan:V2 P f=W)
  (hR:∀w:World,Calls P f #[.slice K 0 0,.int .i64 0] w λe w' =>e= .returned (.slice K 0 0)/\w' =w)
  (hG:∀(n:Nat) (w:World),0<n->n<=1000000->Calls P f #[.slice K 0 0,.int .i64 n] w λe w' =>∃(cap:Nat) (c:Array Value) (t:TypeId),e= .returned (.slice (J ⟨w.heap.size,0,K⟩) 0 cap)/\w' =w.drew.alloc (.cells c t)/\c.size=cap):cL P prom f Hu:=by
 refine ⟨hcan,λargs H l v H1 hrun w G I N J5 hp _=>?_⟩;unfold Hu at hrun;split at hrun
 next n=>
  split at hrun
  .cases hrun
   obtain ⟨m,rfl⟩:∃m:Nat,n=m:=⟨n.toNat,V⟩;have ha:=hp.args;simp [L3,VR,DR] at ha;have hv:J5= #[.slice K 0 0,.int .i64 m]:=by
    grind
   subst hv
   rcases Nat.eq_zero_or_pos m with rfl|h0
   .refine (hR w).mono ?_
    rintro e w' ⟨rfl,rfl⟩;exact ⟨_,G,I,N,rfl,om hp (by simp [VR])⟩
   .refine (hG m w h0 V).mono ?_
    rintro e w' ⟨cap,c,t,rfl,rfl,hc⟩;have hN:lZ w (w.drew.alloc (.cells c t)) (.cells c t):=(lZ.alloc w (.cells c t)).drew (w.drawn+1) (Nat.le_succ _);refine ⟨_,kH G w.heap.size (.grow 0 .ret),I,N,rfl,?_,hN.hr hp.wf _ (λ_ _=>rfl) (λ_ h=>h) hp.hr,hN.wf hp.wf _,hN.ext hp.wf _,hN.gj hp.wf _ _,λ_ _ _=>rfl,λ_ h=>h,λ_ _ h=>h,hp.cz,λ_ o' _ ho=>Or.inr ⟨o',ho,l6 _⟩,hp.X7⟩;exact ⟨rfl,Or.inr ⟨U,w.heap.size,0,cap,c,t,_,rfl,O0 _,hN.new,V,qG _,U,by simp [gq]⟩⟩
  .cases hrun
 .cases hrun
def pe {α:Type} [Inhabited α] (enc:α->List Value)(k:Nat)(hk:∀x,O (enc x)=k)(l:List α):flatK enc k l.toArray=(l.flatMap enc).toArray:=by
 have hl:∀l:List α,O (l.flatMap enc)=O l * k:=λl=>by
  induction l with
  |nil=>simp
  |cons a l ih=>grind
 have key:∀(l:List α) (t:Nat),t<O l * k->(l.flatMap enc)[t]! =(enc l[t / k]!)[t % k]! :=λl=>by
  induction l with
  |nil=>simp_all
  |cons a l ih =>
   intro t h;rw [p8,Nat.add_mul,Nat.one_mul] at h;have k0:0<k:=by
    grind
   rcases A5 t k with h1|h1
   .simp_all [Nat.div_eq_of_lt,Nat.mod_eq_of_lt,List.getElem!_eq_getElem?_getD,B9]
   .obtain ⟨s,rfl⟩:∃s,t=s+k:=⟨t - k,V⟩
    simp_all [Nat.add_div_right,Nat.add_mod_right,List.getElem!_eq_getElem?_getD,y3,Nat.add_sub_cancel]
 refine ext_get! (by simp [hl]) λt ht=>?_
 have ht' :t<O l * k:=M
 grind [get_flatK]
def zh:Data->Option Value
 | .int k n=>J (.int k n)
 | .bool b=>J (.bool b)
 |_=>K
theorem tA {d:Data}{u v:Value}{G:Gh}{w:World}(h:zh d=J u):DR G w d v↔v=u:=by
 cases d<;>simp [zh,reduceCtorEq,Option.some.injEq] at h<;>subst h<;>simp [DR]
def WI {G:Gh}{I:U3}{N:Nat->Prop}{w:World}{H:q6}(hr:HR G I N w H){id lo len:Nat}{old:List c8}{ds:List Data}{us:List Value}(ho:H[id]? =J (.cells old))(hl:lo+len<=O old)(hx:(old.drop lo).take len=ds.map .d)
  (hu:O ds=O us) (hd:∀(j:Nat) (d:Data) (u:Value),ds[j]? =J d->us[j]? =J u->zh d=J u):Holds _root_.id w (I id).1 ((I id).2+lo) us.toArray/\(I id).1<w.heap.size/\O ds=len:=by
 have hO:=hr id _ ho;obtain ⟨hN,c,e,f,h1,h2,h3,h4,h5⟩:=hO;have hlen:O ds=len:=by
  have:=congrArg List.length hx
  grind
 refine ⟨λj hj=>?_,?_,hlen⟩
 .have hj0:j<O us:=V
  have hj' :j<O ds:=V
  have e1:old[lo+j]? =J (.d ds[j]):=by
   have:=congrArg (·[j]?) hx;simp_all
  obtain ⟨v,g1,g2⟩:=h5 _ _ e1;have g2:=(tA (hd j _ us[j] (o6 hj') (o6 hj0))).1 g2;constructor
  .simp_all [ad,World.cell?,O8]
  .have hlt:(I id).2+lo+j<c.size:=by
    omega
   have:=h3 _ hlt;simp_all [World.frozen?]
 grind
def A3.vals (f:A3):List Value:=[.int .i64 f.src.1,.int .i64 f.src.2,.int .i64 f.dst.1,.int .i64 f.dst.2,.bool f.dat]
theorem pn:∀(n:Nat) (cs:List Data) (fs:List A3),O cs<=n->qS cs=J fs->cs=fs.flatMap A3.enc
 |_,[],fs,_,h=>by cases h;rfl
 |0,c::cs,fs,hn,h=>by simp at hn
 |n+1,c::cs,fs,hn,h=>by
  unfold qS at h;split at h
  .simp_all
  next a b c' d t r heq=>
   cases heq;split at h
   next l hl=>
    cases h;rw [List.flatMap_cons,<- pn n r l (by grind) hl];rfl
   .cases h
  .cases h
theorem tg (fs:List A3):O (fs.flatMap A3.enc)=O fs * 5:=by
 induction fs with
 |nil=>rfl
 |cons a l ih=>grind [n5,p8,A3.enc]
theorem tf (fs:List A3):O (fs.flatMap A3.vals)=O fs * 5:=by
 induction fs with
 |nil=>rfl
 |cons a l ih=>grind [n5,p8,A3.vals]
theorem nM:∀(fs:List A3) (j:Nat) (d:Data) (u:Value),(fs.flatMap A3.enc)[j]? =J d->(fs.flatMap A3.vals)[j]? =J u->zh d=J u
 |[],j,d,u,h,_=>by simp at h
 |f::fs,j,d,u,h,h2=>by
  rw [List.flatMap_cons] at h h2
  rcases A5 j 5 with hj|hj
  .rw [B9 (by simp_all [A3.enc])] at h
   rw [B9 (by simp_all [A3.vals])] at h2
   match j,hj with
   |0,_=>cases h;cases h2;rfl
   |1,_=>cases h;cases h2;rfl
   |2,_=>cases h;cases h2;rfl
   |3,_=>cases h;cases h2;rfl
   |4,_=>cases h;cases h2;rfl
  .rw [y3 (by simp_all [A3.enc])] at h
   rw [y3 (by simp_all [A3.vals])] at h2;exact nM fs _ d u h h2
theorem Su:∀{vs:List c8} {cs:List Data},cs.all Data.flat=W->P7 vs=J cs->vs=cs.map .d
 |[],cs,_,h=>by cases h;rfl
 |v::vs,cs,hf,h=>by
  unfold P7 at h;split at h
  .split at h
   next xs hxs=>
    cases h;simp only [List.all_cons,c7] at hf;rw [K0,<- Su hf.2 hxs];simp_all [c8.data?,reduceCtorEq,Data.flat]<;>grind
   .cases h
  .cases h
theorem LU:∀fs:List A3,(fs.flatMap A3.enc).all Data.flat=W
 |[]=>rfl
 |f::fs=>by rw [List.flatMap_cons,List.all_append,LU fs];rfl
theorem uK:∀l:List Data,C5 (l.map .d)=0
 |[]=>rfl
 |a::l=>by simp [C5,c8.L7,uK l]
def Rt {P:Program}{prom:FuncId->Bool}{f g:FuncId}(hcan:V2 P f=W)
  (hS:∀(blk off cap:Nat) (fs:List A3) (w:World),HoldsK A3.vals 5 w blk off fs.toArray->blk<w.heap.size->O fs<4611686018427387904->Calls P f #[.slice (J ⟨blk,off,K⟩) (O fs) cap,.func (.func g) #[] #[]] w λe w' =>
   e= .returned (.tuple #[])/\∃n os,w' =grow (putRowK A3.vals 5 (Sort.ahead w n) blk off (bH fs).toArray) os)
  (hE:∀(p:Option Addr) (cap:Nat) (fv:Value) (w:World),Calls P f #[.slice p 0 cap,fv] w λe w' =>e= .returned (.tuple #[])/\w' =w):cL P prom f (zg g):=by
 refine ⟨hcan,λargs H l v H1 hrun w G I N J5 hp _=>?_⟩;have two:∀{a:c8} {g' :FuncId},L3 G I N w [a,.func g' [] []] J5.toList->∃x,J5= #[x,.func (.func g') #[] #[]]/\VR G I N w .none a x:=λ{a g'} h=>by
  grind [L3,VR,Array.ext']
 unfold zg at hrun;split at hrun
 next H l id lo len g'=>
  split at hrun
  next hm=>
   obtain ⟨rfl,hm,hn⟩:=hm;split at hrun
   next vs hvs=>
    split at hrun
    next cs hcs=>
     split at hrun
     next fs BO=>
      split at hrun
      next H2 hw=>
       cases hrun;obtain ⟨old,ho,hl,rfl⟩:=rd_some hvs;have hc:=pn _ _ _ (l6 _) BO;subst hc;have hx:=Su (LU fs) hcs;obtain ⟨g1,g2,g3⟩:=WI hp.hr (us:=fs.flatMap A3.vals) ho hl hx (by rw [tg,tf]) (nM fs);have hH:=zG ho hw;subst hH;obtain ⟨x,rfl,hv⟩:=two hp.args;simp only [VR] at hv;obtain ⟨_,cap,rfl,_⟩:=hv;have hlen:O fs=len:=by
        grind [tg]
       subst hlen;refine (hS _ _ cap fs w (by simp_all [HoldsK,pe,A3.vals]) g2 V).mono ?_;rintro e w' ⟨rfl,n,os,rfl⟩;unfold putRowK;rw [pe A3.vals 5 (λ_=>rfl)];have hR:=pT _root_.id w n (I id).1 ((I id).2+lo) ((bH fs).flatMap A3.vals) os;rw [List.map_id] at hR;refine ⟨_,G,I,N,rfl,HB hp (us:=(bH fs).flatMap A3.vals) (by rw [A7,tg,tf]) (uK _) (λj a u ha hu G I N w p=>?_) ho (by grind [tf,tF]) hm hR (by simp_all [VR,L3])⟩
       grind [Option.map_eq_some_iff,VR,tA,nM]
      .cases hrun
     .cases hrun
    .cases hrun
   .cases hrun
  .cases hrun
 next H l cs g'=>
  split at hrun
  next hg=>
   subst hg;cases hrun;obtain ⟨x,rfl,hv⟩:=two hp.args;simp only [VR,DR] at hv;have key:∃p cap,x= .slice p 0 cap:=by
    grind
   obtain ⟨p,cap,rfl⟩:=key;refine (hE p cap _ w).mono ?_;rintro e w' ⟨rfl,rfl⟩;exact ⟨_,G,I,N,rfl,om hp (by simp_all [VR,L3])⟩
  .cases hrun
 .cases hrun
end Go.A1
namespace Go.Proofs.YtibjocmpkoepoaaGreat
open Go.A1 Go.A1.S
attribute [local irreducible] Rx Ry Rn Ex Pf
def A0:A1.Prog:=⟨bl2,QI,aa1,λ_=>K⟩
def bj3 [E5]:qH Tryz.prog A0:=⟨Yc,λf p h=>(by cases h),λf af _ h=>bj5 f af h⟩
def bz4 (a:Int):Pf A0 136 [.d (Z a)] (.d (.bool F)):=by
 refine Pf.gr 1 ?_;exact ⟨_,rfl,by simp [j3,o8]⟩
def q83 (a b:Int):Pf A0 83 [.d (Z a),.d (Z b)] (.d (Z (mN a b))):=by
 refine Pf.go 3 ?_;have p1:=bz4 a;have p2:=bz4 b;refine gc (And.intro p1 p2) ?_;refine tb (F) (λh1=>?_) (λh1=>?_)
 .cases h1
 refine gr ?_;refine tb (F) (λh2=>?_) (λh2=>?_)
 .cases h2
 refine gr ?_;refine tb (F6 a b) (λh3=>?_) (λh3=>?_)
 .have:=C4 h3
  refine gr ?_;have e:mN a b= -1:=by unfold mN;rw [if_pos this]
  rw [e]
  first|exact ⟨_,rfl,rfl⟩|(simp [j3];done)
 have:=B5 h3;refine gr ?_;refine tb (F6 b a) (λh4=>?_) (λh4=>?_)
 .have:=C4 h4
  refine gr ?_;have e:mN a b=1:=by unfold mN;rw [if_neg V,if_pos this]
  rw [e]
  first|exact ⟨_,rfl,rfl⟩|(simp [j3];done)
 have:=B5 h4;refine gr ?_;have e:mN a b=0:=by unfold mN;rw [if_neg V,if_neg V]
 rw [e]
 first|exact ⟨_,rfl,rfl⟩|(simp [j3];done)
def orI:List Int->Int
 |[]=>0
 |a::l=>if u7 a 0 then orI l else a
def q82 (l:List Int)(hl:O l<=1000000):Pf A0 82 [.d (ints l)] (.d (Z (orI l))):=by
 refine Pf.gr 6 ?_;refine Ex.T9 (λk T H=>∃(i:Nat),T=[.any,.any,.d (Z 0),.any,.d (ints l),.d (Z (O l)),.d (Z i)]/\H=[]/\i+k=O l/\orI l=orI (l.drop i)) ?_ (k:=O l) ⟨0,rfl,rfl,U,rfl⟩;rintro k _ _ ⟨i,rfl,rfl,hk,ho⟩;refine Ex.seq ?_;refine tl i (O l) (λh3=>?_) (λh3=>?_)
 .rw [E0 V,orI] at ho
  refine gr ?_;refine tb (!u7 (Y l i) 0) (λh4=>?_) (λh4=>?_)
  .refine gr ?_
   rw [if_neg (by simpa using h4)] at ho;rw [ho]
   first|exact ⟨_,rfl,rfl⟩|(simp [j3];done)
  .refine gr ?_
   rw [if_pos (by simpa using h4)] at ho;exact kk ⟨i+1,rfl,rfl,V,ho⟩
 .rw [n9 V] at ho
  rw [ho];refine gr ?_
  first|exact ⟨_,rfl,rfl⟩|(simp [j3];done)
def Xd (p:C7):c8:= .agg [.d (Z p.1),.d (Z p.2)]
def af2 (a b:C7):Pf A0 118 [Xd a,Xd b] (.d (Z (wm a b))):=by
 refine Pf.go 3 ?_;unfold Xd;have p1:=q83 a.1 b.1;have p2:=q83 a.2 b.2;have p3:=q82 [mN a.1 b.1,mN a.2 b.2] U;have e:wm a b=orI [mN a.1 b.1,mN a.2 b.2]:=by
  unfold wm;simp only [orI,o8]
  by_cases h:mN a.1 b.1=0
  .by_cases h2:mN a.2 b.2=0<;>simp [h,h2]
  .simp [h]
 rw [e]
 repeat' (first|refine Bv p1 ?_|refine Bv p2 ?_|refine Bv p3 ?_|refine Yr [Z (mN a.1 b.1),Z (mN a.2 b.2)] ?_|refine gx ?_|fail)
 first|exact ⟨_,rfl,rfl⟩|(simp [j3];done)
def ci0 (a b:Bool):Pf A0 165 [.d (.bool a),.d (.bool b)] (.d (Z (cfB a b))):=by
 refine Pf.go 1 ?_;cases a<;>cases b
 all_goals
  repeat' (first|refine gy ?_|refine ft (λht=>?_) λht=>?_|refine ⟨_,rfl,?_⟩|fail)
  all_goals first|rfl|(exfalso;revert ht;decide)|(rename_i h;exfalso;revert h;decide)
def Zd (f:A3):c8:= .agg [.d (Z f.src.1),.d (Z f.src.2),.d (Z f.dst.1),.d (Z f.dst.2),.d (.bool f.dat)]
def ch9 (a b:A3):Pf A0 164 [Zd a,Zd b] (.d (Z (LA a b))):=by
 refine Pf.go 3 ?_;unfold Zd;have p1:=af2 a.src b.src;have p2:=af2 a.dst b.dst;have p3:=ci0 a.dat b.dat;have p4:=q82 [wm a.src b.src,wm a.dst b.dst,cfB a.dat b.dat] U;have e:LA a b=orI [wm a.src b.src,wm a.dst b.dst,cfB a.dat b.dat]:=by
  unfold LA;simp only [orI,o8]
  by_cases h:wm a.src b.src=0
  .by_cases h2:wm a.dst b.dst=0
   .by_cases h3:cfB a.dat b.dat=0<;>simp [h,h2,h3]
   .simp [h,h2]
  .simp [h]
 rw [e];unfold Xd at p1 p2
 repeat' (first|refine Bv p1 ?_|refine Bv p2 ?_|refine Bv p3 ?_|refine Bv p4 ?_|refine lqo ?_|refine Yr [Z (wm a.src b.src),Z (wm a.dst b.dst),Z (cfB a.dat b.dat)] ?_|refine gx ?_|fail)
 first|exact ⟨_,rfl,rfl⟩|(simp [j3];done)
end Go.Proofs.YtibjocmpkoepoaaGreat
namespace Go.A1
def LB (a b:C7):wm a b=0↔a.1=b.1/\a.2=b.2:=by
 unfold wm mN;split<;>(repeat' split)<;>omega
def bn (b:Bool):Int:=if b then 0 else 1
def aS1 (a b:Bool):cfB a b<0↔bn a<bn b:=by cases a<;>cases b<;>decide
def yz (a b:A3):LA a b<0↔(a.src.1<b.src.1\/(a.src.1=b.src.1/\(a.src.2<b.src.2\/(a.src.2=b.src.2/\(a.dst.1<b.dst.1\/(a.dst.1=b.dst.1/\(a.dst.2<b.dst.2\/(a.dst.2=b.dst.2/\bn a.dat<bn b.dat)))))))):=by
 have h1:=iu a.src b.src;have h2:=LB a.src b.src;have h3:=iu a.dst b.dst;have h4:=LB a.dst b.dst;have h5:=aS1 a.dat b.dat;unfold LA;split
 .rw [h1];omega
 .split
  .rw [h3];omega
  .rw [h5];omega
def aR7 {a b:Bool}(h:bn a=bn b):a=b:=by cases a<;>cases b<;>first|rfl|(exact absurd h (by decide))
end Go.A1
namespace Go.Proofs.YtibjocmpkoepoaaGreat
open Go.A1 Go.Sort Go.Proofs
def cj6:SWO (ltOf wm) where
 irrefl x:=by simp only [ltOf,decide_eq_false_iff_not,iu];omega
 trans x y z h1 h2:=by simp only [ltOf,decide_eq_true_eq,iu] at *;omega
 ntrans x y z h1 h2:=by simp only [ltOf,decide_eq_false_iff_not,iu] at *;omega
def bC6 (x y:C7)(h1:ltOf wm x y=F)(h2:ltOf wm y x=F):x=y:=by
 simp only [ltOf,decide_eq_false_iff_not,iu] at *
 exact Prod.ext V V
def cj5:SWO (ltOf LA) where
 irrefl x:=by simp only [ltOf,decide_eq_false_iff_not,yz];omega
 trans x y z h1 h2:=by simp only [ltOf,decide_eq_true_eq,yz] at *;omega
 ntrans x y z h1 h2:=by simp only [ltOf,decide_eq_false_iff_not,yz] at *;omega
def bC5 (x y:A3)(h1:ltOf LA x y=F)(h2:ltOf LA y x=F):x=y:=by
 simp only [ltOf,decide_eq_false_iff_not,yz] at *
 obtain ⟨⟨a,b⟩,⟨c,d⟩,e⟩:=x;obtain ⟨⟨a',b'⟩,⟨c',d'⟩,e'⟩:=y;simp only at h1 h2;obtain rfl:a=a' :=V
 obtain rfl:b=b' :=V
 obtain rfl:c=c' :=V
 obtain rfl:d=d' :=V
 obtain rfl:e=e' :=aR7 V;rfl
def C7.vals (p:C7):List Value:=[.int .i64 p.1,.int .i64 p.2]
def al7 {G:Gh}{I:U3}{N:Nat->Prop}{w:World}(f:A3):VR G I N w .none (Zd f) (.agg (A3.vals f).toArray):=by
 simp only [Zd,VR];exact ⟨_,rfl,by simp only [A3.vals,L3,VR,DR];exact ⟨_,_,rfl,rfl,_,_,rfl,rfl,_,_,rfl,rfl,_,_,rfl,rfl,_,_,rfl,rfl,rfl⟩⟩
def al8 {G:Gh}{I:U3}{N:Nat->Prop}{w:World}(f:C7):VR G I N w .none (Xd f) (.agg (C7.vals f).toArray):=by
 simp only [Xd,VR];exact ⟨_,rfl,by simp only [C7.vals,L3,VR,DR];exact ⟨_,_,rfl,rfl,_,_,rfl,rfl,rfl⟩⟩
def YD {f:FuncId}{a b:c8}{x y:Value}{n:Int}(h:Pf A0 f [a,b] (.d (Z n)))(hv:∀w,L3 (G0 w) (λ_=>(0,0)) (λ_=>False) w [a,b] [x,y])(w:World) :
  Calls Tryz.prog f #[x,y] w λe w' =>e= .returned (.int .i64 n)/\∃q os,w' =grow (w.drewN q) os:=by
 obtain ⟨N,hN⟩:=h;refine (@Qr ⟨True⟩ trivial Tryz.prog A0 (@bj3 ⟨True⟩) N f [a,b] #[x,y] w _ (hN N (l6 _)) (hv w)).mono ?_;rintro e w' ⟨v,G',I',N',rfl,hv,hw⟩;simp only [VR,DR] at hv;subst hv;exact ⟨rfl,hw⟩
def bR7 (blk off size:Nat)(w:World):CmpLays Tryz.prog 164 #[] A3.vals 5 LA blk off size w:=λm os dk _ x y =>
 YD (ch9 x y) (λw=>by simp only [L3];exact ⟨_,_,rfl,al7 x,_,_,rfl,al7 y,rfl⟩) _
def bR8 (blk off size:Nat)(w:World):CmpLays Tryz.prog 118 #[] C7.vals 2 wm blk off size w:=λm os dk _ x y =>
 YD (af2 x y) (λw=>by simp only [L3];exact ⟨_,_,rfl,al8 x,_,_,rfl,al8 y,rfl⟩) _
theorem aF0 (blk off cap:Nat)(fs:List A3)(w:World)(h1:HoldsK A3.vals 5 w blk off fs.toArray)(h2:blk<w.heap.size)(h3:O fs<4611686018427387904):Calls Tryz.prog 163 #[.slice (J ⟨blk,off,K⟩) (O fs) cap,.func (.func 164) #[] #[]] w λe w' =>
   e= .returned (.tuple #[])/\∃n os,w' =grow (putRowK A3.vals 5 (Sort.ahead w n) blk off (bH fs).toArray) os:=by
 have eg:∀args w,(callFunc 164 args).run Tryz.prog w= .ok (.enter 164 args) w:=enters_of Tryz.func164 (by kernel_rfl) rfl;rw [bH,<- AG (λa b c h1 h2=>by rw [yz] at *;omega) (λa b h=>by rw [yz] at *;omega) (λa b h1 h2=>bC5 a b (by simpa [ltOf] using h2) (by simpa [ltOf] using h1)) fs];exact AnyQ.slices_SortFunc_total Tryz.sortQ 5 (λw=>by kernel_rfl) (λw=>by kernel_rfl) A3.vals (λ_=>rfl) (λx v hv=>by simp [A3.vals] at hv;rcases hv with rfl|rfl|rfl|rfl|rfl<;>rfl) LA cj5 164 #[] blk off cap fs.toArray w eg (bR7 blk off _ w) h1 h2 h3 bC5
theorem aF1 (blk off cap:Nat)(ps:List C7)(w:World)(h1:HoldsK C7.vals 2 w blk off ps.toArray)(h2:blk<w.heap.size)(h3:O ps<4611686018427387904):Calls Tryz.prog 89 #[.slice (J ⟨blk,off,K⟩) (O ps) cap,.func (.func 118) #[] #[]] w λe w' =>
   e= .returned (.tuple #[])/\∃n os,w' =grow (putRowK C7.vals 2 (Sort.ahead w n) blk off (sortP ps).toArray) os:=by
 have eg:∀args w,(callFunc 118 args).run Tryz.prog w= .ok (.enter 118 args) w:=enters_of Tryz.func118 (by kernel_rfl) rfl;rw [Go.A1.sortP,<- AG (λa b c h1 h2=>by rw [iu] at *;omega) (λa b h=>by rw [iu] at *;omega) (λa b h1 h2=>bC6 a b (by simpa [ltOf] using h2) (by simpa [ltOf] using h1)) ps];exact AnyQ.slices_SortFunc_total Tryz.sortP 2 (λw=>by kernel_rfl) (λw=>by kernel_rfl) C7.vals (λ_=>rfl) (λx v hv=>by simp [C7.vals] at hv;rcases hv with rfl|rfl<;>rfl) wm cj6 118 #[] blk off cap ps.toArray w eg (bR8 blk off _ w) h1 h2 h3 bC6
theorem aC0 (prom:FuncId->Bool):cL Tryz.prog prom 163 (zg 164) :=
 Rt (by kernel_rfl) aF0 λp cap fv w=>AnyF.slices_SortFunc_none (P:=Tryz.prog) (ρ:=Tryz.sortQ_ren) { Tryz.sortQ with } p cap fv w
end Go.Proofs.YtibjocmpkoepoaaGreat
namespace Go.Proofs.YtibjocmpkoepoaaGreat
open Go.RowKit Go.Maps
def pv (p:Int×Int):Value:= .agg #[.int .i64 p.1,.int .i64 p.2]
def bC9:Value->Int×Int
 | .agg cs=>match cs.toList with
  |[.int _ a,.int _ b]=>(a,b)
  |_=>(0,0)
 |_=>(0,0)
def aG2 (p:Int×Int):bC9 (pv p)=p:=rfl
def Gl:List (Int×Int)->List Value
 |[]=>[]
 |p::r=> .int .i64 p.1:: .int .i64 p.2::Gl r
theorem LR (p:Int×Int):∀l:List (Int×Int),Gl (l++[p])=Gl l++[.int .i64 p.1,.int .i64 p.2]
 |[]=>rfl
 |q::l=>by simp [A8,Gl,LR p l]
theorem iC:∀l:List (Int×Int),O (Gl l)=O l * 2
 |[]=>rfl
 |q::l=>by simp [Gl,p8,iC l];omega
def Co (es:Array MapEntry)(seen:Array Nat)(tp:List (Int×Int)):Prop:=∃tk:List MapEntry,tk.map (·.key)=tp.map pv/\(tk++(leftOf es seen).toList).Perm es.toList
def Co.start (es:Array MapEntry):Co es #[] []:=⟨[],rfl,by
 grind [leftOf,Array.toList_filter,List.filter_eq_self,List.Perm.refl]⟩
theorem Ho (es:Array MapEntry)(seen:Array Nat)(b:Nat):(leftOf es (seen.push b)).toList=(leftOf es seen).toList.filter (λx=>x.born != b):=by
 grind [leftOf,Array.toList_filter,List.filter_filter,List.filter_congr,Array.contains_push,bne,Bool.and_comm]
theorem Nf:∀(l:List MapEntry) (e:MapEntry),e∈l->(l.map (·.born)).Nodup->(e::l.filter (λx=>x.born != e.born)).Perm l
 |[],_,h,_=>by cases h
 |x::l,e,h,hn=>by
  simp [K0,List.nodup_cons] at hn
  rcases B6.1 h with rfl|h
  .have:l.filter (λx=>x.born != e.born)=l:=by
    simp_all
   simp [this]
  .have hx:x.born≠e.born:=by
    grind
   have hx' :(x.born != e.born)=W:=M
   rw [List.filter_cons,if_pos hx'];exact (List.Perm.swap x e _).trans ((Nf l e h hn.2).cons x)
def Co.step {es:Array MapEntry}{seen:Array Nat}{tp:List (Int×Int)}(h:Co es seen tp)(hn:(es.toList.map (·.born)).Nodup){e:MapEntry}(he:e∈(leftOf es seen).toList){p:Int×Int}(hk:e.key=pv p) :
  Co es (seen.push e.born) (tp++[p])/\(leftOf es (seen.push e.born)).size<(leftOf es seen).size:=by
 obtain ⟨tk,h1,h2⟩:=h;have hn' :((leftOf es seen).toList.map (·.born)).Nodup:=by
  grind
 have hp:=Nf _ e he hn';refine ⟨⟨tk++[e],by simp [h1,hk],?_⟩,?_⟩
 .rw [Ho,D3]
  exact (List.Perm.append_left tk hp).trans h2
 .have:=hp.length_eq
  grind [Ho,p8,Array.length_toList]
def Co.done {es:Array MapEntry}{seen:Array Nat}{tp:List (Int×Int)}(h:Co es seen tp)(h0:(leftOf es seen).size=0){ks:List (Int×Int)}(hk:es.toList.map (·.key)=ks.map pv):tp.Perm ks:=by
 obtain ⟨tk,h1,h2⟩:=h;have e0:(leftOf es seen).toList=[]:=by
  simp_all
 rw [e0,List.append_nil] at h2;have h3:=h2.map (·.key);have h4:=h3.map bC9;simp_all [List.map_map,Function.comp_def,aG2]
theorem Co.len {es:Array MapEntry}{seen:Array Nat}{tp:List (Int×Int)}(h:Co es seen tp):O tp+(leftOf es seen).size=es.size:=by
 obtain ⟨tk,h1,h2⟩:=h;have e1:=congrArg List.length h1;have e2:=h2.length_eq
 grind
def Yv (w:World)(x y:Value)(t:TypeId){k:Nat}(hk:k=w.heap.size):∀j u,[x,y][j]? =J u->(w.alloc (.cells #[x,y] t)).cell? ((⟨k,0,K⟩:Addr).add j)=J u:=by
 intro j u hj;subst hk;have e:∀i,(w.alloc (.cells #[x,y] t)).cell? ⟨w.heap.size,i,K⟩= #[x,y][i]? :=λi=>by
  simp_all
 match j,hj with
 |0,hj=>exact (e 0).trans hj
 |1,hj=>exact (e 1).trans hj
def aL4 (w:World)(r:Nat):Nat:=match w.heap[r]? with
 |some (.mapIter (J bm) _ seen _)=>(match w.heap[bm]? with
  |some (.map es _)=>(leftOf es seen).size
  |_=>0)
 |_=>0
section
variable {i4:Fence} {n:Nat} {P:Program} (w:World) {ops:Array Oper} {rest:List Oper} {o:Oper} {a:Act} {Q:Exit->Act->World->Prop}
def vI (hg:o.guard=K)(m:Operand)(t:TypeId)(hop:o.op=Op.range t m)(k e:TypeId)(ht:P.underlying t=J (.map k e))(b:Nat)(es:Array MapEntry)(gW:Nat)(hm:a.eval m= .map (J b))(hb:w.heap[b]? =J (.map es gW))
  (hK:wpListIn i4 n P ops Q rest (a.put o.dst (.pointer (J ⟨w.heap.size,0,K⟩))) (w.alloc (.mapIter (J b) gW #[] gW))) :
  wpListIn i4 n P ops Q (o::rest) a w:=by
 refine wpListIn_plain hg λK' hK' =>?_
 have hrun:=run_range_map w t k e b es gW ht hb;refine ⟨?_,?_⟩
 .simp [Oper.about,hop]
 .rw [Oper.semAt_plain i4 _ _ M]
  simp [execOp,hop,hm,hrun];exact hK' _ _ hK
def xF (hg:o.guard=K)(it:Operand)(hop:o.op=Op.next it F)(b r:Nat)(es:Array MapEntry)(gW:Nat)(seen:Array Nat)(hit:a.eval it= .pointer (J ⟨r,0,K⟩))
  (hr:w.heap[r]? =J (.mapIter (J b) gW seen gW)) (hb:w.heap[b]? =J (.map es gW)) (hold:∀x∈es.toList,x.born<gW) (hn:(es.toList.map (·.born)).Nodup) (hkeys:∀e∈es.toList,∃p,e.key=pv p) (hbr:b≠r)
  (hDone:(leftOf es seen).size=0->wpListIn i4 n P ops Q rest (a.put o.dst (.tuple #[.bool F])) w)
  (hMore:∀(e:MapEntry) (p:Int×Int) (v:Value) (w' :World),e∈(leftOf es seen).toList->e.key=pv p->w.grownBy w' (J r)->w'.heap.size=w.heap.size->w'.heap[r]? =J (.mapIter (J b) gW (seen.push e.born) gW)->w'.heap[b]? =J (.map es gW) ->
   (Instr.entry (.pointer (J ⟨r,0,K⟩))).run P w' = .ok (.tuple #[pv p,v]) w' ->wpListIn i4 n P ops Q rest (a.put o.dst (.tuple #[.bool W,pv p,v])) w') :
  wpListIn i4 n P ops Q (o::rest) a w:=by
 refine wpListIn_plain hg λK' hK' =>?_
 refine ⟨by simp [Oper.about,hop],?_⟩;rw [Oper.semAt_plain i4 _ _ M]
 rcases run_next_at (P:=P) w o.type r b gW gW seen es gW hr hb hold (l6 _) with ⟨h0,hrun⟩|⟨e,he,w1,hw1,hrun⟩
 .simp [execOp,hop,hit,hrun]
  exact hK' _ _ (hDone h0)
 .have hes:e∈es.toList:=by
   have:e∈(Array.filter (λe=> !seen.contains e.born) es).toList:=he;simp_all
  obtain ⟨p,hp⟩:=hkeys e hes;simp [execOp,hop,hit,hrun];have hsz:(ChangeMaps.setBlock w1 r (.mapIter (J b) gW (seen.push e.born) gW)).heap.size=w.heap.size:=by
   rcases hw1 with rfl|rfl<;>simp [ChangeMaps.setBlock]
  have hlt:r<w.heap.size:=by
   grind
  have hr' :(ChangeMaps.setBlock w1 r (.mapIter (J b) gW (seen.push e.born) gW)).heap[r]? =J (.mapIter (J b) gW (seen.push e.born) gW):=by
   simp_all [ChangeMaps.setBlock]
  have bo4:∀k,k≠r->(ChangeMaps.setBlock w1 r (.mapIter (J b) gW (seen.push e.born) gW)).heap[k]? =w.heap[k]? :=by
   intro k hk
   rcases hw1 with rfl|rfl
   .grind [ChangeMaps.setBlock]
   .simp [ChangeMaps.setBlock,Ne.symm hk]
    rfl
  have hb' :=(bo4 b hbr).trans hb;have hen:=run_entry_at (P:=P) _ r b gW seen es gW e hr' hb' hes hn;rw [hp] at hen ⊢;refine hK' _ _ (hMore e p e.val _ he hp ⟨?_,?_,?_,Nat.le_of_eq hsz.symm,λk _ hk=>bo4 k (λe=>hk (by rw [e]))⟩ hsz hr' hb' hen)
  all_goals (rcases hw1 with rfl|rfl<;>rfl)
end
theorem aV3:(Tryz.prog.info? 44).map (λi=>(i.zero,i.size,i.bytes))=J (J (.agg #[.int .i64 0,.int .i64 0]),2,16):=by kernel_rfl
set_option maxRecDepth 100000 in
set_option maxHeartbeats 2000000 in
def AH (bm:Nat)(es:Array MapEntry)(gW:Nat)(ks srt:List (Int×Int))(w:World)(hb:w.heap[bm]? =J (.map es gW))(hold:∀x∈es.toList,x.born<gW)(hn:(es.toList.map (·.born)).Nodup)(hk:es.toList.map (·.key)=ks.map pv)(hlen:O ks<=1000000)
  (hsort:∀(v:Value) (ps:List (Int×Int)) (f9:World),f9.ownsRow w.heap.size 44 2 v (O ps) (Gl ps)->ps.Perm ks->Calls Tryz.prog 89 #[v,.func (.func 118) #[] #[]] f9 λe W' =>
   e= .returned (.tuple #[])/\W'.ownsRow w.heap.size 44 2 v (O ps) (Gl srt)/\f9.grownBy W' v.ownBlock) :
  Calls Tryz.prog 63 #[.map (J bm)] w λe w' =>∃v,e= .returned v/\w'.ownsRow w.heap.size 44 2 v (O ks) (Gl srt)/\Below w.heap.size w w' :=by
 obtain ⟨i0,hi,hz0,hz1,hz2⟩:=info_parts aV3;have hbl:bm<w.heap.size:=by
  grind
 have hkeys:∀e∈es.toList,∃p,e.key=pv p:=by
  intro e he;have:e.key∈ks.map pv:=by grind
  grind
 have cE3:es.size=O ks:=by
  have:=congrArg List.length hk
  grind
 refine (callsIn_wide (n:=68)).1 ?_;refine callsIn_of_wp Tryz.func63 rfl trivial ?_ rfl;simp only [Tryz.ntmps63,List.size_toArray,p8,y9,Nat.reduceAdd,Nat.reduceSub,Array.replicate_succ,Array.replicate_zero,List.push_toArray,List.append_toArray,B3,A8]
 gi_wp2_with (first
  |(gi_at_range;refine vI _ rfl _ 124 rfl 44 4 Tryz.underlying124 bm es gW rfl hb ?_)
  |gi_in)
 go_frame
 gi_loopw [3] (λv wr=>∃(seen:Array Nat) (tp:List (Int×Int)),wr.heap[w.heap.size]? =J (.mapIter (J bm) gW seen gW)/\wr.heap[bm]? =J (.map es gW)/\Co es seen tp/\wr.ownsRow w.heap.size 44 2 v (O tp) (Gl tp)/\Below w.heap.size w wr)
  (λ_ wr=>aL4 wr w.heap.size)
 case atStart =>
  exact ⟨#[],[],heap_alloc_new _ _,(Below.heap_alloc _ _ _ hbl).trans hb,Co.start es,World.ownsRow_nil _ _ _ _,(Below.refl _ _).alloc (l6 _) _⟩
 case round =>
  obtain ⟨seen,tp,hr,hbb,hC,hrow,hnx⟩:=hrel
  gi_wp2_with (first
   |(gi_at_next;refine xF _ rfl _ rfl bm w.heap.size es gW seen rfl hr hbb hold hn hkeys V ?_ ?_)
   |gi_in)
  .intro h0
   have Mj:=hC.done (by rw [h0];rfl) hk;have hc:=hsort _ tp _ hrow Mj;clear h0
   gi_wp2_with (refine ⟨trivial,?_⟩;gi_at_call 89;refine ((callsIn_wide).2 hc).mono ?_;rintro e w' ⟨rfl,bo8,hg'⟩)
   refine ⟨rfl,_,results_tmp rfl _ _ _,u3,rfl,?_,hnx.grown hg' hnx.size (λj hj=>(hrow.lt j hj).1)⟩;rw [<- Mj.length_eq];exact bo8
  .intro e p1 p2 v' w2 he hp hg2 hs2 hr2 hb2 hen
   have Zv:=hrow.kept hg2 (by
    by_cases h:u3.ownBlock=K
    .simp_all
    .refine Or.inr λe1=>?_
     rcases hrow.2 with ⟨rfl,_⟩|⟨g,cap,cur,rfl,_,hgg,_⟩
     all_goals simp_all [Value.ownBlock,Option.some.injEq])
   have cG6:=hg2.size;have hstep:=hC.step hn (Array.mem_toList_iff.2 he) (p:=(p1,p2)) hp;have co2:O tp+1<=1000000:=by
    have:=hC.len;omega
   have bW9:Below w.heap.size w w2:=hnx.grown hg2 hnx.size (λj hj=>M);clear hs2;simp only [pv] at hen ⊢
   gi_wp2_with (gi_at_builtin;go_loud (refine wpListIn_append_own _ rfl _ _ 49 rfl w.heap.size 44 i0 _ 2 16 Tryz.underlying49 hi hz0 hz1 hz2 rfl (by decide) _ _ _ rfl ((Zv.alloc _).alloc _) ⟨w2.heap.size+1,0,K⟩ 1 1 [.int .i64 p1,.int .i64 p2] rfl rfl (Yv _ _ _ _ U) (by simp [Value.oneCell']) (by grind [maxLen]) V (by simp_all<;>grind) ?_;intro v3 w3 hown' hg3 co7;go_frame))
   have hg4:World.grownBy _ w3 u3.ownBlock:=hg3;have hkeep:∀(b:Nat) (o:Obj),w2.heap[b]? =J o->(∀c t f,o≠Obj.cells c t f)->w3.heap[b]? =J o:=by
    intro b o qm hno;have hlt:b<w2.heap.size:=by
     grind
    rw [hg4.block b D (λe1=>by
     rcases Zv.2 with ⟨rfl,_⟩|⟨g,cap,cur,rfl,_,hgg,_⟩
     all_goals simp_all [Value.ownBlock,Option.some.injEq]),Below.heap_alloc _ _ _ D,Below.heap_alloc _ _ _ hlt]
    exact qm
   have hr3:=hkeep _ _ hr2 U;have hb3:=hkeep _ _ hb2 U;have bX0:Below w.heap.size w w3:=((bW9.alloc (by grind) _).alloc (by simp_all<;>grind) _).grown hg4 (by simp_all<;>grind) (λj hj=>(Zv.lt j hj).1)
   go_roundw
   case rel=>exact ⟨_,_,hr3,hb3,hstep.1,by simp_all [LR,n5],bX0⟩
   simp_all [measure,aL4]
#print axioms AH
end Go.Proofs.YtibjocmpkoepoaaGreat
namespace Go.A1
open Go.RowKit
section
variable {w w' :World} {G G' :Gh} {I:U3} {N:Nat->Prop} {l:I7} {H:q6}
def yp (hB:Below w.heap.size w w')(hwf:WF G w)(hG:∀b,b<w.heap.size->G' b=G b):Ext G w G' w' where
 os:=hB.os
 tape:=hB.tape
 output:=hB.output
 size:=hB.size
 nj b o hi:=by
  have hb:b<w.heap.size:=bT hwf (by grind [kA]);exact ⟨by simp_all [kA],by simp [World.cell?,hB.block b hb]⟩
 still b hb:=by
  have hlt:b<w.heap.size:=bT hwf (by grind);exact ⟨hG b hlt,hB.block b hlt⟩
 shape b c e f hc:=by
  have hlt:b<w.heap.size:=by
   grind
  exact ⟨c,(hB.block b hlt).trans hc,rfl⟩
 drawn h:=h.elim
def zR (hB:Below w.heap.size w w')(hwf:WF G w)(hG:∀b,b<w.heap.size->G' b=G b)(q:Place):cR q G w G' w' :=λb n hb=>by
 have hlt:b<w.heap.size:=bT hwf (by rw [hb];simp);exact ⟨(hG b hlt).trans hb,hB.block b hlt⟩
def Cw (hB:Below w.heap.size w w')(hwf:WF G w)(hG:∀b,b<w.heap.size->G' b=G b)(b id:Nat)(hb:G b= .obj id):G' b= .obj id/\w'.heap[b]? =w.heap[b]? :=by
 have hlt:b<w.heap.size:=bT hwf (by rw [hb];simp);exact ⟨(hG b hlt).trans hb,hB.block b hlt⟩
def kK {args:List c8}{J5:Array Value}(hp:Cn l H w G I N args J5)(hB:Below w.heap.size w w')(hG:∀b,b<w.heap.size->G' b=G b)(hwf' :WF G' w'){v:c8}{x:Value}(hv:VR G' I N w' .ret v x):nq l H w G I N v H x w' G' I N :=
 ⟨hv,λid o ho=>OR.mono (yp hB hp.wf hG) (λ_ _=>rfl) (λ_ h=>h) id o (λh=>Cw hB hp.wf hG _ _ h) (λ_=>zR hB hp.wf hG _) (hp.hr id o ho),hwf',yp hB hp.wf hG,
  λid _=>⟨λb hb=>Cw hB hp.wf hG b id hb,λ_=>zR hB hp.wf hG _⟩,λ_ _ _=>rfl,λ_ h=>h,λ_ _ h=>h,hp.cz,λ_ o' _ ho=>Or.inr ⟨o',ho,l6 _⟩,hp.X7⟩
def DRx (G:Gh)(w:World)(cs:List Data)(news:List Value):Prop:=O news=O cs/\∀(j:Nat) (c:Data),cs[j]? =J c->∃u,news[j]? =J u/\DR G w c u
theorem gq.of {b:Nat}:∀(o:Nat) (cs:List Data),(∀(j:Nat) (c:Data),cs[j]? =J c->kA G b (o+j)/\∃u,w.cell? (ad b (o+j))=J u/\DR G w c u)->gq G w b o cs
 |_,[],_=>by simp [gq]
 |o,c::cs,h=>by
  obtain ⟨h1,h2⟩:=h 0 c rfl;refine ⟨h1,h2,gq.of (o+1) cs λj c hj=>?_⟩;have:=h (j+1) c (by simpa using hj)
  rwa [show o+(j+1)=o+1+j by omega] at this
def DR.one {d:Data}{v:Value}(h:DR G w d v):v.oneCell' =W:=by
 cases d<;>simp [DR] at h
 case slice len cells=>rcases h with ⟨h|⟨a,h⟩,_⟩|⟨b,o,cap,h,_⟩<;>subst h<;>rfl
 all_goals (subst h;rfl)
theorem DRx.mono {cs:List Data}{news:List Value}(h:DRx G w cs news)(hx:Ext G w G' w'):DRx G' w' cs news:=⟨h.1,λj c hj=>by
 obtain ⟨u,h1,h2⟩:=h.2 j c hj;exact ⟨u,h1,DR.mono hx.nj c u h2⟩⟩
def DRx.Gq {cs:List Data}{news:List Value}(h:DRx G w cs news):∀u∈news,u.oneCell' =W:=by
 intro u hu;obtain ⟨j,hj,rfl⟩:=List.mem_iff_getElem.1 hu;have hl:=h.1;obtain ⟨u',h1,h2⟩:=h.2 j (cs[j]' V) (o6 V);rw [o6 hj] at h1;cases h1;exact h2.one
def JY {e z n:Nat}{v:Value}{news:List Value}{cs:List Data}(hown:w'.ownsRow w.heap.size e z v n news)(hB:Below w.heap.size w w')(hwf:WF G w)(hd:DRx G w cs news) :
  ∃G',(∀b,b<w.heap.size->G' b=G b)/\WF G' w' /\VR G' I N w' .ret (.own z n cs) v:=by
 obtain ⟨h1,h2⟩:=hown;have hl:O cs=n * z:=by rw [<- hd.1];exact h1
 rcases h2 with ⟨rfl,rfl⟩|⟨g,cap,cur,rfl,hg,hh,hc1,qn,hc3,hc4⟩
 .refine ⟨G,λ_ _=>rfl,λb hb=>hwf b (C9 hB.size hb),?_⟩
  simp_all [VR,trivial]
 .have hlt:g<w'.heap.size:=by
   grind
  have hG:∀b,b<w.heap.size->(kH G g (.grow (0+n * z) .ret)) b=G b:=λb hb=>M5 V
  refine ⟨kH G g (.grow (0+n * z) .ret),hG,λb hb=>?_,?_⟩
  .rw [M5 V]
   exact hwf b (C9 hB.size hb)
  .have hd' :=hd.mono (yp hB hwf hG)
   refine ⟨hl,Or.inr ⟨U,g,0,cap,cur,e,(0,0),rfl,hc1,hh,V,qG _,U,gq.of 0 cs λj c hj=>?_⟩⟩;obtain ⟨u,g1,g2⟩:=hd'.2 j c hj;simp_all [kA,World.cell?]<;>grind
def rN {z n:Nat}{cs:List Data}{x:c8}{v:Value}(hr:HR G I N w H)(h:rowOf z H x=J (n,cs))(hv:VR G I N w .none x v) :
  (n=0/\cs=[]/\(v= .slice K 0 0\/∃a,v= .slice (J a) 0 0))\/∃(b off c:Nat) (news:List Value),v= .slice (J (ad b off)) n c/\n<=c/\O news=n * z/\(∀(j:Nat) (u:Value),news[j]? =J u->w.cell? (ad b (off+j))=J u)/\DRx G w cs news:=by
 unfold rowOf at h;split at h
 .split at h
  next hl=>
   cases h
   rcases hv with ⟨hv|⟨a,hv⟩,h0,h1⟩|⟨b,o,cap,hv,hcap,hd⟩
   .simp_all
   .simp_all
   .obtain ⟨vs,g1,g2,g3⟩:=gq.vals (I:=I) (N:=N) o _ hd
    have:=jj _ _ _ (qN _) g3;exact Or.inr ⟨_,_,cap,vs,hv,hcap,by rw [g1,hl],g2,g1,this.2⟩
  .cases h
 next id z' lo n'=>
  split at h
  next hz=>
   subst hz;split at h
   next vs hvs=>
    split at h
    next cs' hcs=>
     cases h;obtain ⟨hN,cap,rfl,hcap,_⟩:=hv
     rcases Nat.eq_zero_or_pos (n * z') with h0|h0
     .have bZ3:vs=[]:=by
       grind [rd_some]
      subst bZ3;simp [P7] at hcs;subst hcs;exact Or.inr ⟨_,_,cap,[],rfl,hcap,by simp [h0],U,by simp [DRx]⟩
     .obtain ⟨_,xs,g1,g2,g3,g4⟩:=hr.rd hvs h0
      refine Or.inr ⟨_,_,cap,xs,rfl,hcap,g1,g3,?_,?_⟩
      .grind [sZ]
      .intro j c hj
       obtain ⟨a,k1,k2⟩:=(sZ vs cs hcs).2 j c hj;have hjl:j<O xs:=by
        grind
       refine ⟨xs[j],o6 hjl,?_⟩;have hq:=g4 j a _ k1 (o6 hjl);have hq2:=hq.K7 (Av := .none);have ha:a.K7= .d c:=by
        cases a<;>simp [c8.data?] at k2<;>subst k2<;>rfl
       simp_all [VR]
    .cases h
   .cases h
  .cases h
 .cases h
def Qn {P:Program}{prom:FuncId->Bool}{f:FuncId}{z e:Nat}(hcan:V2 P f=W)
  (hC:∀(ad:Addr) (n c:Nat) (news:List Value) (w:World),O news=n * z->n<=1000000->(∀(j:Nat) (u:Value),news[j]? =J u->w.cell? (ad.add j)=J u)->(∀u∈news,u.oneCell' =W) ->
   Calls P f #[.slice (J ad) n c] w λx w' =>∃v',x= .returned v' /\w'.ownsRow w.heap.size e z v' n news/\Below w.heap.size w w')
  (hN:∀(n c:Nat) (w:World),Calls P f #[.slice K n c] w λx w' =>x= .returned (.slice K 0 0)/\w' =w):cL P prom f (Rb z):=by
 refine ⟨hcan,λargs H l v H1 hrun w G I N J5 hp _=>?_⟩;unfold Rb at hrun;split at hrun
 .obtain ⟨u,rfl,hu⟩:=kJ hp.args
  split at hrun
  next cs hrow=>
   cases hrun
   rcases rN hp.hr hrow hu with ⟨_,rfl,rfl|⟨a,rfl⟩⟩|⟨b,off,c,news,rfl,_,hl,hc,hd⟩
   .refine (hN 0 0 w).mono ?_
    rintro e' w' ⟨rfl,rfl⟩;exact ⟨_,G,I,N,rfl,om hp (by simp [VR,DR])⟩
   .refine (hC a 0 0 [] w U V U U).mono ?_
    rintro e' w' ⟨v',rfl,hown,hB⟩;refine ⟨_,G,I,N,rfl,kK hp hB (λ_ _=>rfl) (λb hb=>hp.wf b (C9 hB.size hb)) ?_⟩;simp [VR,DR]
    rcases hown.2 with ⟨rfl,_⟩|⟨g,cap,cur,rfl,_⟩
    all_goals simp_all [trivial,O0,gq]
   .refine (hC (ad b off) 0 c news w hl V (λj u hj=>M) hd.Gq).mono ?_
    rintro e' w' ⟨v',rfl,hown,hB⟩;refine ⟨_,G,I,N,rfl,kK hp hB (λ_ _=>rfl) (λb hb=>hp.wf b (C9 hB.size hb)) ?_⟩;simp [VR,DR]
    rcases hown.2 with ⟨rfl,_⟩|⟨g,cap,cur,rfl,_⟩
    all_goals simp_all [trivial,O0,gq]
  next n cs hrow=>
   split at hrun
   .cases hrun
    rcases rN hp.hr hrow hu with ⟨h0,_⟩|⟨b,off,c,news,rfl,_,hl,hc,hd⟩
    .cases h0
    .refine (hC (ad b off) (n+1) c news w hl V (λj u hj=>by simp_all [bX]) hd.Gq).mono ?_
     rintro e' w' ⟨v',rfl,hown,hB⟩;obtain ⟨G',hG,hwf',hv'⟩:=JY (I:=I) (N:=N) hown hB hp.wf hd;exact ⟨_,G',I,N,rfl,kK hp hB hG hwf' hv'⟩
   .cases hrun
  .cases hrun
 .cases hrun
def QC {P:Program}{prom:FuncId->Bool}{f:FuncId}{z e:Nat}(hcan:V2 P f=W)
  (hG:∀(n:Nat) (w:World),0<n->n<=1000000->Calls P f #[.slice K 0 0,.int .i64 n] w λx w' =>∃(cap:Nat) (c:Array Value),x= .returned (.slice (J ⟨w.heap.size,0,K⟩) 0 cap)/\w' =w.drew.alloc (.cells c e)/\c.size=cap * z):cL P prom f (zf z):=by
 refine ⟨hcan,λargs H l v H1 hrun w G I N J5 hp _=>?_⟩;unfold zf at hrun;split at hrun
 next n=>
  split at hrun
  .cases hrun
   obtain ⟨m,rfl⟩:∃m:Nat,n=m:=⟨n.toNat,V⟩;have ha:=hp.args;simp [L3,VR,DR] at ha;have hv:J5= #[.slice K 0 0,.int .i64 m]:=by
    grind
   subst hv;refine (hG m w V V).mono ?_;rintro e' w' ⟨cap,c,rfl,rfl,hc⟩;have hN:lZ w (w.drew.alloc (.cells c e)) (.cells c e):=(lZ.alloc w (.cells c e)).drew (w.drawn+1) (Nat.le_succ _);refine ⟨_,kH G w.heap.size (.grow 0 .ret),I,N,rfl,?_,hN.hr hp.wf _ (λ_ _=>rfl) (λ_ h=>h) hp.hr,hN.wf hp.wf _,hN.ext hp.wf _,hN.gj hp.wf _ _,λ_ _ _=>rfl,λ_ h=>h,λ_ _ h=>h,hp.cz,λ_ o' _ ho=>Or.inr ⟨o',ho,l6 _⟩,hp.X7⟩;exact ⟨U,Or.inr ⟨U,w.heap.size,0,cap,c,e,_,rfl,O0 _,hN.new,V,qG _,U,by simp [gq]⟩⟩
  .cases hrun
 .cases hrun
end
end Go.A1
namespace Go.Proofs.YtibjocmpkoepoaaGreat
open Go.RowKit Go.Maps Go.A1 Go.Sort Go.Proofs
theorem Dl:∀ps:List (Int×Int),Gl ps=ps.flatMap C7.vals
 |[]=>rfl
 |(a,b)::r=>by rw [Gl,Dl r];rfl
theorem Hx:∀(ps:List (Int×Int)) (i:Nat) (d:A1.Data),(ff ps)[i]? =J d->∃u,(Gl ps)[i]? =J u/\∀G w,DR G w d u
 |[],i,d,h=>by simp [ff] at h
 |(a,b)::r,0,d,h=>by simp [ff] at h;subst h;exact ⟨_,rfl,λG w=>by simp [DR]⟩
 |(a,b)::r,1,d,h=>by simp [ff] at h;subst h;exact ⟨_,rfl,λG w=>by simp [DR]⟩
 |(a,b)::r,i+2,d,h=>by
  simp only [ff,List.getElem?_cons_succ] at h;simpa only [Gl,List.getElem?_cons_succ] using Hx r i d h
theorem rK:∀l:List (Int×Int),O (ff l)=O l * 2
 |[]=>rfl
 |q::l=>by simp only [ff,p8,rK l];omega
theorem Tg {G:Gh}{I:U3}{N:Nat->Prop}{w:World}:∀(es:List (Key×c8)) (ks:List (Int×Int)) (arr:List MapEntry),vg es=J ks->ER G I N w es arr->arr.map (·.key)=ks.map pv
 |[],ks,arr,h,hE=>by
  simp [vg] at h;simp [ER] at hE;subst h hE;rfl
 |(k,v)::r,ks,arr,h,hE=>by
  simp only [ER] at hE;obtain ⟨e,es',rfl,h1,_,h3⟩:=hE;unfold vg at h;split at h
  .rename_i heq;cases heq
  next a b v' r' heq=>
   cases heq;split at h
   next l hl=>
    cases h;rw [K0,Tg _ l es' hl h3,h1];rfl
   .cases h
  .cases h
def ai0 (m:Nat)(v:Value)(ps:List C7)(f9:World)(hlen:O ps<=1000000)(hrow:f9.ownsRow m 44 2 v (O ps) (Gl ps)):Calls Tryz.prog 89 #[v,.func (.func 118) #[] #[]] f9 λe W' =>
   e= .returned (.tuple #[])/\W'.ownsRow m 44 2 v (O ps) (Gl (sortP ps))/\f9.grownBy W' v.ownBlock:=by
 obtain ⟨hl,⟨rfl,h0⟩|⟨g,cap,cur,rfl,hg,hh,hc1,qn,hc3,hc4⟩⟩:=hrow
 .have hp0:ps=[]:=List.length_eq_zero_iff.1 h0
  subst hp0;have h:=AnyF.slices_SortFunc_none (P:=Tryz.prog) (ρ:=Tryz.sortP_ren) { Tryz.sortP with } K 0 (.func (.func 118) #[] #[]) f9;refine h.mono ?_;rintro e W' ⟨rfl,rfl⟩;exact ⟨rfl,by rw [show sortP []=([]:List C7) from rfl];exact World.ownsRow_nil _ _ _ _,World.grownBy.refl _ _⟩
 .have hlt:g<f9.heap.size:=by
   rcases A5 g f9.heap.size with h|h
   .exact h
   .rw [Array.getElem?_eq_none h] at hh;cases hh
  have hsz:O (sortP ps)=O ps:=Y4 ps;have hcell:∀j,j<O ps * 2->cur[j]? =(Gl ps)[j]? :=λj hj=>by
   rw [<- hc4,List.getElem?_take,if_pos hj];simp
  refine (aF1 g 0 cap ps f9 ?_ hlt V).mono ?_
  .unfold HoldsK
   rw [pe C7.vals 2 (λ_=>rfl),<- Dl];intro j hj;have hj' :j<O (Gl ps):=by simpa using hj
   have hj2:j<O ps * 2:=by rw [<- iC];exact hj'
   constructor
   .show f9.cell? ⟨g,0+j,K⟩=_
    simp only [World.cell?,hh,Nat.zero_add];rw [hcell j hj2];simp [hj']
   .show f9.frozen? ⟨g,0+j,K⟩=_
    simp only [World.frozen?,hh];simp
  .rintro e W' ⟨rfl,n,os,rfl⟩
   have hR:=pT _root_.id f9 n g 0 (Gl (sortP ps)) os;rw [List.map_id] at hR;unfold putRowK;rw [pe C7.vals 2 (λ_=>rfl),<- Dl];obtain ⟨W',hW⟩:∃W',grow (putRow _root_.id (Sort.ahead f9 n) g 0 (Gl (sortP ps)).toArray) os=W' :=⟨_,rfl⟩;rw [hW] at hR ⊢;obtain ⟨c',g1,g2,g3,g4⟩:=hR.here cur 44 (0,0) hh;refine ⟨rfl,⟨by rw [iC,hsz],.inr ⟨g,cap,c',rfl,hg,g1,hc1,qn,V,?_⟩⟩,⟨hR.os,hR.tape,hR.output,hR.size,λk hk hne=>hR.other k hk (λe=>hne (by rw [e];rfl))⟩⟩;apply List.ext_getElem?;intro j;rw [List.getElem?_take];split
   next hj=>
    have hj' :j<O (Gl (sortP ps)):=by rw [iC,hsz];exact hj
    have:=g4 j _ V (o6 hj');rw [Nat.zero_add] at this;rw [o6 hj',<- this];simp
   next hj=>
    rw [List.getElem?_eq_none];rw [iC,hsz];omega
theorem bb4 (prom:FuncId->Bool):cL Tryz.prog prom 63 BW:=by
 refine ⟨by kernel_rfl,λargs H l v H1 hrun w G I N J5 hp _=>?_⟩;unfold BW at hrun;split at hrun
 next id=>
  split at hrun
  next es hes=>
   split at hrun
   next ks hks=>
    split at hrun
    next hlen=>
     cases hrun;obtain ⟨x,rfl,hv⟩:=kJ hp.args;simp only [VR] at hv;obtain ⟨hN,rfl⟩:=hv;have hO:=hp.hr id _ hes;simp only [OR] at hO;obtain ⟨_,arr,gW,h1,_,hE,hB⟩:=hO;have hk:=Tg es ks arr.toList hks hE;refine (AH (I id).1 arr gW ks (sortP ks) w h1 hB.old hB.nodup hk hlen ?_).mono ?_
     .intro v ps f9 hown Mj
      have:=Mj.length_eq;rw [<- uf Mj];exact ai0 _ v ps f9 V hown
     .rintro e w' ⟨v,rfl,hown,hBl⟩
      obtain ⟨G',hG,hwf',hv'⟩:=JY (I:=I) (N:=N) (cs:=ff (sortP ks)) hown hBl hp.wf ⟨by rw [iC,rK],λj c hj=>by
       obtain ⟨u,u1,u2⟩:=Hx (sortP ks) j c hj;exact ⟨u,u1,u2 _ _⟩⟩
      exact ⟨_,G',I,N,rfl,kK hp hBl hG hwf' hv'⟩
    .cases hrun
   .cases hrun
  .cases hrun
 .cases hrun
end Go.Proofs.YtibjocmpkoepoaaGreat
namespace Go.Proofs.YtibjocmpkoepoaaGreat
open Go.RowKit Go.Lib
def aI9 {T E S i7:Nat}{d9:Value}(hT:Tryz.prog.underlying T=J (.slice E))(hI:(Tryz.prog.info? E).map (λi=>(i.zero,i.size,i.bytes))=J (J d9,S,i7))(hZ:d9.cells.size=S)(hS:0<S)(hB:i7<=16)(n:Nat)(w:World)(h0:0<n)(hn:n<=1000000):∃G c0,0+n<=G/\G<=9223372036854775807/\c0.size=G * S /\
  ∀ty,(Builtin.append_ #[T,3] ty #[.slice K 0 0,.int .i64 (n:Int)]).run Tryz.prog w= .ok (.slice (J ⟨w.heap.size,0,K⟩) (0+n) G) (w.drew.alloc (.cells c0 E)):=by
 obtain ⟨i0,hi,hz0,hz1,hz2⟩:=info_parts hI;have hGn:0+n<=grownCap w (0+n) 0 E:=grownCap_ge w _ _ _;have hm:=grownCap_le_maxLen w (0+n) 0 E (by unfold maxLen;omega);unfold maxLen at hm;have hb:n * i7<=1000000 * 16:=Nat.mul_le_mul hn hB;refine ⟨_,_,hGn,V,?_,λty=>Lib.run_append_grow_zeros w T 3 ty E i0 d9 .i64 .i64 hT Tryz.underlying3 hi hz0 K 0 0 [] (run_firstCells_none w.drew i0.size 0 0 0) n h0 V V V (by rw [hz2];omega) (growslice_fits V (by rw [hz2,Nat.zero_add];omega))⟩;simp only [Array.size_append,size_zeroCells,hZ];have:=Nat.add_mul (0+n) (grownCap w (0+n) 0 E - (0+n)) S;rw [Nat.add_sub_cancel' hGn] at this;simp at this ⊢;omega
set_option maxRecDepth 100000 in
set_option maxHeartbeats 4000000 in
theorem aw8 (n:Nat)(w:World)(h0:0<n)(hn:n<=1000000):Calls Tryz.prog 226 #[.slice K 0 0,.int .i64 n] w λe w' =>∃(cap:Nat) (c:Array Value),e= .returned (.slice (J ⟨w.heap.size,0,K⟩) 0 cap)/\w' =w.drew.alloc (.cells c 44)/\c.size=cap * 2:=by
 have h1:¬ ((n:Int)<0):=V
 have h2:wrap64 ((0:Int) - 0)=0:=by unfold wrap64;omega
 have h3:wrap64 ((n:Int) - 0)=(n:Int):=by unfold wrap64;omega
 have h4:(n:Int)>0:=V
 obtain ⟨G,c0,hGn,bU5,hsz,hrz⟩:=aI9 (d9:= .agg #[.int .i64 0,.int .i64 0]) (S:=2) (i7:=16) Tryz.underlying49 (by kernel_rfl) rfl V V n w h0 hn
 go_enter Tryz.func226,Tryz.ntmps226
 go_wp2_with (at_builtin;refine Lib.wpList_append_run _ rfl _ _ _ _ rfl _ _ rfl rfl _ _ (hrz _) ?_)
 all_goals (go_ret;exact ⟨G,rfl,c0,rfl,by first|exact hsz|omega⟩)
set_option maxRecDepth 100000 in
set_option maxHeartbeats 4000000 in
theorem aw9 (n:Nat)(w:World)(h0:0<n)(hn:n<=1000000):Calls Tryz.prog 279 #[.slice K 0 0,.int .i64 n] w λe w' =>∃(cap:Nat) (c:Array Value),e= .returned (.slice (J ⟨w.heap.size,0,K⟩) 0 cap)/\w' =w.drew.alloc (.cells c 3)/\c.size=cap * 1:=by
 have h1:¬ ((n:Int)<0):=V
 have h2:wrap64 ((0:Int) - 0)=0:=by unfold wrap64;omega
 have h3:wrap64 ((n:Int) - 0)=(n:Int):=by unfold wrap64;omega
 have h4:(n:Int)>0:=V
 obtain ⟨G,c0,hGn,bU5,hsz,hrz⟩:=aI9 (d9:= .int .i64 0) (S:=1) (i7:=8) Tryz.underlying22 (by kernel_rfl) rfl V V n w h0 hn
 go_enter Tryz.func279,Tryz.ntmps279
 go_wp2_with (at_builtin;refine Lib.wpList_append_run _ rfl _ _ _ _ rfl _ _ rfl rfl _ _ (hrz _) ?_)
 all_goals (go_ret;exact ⟨G,rfl,c0,rfl,by first|exact hsz|omega⟩)
end Go.Proofs.YtibjocmpkoepoaaGreat
namespace Go.Proofs.YtibjocmpkoepoaaGreat
open Go.A1 Go.Sort Go.Proofs
def WA (w:World):Calls Tryz.prog 279 #[.slice K 0 0,.int .i64 0] w λe w' =>e= .returned (.slice K 0 0)/\w' =w:=by
 go_wp2
 all_goals (go_ret;simp_all)
theorem aC1 (prom:FuncId->Bool):cL Tryz.prog prom 226 (zf 2):=QC (by kernel_rfl) aw8
theorem aC3 (prom:FuncId->Bool):cL Tryz.prog prom 279 Hu:=WB (by kernel_rfl) WA λn w h0 hn=>(aw9 n w h0 hn).mono λe w' ⟨cap,c,h1,h2,h3⟩=>⟨cap,c,_,h1,h2,V⟩
theorem aC2 (prom:FuncId->Bool):cL Tryz.prog prom 263 Hv :=
 Xy (by kernel_rfl) (λblk off cap zs w h1 h2 h3=>Any.slices_Sort_int Tryz.lays189 blk off cap zs w h1 h2 h3) (λp cap w=>Any.slices_Sort_int_none Tryz.lays189 p cap w)
theorem Qo (prom:FuncId->Bool):cL Tryz.prog prom 134 oc :=
 Jp (by kernel_rfl) (λblk off cap zs w h1 h2 h3=>Any.slices_Compact_int Tryz.lays20 blk off cap zs w h1 h2 h3)
def YH (p:Option Addr)(cap:Nat)(w:World):Calls Tryz.prog 134 #[.slice p 0 cap] w λe w' =>e= .returned (.slice p 0 cap)/\w' =w:=by
 go_wp2
 all_goals (go_ret;simp_all)
theorem aB9 (prom:FuncId->Bool):cL Tryz.prog prom 134 ze:=by
 refine ⟨by kernel_rfl,λargs H l v H1 hrun w G I N J5 hp h0=>?_⟩;unfold ze at hrun;split at hrun
 .cases hrun
  obtain ⟨x,rfl,hv⟩:=kJ hp.args;simp [VR,DR] at hv;have key:∃p cap,x= .slice p 0 cap:=by
   grind
  obtain ⟨p,cap,rfl⟩:=key;refine (YH p cap w).mono ?_;rintro e w' ⟨rfl,rfl⟩;exact ⟨_,G,I,N,rfl,om hp (by grind [VR,DR,gq])⟩
 .exact (Qo prom).2 _ _ _ _ _ hrun w G I N J5 hp h0
end Go.Proofs.YtibjocmpkoepoaaGreat
namespace Go.Proofs.YtibjocmpkoepoaaGreat
open Go.RowKit Go.Shelf Go.A1
attribute [local go_sem] Oper.semAt_some
def Yi (n i7:Nat)(A C:World):Prop:=Below n A C/\∀v,Boxed A i7 39 v->Boxed C i7 39 v
theorem Yi.refl (n i7:Nat)(A:World):Yi n i7 A A:=⟨Below.refl _ _,λ_ h=>h⟩
theorem Yi.trans {n i7:Nat}{A C i6:World}(h:Yi n i7 A C)(k:Yi n i7 C i6):Yi n i7 A i6:=⟨h.1.trans k.1,λv hv=>k.2 v (h.2 v hv)⟩
def YT (x:Nat×A3):Array Value:= #[.int .i64 (x.1:Int),.agg (A3.vals x.2).toArray]
def bkF (zs:List A3)(k:Nat):Nat×A3:=(O zs - 1 - k,zs.getD (O zs - 1 - k) default)
def mE (zs:List A3)(k:Nat):List (Nat×A3):=(List.range k).map (bkF zs)
def EX (zs:List A3)(k:Nat):mE zs (k+1)=mE zs k++[bkF zs k]:=by simp [mE,List.range_succ]
def xB (zs:List A3)(k:Nat):O (mE zs k)=k:=by simp [mE]
def Yf (f9:World)(b off:Nat)(zs:List A3):Prop:=∀j,j<O zs->∀(i:Nat) (u:Value),(A3.vals (zs.getD j default))[i]? =J u->f9.cell? ⟨b,off+j * 5+i,K⟩=J u
set_option maxRecDepth 100000 in
set_option maxHeartbeats 2000000 in
def bk1 (i4:Fence)(n:Nat)(h53:i4.fn 174)(hro:i4.round=K)(hn:1<=n)(l Bs n₀ b off cap:Nat)(zs:List A3)(Zt:O zs<=1000000)(hb:0<O zs->b<n₀)(d4 Jx:List (Nat×A3)->World->Prop)
  (hY:∀pre x f9,d4 pre f9->O pre<O zs->YieldAt i4 (n - 1) Tryz.prog l (YT x) f9 λe W' =>
   (e= .returned (.bool W)/\d4 (pre++[x]) W' /\Yi n₀ Bs f9 W')\/(e= .returned (.bool F)/\Jx (pre++[x]) W'))
  (f9:World) (hBs:Boxed f9 Bs 39 (.slice (J ⟨b,off,K⟩) (O zs) cap)) (hc:Yf f9 b off zs) (h0:d4 [] f9) :
  CallsIn i4 n Tryz.prog 174 #[.func (.yield l) #[] #[],.pointer (J ⟨Bs,0,K⟩)] f9 λe W' =>(∃v,e= .returned v) /\
   ((∃ys,ys=mE zs (O zs)/\d4 ys W')\/(∃pre,(∃k,k<=O zs/\pre=mE zs k)/\Jx pre W')):=by
 have hlen:(O zs:Int)<=9223372036854775807:=V
 have cA9:=hBs.cell;refine callsIn_of_wp Tryz.func174 rfl h53 ?_ hro;simp only [Tryz.ntmps174,List.size_toArray,p8,y9,Nat.reduceAdd,Nat.reduceSub,Array.replicate_succ,Array.replicate_zero,List.push_toArray,List.append_toArray,B3,A8]
 gi_wp2
 gi_loopw [3] (λi wr=>∃m k:Nat,m+k=O zs/\i= .int .i64 ((m:Int) - 1)/\d4 (mE zs k) wr/\Yi n₀ Bs f9 wr)
  (λi _=>(intOf i+1).toNat)
 case atStart=>exact ⟨O zs,0,rfl,rfl,h0,Yi.refl _ _ _⟩
 case round =>
  obtain ⟨m,k,hmk,rfl,hJs,hnx⟩:=hrel
  rcases m with _|m
  .have e:((0:Nat):Int) - 1= -1:=rfl
   rw [e];obtain rfl:k=O zs:=V
   gi_wp2
   go_end0
   exact ⟨⟨_,rfl⟩,.inl ⟨_,rfl,hJs⟩⟩
  .have e:((m+1:Nat):Int) - 1=m:=V
   rw [e];have hm0:(0:Int)<=(m:Int):=V
   have hml:m<O zs:=V
   obtain ⟨f,hf⟩:∃f,zs.getD m default=f:=⟨_,rfl⟩;have hbk:YT (bkF zs k)= #[.int .i64 (m:Int),.agg (A3.vals f).toArray]:=by
    have:O zs - 1 - k=m:=V
    unfold YT bkF;rw [this,hf]
   have hb1:=hb V;have XZ:∀(i:Nat) (u:Value),(A3.vals f)[i]? =J u->wr.cell? ⟨b,off+m * 5+i,K⟩=J u:=λi u hu=>(hnx.1.cell (p:=⟨b,off+m * 5+i,K⟩) hb1).trans (hc m hml i u (by rw [hf];exact hu))
   have c0:wr.cell? ⟨b,off+m * 5,K⟩=J (.int .i64 f.src.1):=XZ 0 _ rfl;have c1:wr.cell? ⟨b,off+m * 5+1,K⟩=J (.int .i64 f.src.2):=XZ 1 _ rfl;have c2:wr.cell? ⟨b,off+m * 5+2,K⟩=J (.int .i64 f.dst.1):=XZ 2 _ rfl;have c3:wr.cell? ⟨b,off+m * 5+3,K⟩=J (.int .i64 f.dst.2):=XZ 3 _ rfl;have c4:wr.cell? ⟨b,off+m * 5+4,K⟩=J (.bool f.dat):=XZ 4 _ rfl;clear XZ;have cA8 :=(hnx.2 _ hBs).cell;obtain ⟨fn,tmps,assign,body,hy,hR⟩:=hY _ (bkF zs k) wr hJs (by rw [xB];omega);rw [hbk] at hy;simp only [A3.vals] at hy;clear e
   gi_wp2
   refine hR.mono ?_;rintro e W3 (⟨rfl,hJ3,hk3⟩|⟨rfl,bU7⟩)
   .gi_wp2
    go_roundw
    case rel=>exact ⟨m,k+1,V,rfl,by rw [EX];exact hJ3,hnx.trans hk3⟩
    case measure=>simp [intOf]
   .gi_wp2
    refine bodyPost_ret (results_none rfl _ _ _) rfl ?_;exact ⟨⟨_,rfl⟩,.inr ⟨_,⟨k+1,V,by rw [EX]⟩,bU7⟩⟩
set_option maxRecDepth 100000 in
set_option maxHeartbeats 1000000 in
def Wh (i4:Fence)(n:Nat)(h53:i4.fn 174)(hro:i4.round=K)(l Bs:Nat)(a:Option Addr)(cap:Nat)(d4:List (Nat×A3)->World->Prop)(f9:World)(hBs:f9.cell? ⟨Bs,0,K⟩=J (.slice a 0 cap))(h0:d4 [] f9) :
  CallsIn i4 n Tryz.prog 174 #[.func (.yield l) #[] #[],.pointer (J ⟨Bs,0,K⟩)] f9 λe W' =>(∃v,e= .returned v)/\d4 [] W' :=by
 refine callsIn_of_wp Tryz.func174 rfl h53 ?_ hro;simp only [Tryz.ntmps174,List.size_toArray,p8,y9,Nat.reduceAdd,Nat.reduceSub,Array.replicate_succ,Array.replicate_zero,List.push_toArray,List.append_toArray,B3,A8]
 gi_wp2
 gi_loopw [3] (λi wr=>i= .int .i64 (-1)/\d4 [] wr) (λ_ _=>0)
 case atStart=>exact ⟨rfl,h0⟩
 case round =>
  obtain ⟨rfl,hJs⟩:=hrel
  gi_wp2
  go_end0
  exact ⟨⟨_,rfl⟩,hJs⟩
set_option maxHeartbeats 1000000 in
def au7 (i4:Fence)(n:Nat)(h21:i4.fn 117)(hro:i4.round=K)(a:Option Addr)(len cap:Nat)(w:World) :
  CallsIn i4 n Tryz.prog 117 #[.slice a len cap] w λe w' =>e= .returned (.func (.func 174) #[] #[.pointer (J ⟨w.heap.size,0,K⟩)])/\w' =w.alloc (.cells #[.slice a len cap] 39):=by
 refine callsIn_of_wp Tryz.func117 rfl h21 ?_ hro;simp only [Tryz.ntmps117,List.size_toArray,p8,y9,Nat.reduceAdd,Nat.reduceSub,Array.replicate_succ,Array.replicate_zero,List.push_toArray,List.append_toArray,B3,A8]
 gi_wp2
 go_ret
 exact ⟨rfl,rfl⟩
def IX (n₀:Nat)(f9:World)(sv:Value)(zs:List A3):Prop :=
 ((∃a cap,sv= .slice a 0 cap)/\zs=[])\/∃b off cap,sv= .slice (J ⟨b,off,K⟩) (O zs) cap/\(0<O zs->b<n₀)/\Yf f9 b off zs
def Qf (i4:Fence)(n:Nat)(h53:i4.fn 174)(hro:i4.round=K)(hn:1<=n)(Bs n₀:Nat)(sv:Value)(zs:List A3)(Zt:O zs<=1000000)(w:World)(hB1:Bs<w.heap.size)(hn₀:n₀<=w.heap.size)
  (hc:Boxed w Bs 39 sv) (hI:IX n₀ w sv zs) :
  SeqStopsK i4 n Tryz.prog 174 #[.pointer (J ⟨Bs,0,K⟩)] YT (Yi n₀ Bs) (λys=>ys=mE zs (O zs))
   (λpre=>∃k,k<=O zs/\pre=mE zs k) (O zs) w:=λl d4 Jx f9 hW _ _ hY h0=>by
 have wH :Boxed f9 Bs 39 sv:=(hW.block Bs V).trans hc
 rcases hI with ⟨⟨a,cap,rfl⟩,rfl⟩|⟨b,off,cap,rfl,hb,hcs⟩
 .exact (Wh i4 n h53 hro l Bs a cap d4 f9 wH.cell h0).mono λe W' ⟨he,hj⟩=>⟨he,.inl ⟨_,rfl,hj⟩⟩
 .exact bk1 i4 n h53 hro hn l Bs n₀ b off cap zs Zt hb d4 Jx hY f9 wH (λj hj i u hu=>(hW.cell (p:=⟨b,off+j * 5+i,K⟩) (by have:=hb V;show b<_;omega)).trans (hcs j hj i u hu)) h0
def Yu (w:World)(cs:Array Value)(t:TypeId){k:Nat}(hk:k=w.heap.size):∀j u,cs.toList[j]? =J u->(w.alloc (.cells cs t)).cell? ((⟨k,0,K⟩:Addr).add j)=J u:=by
 intro j u hj;subst hk;have h:=heap_alloc_new w (.cells cs t);have e:(w.alloc (.cells cs t)).cell? ⟨w.heap.size,0+j,K⟩=cs[0+j]? :=by
  unfold World.cell?;rw [h];rfl
 have e2:(⟨w.heap.size,0,K⟩:Addr).add j=⟨w.heap.size,0+j,K⟩:=by
  unfold Addr.add;split
  next h0=>
   rw [h0]
  .rfl
 rw [e2,e,Nat.zero_add];simpa using hj
theorem aV4:(Tryz.prog.info? 46).map (λi=>(i.zero,i.size,i.bytes))=J (J (.agg #[.int .i64 0,.int .i64 0,.int .i64 0,.int .i64 0,.bool F]),5,40):=by kernel_rfl
def af8 (pre:List (Nat×A3)):List Value:=pre.flatMap λx=>A3.vals x.2.rev
def af9 (zs:List A3):af8 (mE zs (O zs))=(zs.map A3.rev).reverse.flatMap A3.vals:=by
 have e:(mE zs (O zs)).map (λx=>x.2.rev)=(zs.map A3.rev).reverse:=by
  apply List.ext_getElem?;intro i
  rcases A5 i (O zs) with hi|hi
  .rw [List.getElem?_reverse (by simpa using hi)]
   have h1:O zs - 1 - i<O zs:=V
   simp only [mE,bkF,List.map_map,List.getElem?_map,List.getElem?_range hi,O9,A7,o6 h1,Function.comp,List.getD_eq_getElem?_getD,Option.getD_some]
  .rw [List.getElem?_eq_none (by simp [mE];exact hi),List.getElem?_eq_none (by simp;exact hi)]
 rw [<- e];unfold af8;rw [List.flatMap_map]
def AtF (w:World)(sv:Value)(x:Nat×A3)(a:Act)(f9:World):Prop:=∃q:Nat,f9.heap[q]? =J (.cells (A3.vals x.2).toArray 46 (0,0)) /\
 a={ tmps:= #[sv,undef,.slice K 0 0,.pointer (J ⟨w.heap.size,0,K⟩),undef,.pointer (J ⟨q,0,K⟩),sv,.func (.func 174) #[] #[.pointer (J ⟨w.heap.size+1,0,K⟩)],.int .i64 (x.1:Int),.agg (A3.vals x.2).toArray,undef,undef,undef,undef,undef,undef,undef,undef,undef,undef,undef],defers:=[] }
def au6 (w:World)(sv:Value)(x:Nat×A3)(a:Act)(i7:Nat):OwnFrom i7 (λ(_:Unit) f9=>AtF w sv x a f9):=λ_ X d8 row ⟨q,hq,ha⟩ hg hrow=>by
 refine ⟨q,(hg.block q ?_ λe=>?_).trans hq,ha⟩
 .rcases A5 q X.heap.size with h|h
  .exact h
  .rw [Array.getElem?_eq_none h] at hq;cases hq
 .obtain ⟨_,o,ho,hc⟩:=hrow q e.symm
  rw [hq] at ho;cases ho;cases hc
set_option maxRecDepth 100000 in
set_option maxHeartbeats 4000000 in
theorem Gs (w:World)(sa:Option Addr)(sc:Nat)(zs:List A3)(hlen:O zs<=1000000)(hI:IX w.heap.size w (.slice sa (O zs) sc) zs) :
  Calls Tryz.prog 62 #[.slice sa (O zs) sc] w λe w' =>∃v,e= .returned v/\w'.ownsRow w.heap.size 46 5 v (O zs) ((zs.map A3.rev).reverse.flatMap A3.vals)/\Below w.heap.size w w' :=by
 obtain ⟨i0,hi,hz0,hz1,hz2⟩:=info_parts aV4;refine (callsIn_wide (n:=68)).1 ?_;refine callsIn_of_wp_marks Tryz.func62 rfl trivial ?_ rfl;simp only [Tryz.ntmps62,List.size_toArray,p8,y9,Nat.reduceAdd,Nat.reduceSub,Array.replicate_succ,Array.replicate_zero,List.push_toArray,List.append_toArray,B3,A8]
 gi_wp2_with (refine ⟨trivial,?_⟩;gi_at_call 117;refine (au7 Fence.wide 67 trivial rfl _ _ _ _).mono ?_;rintro e W2 ⟨rfl,rfl⟩)
 have bO:=Boxed.new w 39 (.slice K 0 0);have bN:=Boxed.new (w.alloc (.cells #[.slice K 0 0] 39)) 39 (.slice sa (O zs) sc);rw [World.size_alloc] at bN;have hB0:Below w.heap.size w ((w.alloc (.cells #[.slice K 0 0] 39)).alloc (.cells #[.slice sa (O zs) sc] 39)):=((Below.refl _ w).alloc (l6 _) _).alloc U _;have hI' :IX w.heap.size ((w.alloc (.cells #[.slice K 0 0] 39)).alloc (.cells #[.slice sa (O zs) sc] 39)) (.slice sa (O zs) sc) zs:=by
  rcases hI with h|⟨b,off,cap,e,hb,hc⟩
  .exact .inl h
  .exact .inr ⟨b,off,cap,e,hb,λj hj i u hu=>(hB0.cell (p:=⟨b,off+j * 5+i,K⟩) (by have:=hb V;show b<_;omega)).trans (hc j hj i u hu)⟩
 obtain ⟨sv,hsv⟩:∃sv,Value.slice sa (O zs) sc=sv:=⟨_,rfl⟩;rw [hsv] at bN hB0 hI' ⊢;obtain ⟨W2,hW2⟩:∃W2,((w.alloc (.cells #[.slice K 0 0] 39)).alloc (.cells #[sv] 39))=W2:=⟨_,rfl⟩;have hs2:W2.heap.size=w.heap.size+2:=by rw [<- hW2];simp
 have bO:=bO.alloc (.cells #[sv] 39);rw [hW2] at bN hB0 hI' bO ⊢;refine wpIn_rangeFunc_ownH rfl (by decide) (gf:=174) (lb:= #[.pointer (J ⟨w.heap.size+1,0,K⟩)]) rfl trivial (enters_of Tryz.func174 (by kernel_rfl) rfl)
  (Qf Fence.wide 67 trivial rfl (by decide) (w.heap.size+1) w.heap.size sv zs hlen W2 V V bN hI') Yi.trans ?hKb (Below.refl _ _) (λ_=>rfl)
  (λpre f9=>(∃v,Boxed f9 w.heap.size 39 v/\f9.ownsRow w.heap.size 46 5 v (O pre) (af8 pre)/\True)/\Below w.heap.size w f9/\Boxed f9 (w.heap.size+1) 39 sv)
  (λ_ _ _=>False)
  (OwnFrom.and (Own.from (holdsRow_own w.heap.size w.heap.size 39 46 5 (λpre:List (Nat×A3)=>O pre) af8 (λ_ _=>True)) _) (OwnFrom.and (ownFrom_below (l6 _) V) (Own.from (boxed_own (w.heap.size+1) 39 (λ_=>sv)) _)))
  (λ_ _ _ _ _ hs _ _=>hs)
  ⟨⟨_,bO,World.ownsRow_nil _ _ _ _,trivial⟩,hB0,bN⟩
  (AtF w sv) (λx a' =>au6 w sv x a' _) ?assign ?body ?done ?stop
 case hKb =>
  intro f9 l o o' hl _ _ _;have hlt:l<f9.heap.size:=by
   rename_i ho _ _;exact (Array.getElem?_eq_some_iff.1 ho).1
  exact ⟨(Below.refl _ f9).grown (grownBy_putObj' f9 l o') V λk e=>by cases e;omega,λv hv=>hv.kept (grownBy_putObj' f9 l o') λe=>by cases e;omega⟩
 case assign =>
  intro l pre x f9 d5 hI2 hK;unfold YT;simp only [A3.vals]
  gi_wp2
  obtain ⟨⟨v,hv,hrow,_⟩,hB,hBs⟩:=hI2;refine hK _ _ ((KeepsOthers.alloc f9 _).from _) ⟨(Below.refl _ f9).alloc hB.size _,λv hv=>hv.alloc _⟩ ⟨⟨v,hv.alloc _,hrow.alloc _,trivial⟩,hB.alloc hB.size _,hBs.alloc _⟩ ⟨f9.heap.size,heap_alloc_new _ _,rfl⟩
 case body =>
  rintro l pre x a' f9 hl hr ⟨⟨v,hv,hrow,_⟩,hB,hBs⟩ ⟨q,hq,rfl⟩ hlt;have hc:=hv.cell;have q0:f9.cell? ⟨q,0,K⟩=J (.int .i64 x.2.src.1):=by simp [World.cell?,hq,A3.vals]
  have q1:f9.cell? ⟨q,1,K⟩=J (.int .i64 x.2.src.2):=by simp [World.cell?,hq,A3.vals]
  have q2:f9.cell? ⟨q,2,K⟩=J (.int .i64 x.2.dst.1):=by simp [World.cell?,hq,A3.vals]
  have q3:f9.cell? ⟨q,3,K⟩=J (.int .i64 x.2.dst.2):=by simp [World.cell?,hq,A3.vals]
  have q4:f9.cell? ⟨q,4,K⟩=J (.bool x.2.dat):=by simp [World.cell?,hq,A3.vals]
  gi_wp2_with (gi_at_builtin;go_loud (refine wpListIn_append_own _ rfl _ _ 39 rfl w.heap.size 46 i0 _ 5 40 Tryz.underlying39 hi hz0 hz1 hz2 rfl (by decide) _ _ _ rfl (hrow.alloc _) ⟨f9.heap.size,0,K⟩ 1 1 (A3.vals x.2.rev) rfl rfl (Yu _ _ _ rfl) (by simp [Value.oneCell',A3.vals]) (by simp [maxLen];omega) V (by have:=hB.size;simp;omega) ?_;intro v' w1 hown' hgrow _;obtain ⟨g',cap',rfl⟩:=ownsRow_succ hown';obtain ⟨hv1,hv2,hr2,hk2,hb2⟩:=hv.appended (by decide) hrow hB.size (l6 _) hown' hgrow;have hc1:=hv1.cell;have hf1:=hv1.frozen))
  have hk:∀u,Boxed f9 (w.heap.size+1) 39 u->Boxed (w1.setCell ⟨w.heap.size,0,K⟩ (.slice (J ⟨g',0,K⟩) (O pre+1) cap')) (w.heap.size+1) 39 u:=λu hu=>((hu.alloc _).kept hgrow (hu.not_row (by decide) hrow)).other V _
  exact ⟨hk2.from _,⟨hb2,hk⟩,⟨_,hv2,by simpa [af8] using hr2,trivial⟩,hB.trans hb2,hk _ hBs⟩
 case done =>
  rintro i6 ys f9 hD rfl ⟨⟨v,hv,hrow,_⟩,hB,_⟩ hK;have hc:=hv.cell;rw [xB,af9] at hrow
  gi_wp2
  refine ⟨U,.inl ⟨_,_,rfl,run_takeDeferred hK,?_⟩⟩;exact ⟨_,results_tmp rfl _ _ _,v,rfl,ownsRow_putObj hrow _ hK rfl,hB.grown (grownBy_putObj' f9 i6 _) hB.size λk e=>by cases e;omega⟩
 case stop =>
  rintro i6 c pre f9 _ _ h _;exact h.elim
end Go.Proofs.YtibjocmpkoepoaaGreat
namespace Go.Proofs.YtibjocmpkoepoaaGreat
open Go.RowKit Go.A1
def al4 (fs:List A3):∀(j i:Nat) (u:Value),j<O fs->(A3.vals (fs.getD j default))[i]? =J u->(fs.flatMap A3.vals)[j * 5+i]? =J u:=by
 induction fs with
 |nil=>simp_all
 |cons f fs ih =>
  intro j i u hj hu;cases j with
  |zero =>
   grind
  |succ j =>
   simp_all [A3.vals]<;>grind
def Wq (fs:List A3){j:Nat}{u:Value}(h:(fs.flatMap A3.vals)[j]? =J u):∃d,(fs.flatMap A3.enc)[j]? =J d/\zh d=J u:=by
 have hj:j<O (fs.flatMap A3.enc):=by
  grind [y5,tf,tg]
 exact ⟨_,o6 hj,nM fs j _ u (o6 hj) h⟩
theorem RN (fs:List A3){j:Nat}{d:A1.Data}(h:(fs.flatMap A3.enc)[j]? =J d):∃u,(fs.flatMap A3.vals)[j]? =J u/\zh d=J u:=by
 have hj:j<O (fs.flatMap A3.vals):=by
  grind [y5,tg,tf]
 exact ⟨_,o6 hj,nM fs j d _ h (o6 hj)⟩
def Eg {prom:FuncId->Bool}{l:I7}{H:q6}{w:World}{G:Gh}{I:U3}{N:Nat->Prop}{args:List c8}{J5:Array Value}(hp:Cn l H w G I N args J5)(sa:Option Addr)(sc:Nat)(fs:List A3)(hlen:O fs<=1000000)(hI:IX w.heap.size w (.slice sa (O fs) sc) fs) :
  Calls Tryz.prog 62 #[.slice sa (O fs) sc] w λe w' =>∃x G' I' N',e= .returned x/\nq l H w G I N (.own 5 (O fs) ((fs.map A3.rev).reverse.flatMap A3.enc)) H x w' G' I' N' :=by
 refine (Gs w sa sc fs hlen hI).mono ?_;rintro e w' ⟨v,rfl,hown,hB⟩;obtain ⟨G',hG,hwf',hv'⟩:=JY (I:=I) (N:=N) (cs:=(fs.map A3.rev).reverse.flatMap A3.enc) hown hB hp.wf ⟨by rw [tf,tg],λj c hj=>by
  grind [RN,tA]⟩
 exact ⟨_,G',I,N,rfl,kK hp hB hG hwf' hv'⟩
theorem bb3 (prom:FuncId->Bool):cL Tryz.prog prom 62 aB6:=by
 refine ⟨by kernel_rfl,λargs H l v H1 hrun w G I N J5 hp _=>?_⟩;unfold aB6 at hrun;split at hrun
 .split at hrun
  next n cs hrow=>
   split at hrun
   next fs BO=>
    split at hrun
    next hn=>
     cases hrun;obtain ⟨rfl,hn⟩:=hn;have hcs:=pn _ _ _ (l6 _) BO;subst hcs;obtain ⟨y,rfl,hy⟩:=kJ hp.args
     rcases rN hp.hr hrow hy with ⟨h0,_,hv⟩|⟨b,off,c,news,rfl,_,hl,hc,hd⟩
     .have hf0:fs=[]:=List.length_eq_zero_iff.1 h0
      subst hf0
      rcases hv with rfl|⟨a,rfl⟩
      .exact Eg (prom:=prom) hp K 0 [] hn (.inl ⟨⟨_,_,rfl⟩,rfl⟩)
      .exact Eg (prom:=prom) hp (J a) 0 [] hn (.inl ⟨⟨_,_,rfl⟩,rfl⟩)
     .have hnews:∀(j:Nat) (u:Value),(fs.flatMap A3.vals)[j]? =J u->news[j]? =J u:=λj u hu=>by
       obtain ⟨d,d1,d2⟩:=Wq fs hu;obtain ⟨u',u1,u2⟩:=hd.2 j d d1;simp_all [tA]
      have hcell:Yf w b off fs:=λj hj i u hu=>by
       have:=hc _ _ (hnews _ _ (al4 fs j i u hj hu))
       grind
      refine Eg (prom:=prom) hp (J (ad b off)) c fs hn (.inr ⟨b,off,c,rfl,λh0=>?_,hcell⟩);have:=hcell 0 h0 0 _ rfl
      grind [A5,World.cell?,Array.getElem?_eq_none]
    .cases hrun
   .cases hrun
  .cases hrun
 .cases hrun
end Go.Proofs.YtibjocmpkoepoaaGreat
namespace Go.Proofs.YtibjocmpkoepoaaGreat
open Go.RowKit Go.Lib
theorem az1:(Tryz.prog.info? 46).map (λi=>(i.zero,i.size,i.bytes))=J (J (.agg #[.int .i64 0,.int .i64 0,.int .i64 0,.int .i64 0,.bool F]),5,40):=by kernel_rfl
set_option maxRecDepth 100000 in
set_option maxHeartbeats 2000000 in
def av0 (ad:Addr)(n c:Nat)(news:List Value)(w:World)(hl:O news=n * 5)(hn:n<=1000000)(hc:∀(j:Nat) (u:Value),news[j]? =J u->w.cell? (ad.add j)=J u)(h1:∀u∈news,u.oneCell' =W) :
  Calls Tryz.prog 59 #[.slice (J ad) n c] w λe w' =>∃v',e= .returned v' /\w'.ownsRow w.heap.size 46 5 v' n news/\Below w.heap.size w w' :=by
 obtain ⟨i0,hi,hz0,hz1,hz2⟩:=info_parts az1;have q:∀(w:World) (a:Option Addr) (n c n' c' :Nat),(binOp .eql 39 (.slice a n c) (.slice K n' c')).run Tryz.prog w= .ok (.bool a.isNone) w:=λw a n c n' c' =>Lib.run_eql_slice_nil w _ _ a n c n' c' Tryz.underlying39
 refine (callsIn_wide (n:=68)).1 ?_;refine callsIn_of_wp Tryz.func59 rfl trivial ?_ rfl;simp only [Tryz.ntmps59,List.size_toArray,p8,y9,Nat.reduceAdd,Nat.reduceSub,Array.replicate_succ,Array.replicate_zero,List.push_toArray,List.append_toArray,B3,A8]
 gi_wp2_with (gi_at_builtin;refine wpListIn_append_own _ rfl _ _ 39 rfl w.heap.size 46 i0 (.agg #[.int .i64 0,.int .i64 0,.int .i64 0,.int .i64 0,.bool F]) 5 40 Tryz.underlying39 hi hz0 hz1 hz2 rfl (by decide) _ _ _ rfl (World.ownsRow_made w #[] 0 (l6 _) (O0 _) rfl) ad n c news rfl hl ?qc2 h1 ?qc4 ?qc5 ?qc6 ?_)
 case qc2 =>
  intro j u hj;exact Lib.cell?_alloc_some _ (hc j u hj)
 case qc4=>unfold maxLen;omega
 case qc5=>omega
 case qc6=>simp
 intro v' w1 hown hgrow hnil
 gi_wp2
 exact ⟨rfl,_,results_tmp rfl _ _ _,v',rfl,by simpa using hown,((Below.refl _ w).alloc (l6 _) _).grown hgrow U (by intro k hk;simp [Value.ownBlock] at hk;omega)⟩
set_option maxRecDepth 100000 in
set_option maxHeartbeats 2000000 in
def LH (n c:Nat)(w:World):Calls Tryz.prog 59 #[.slice K n c] w λe w' =>e= .returned (.slice K 0 0)/\w' =w:=by
 have q:∀(w:World) (a:Option Addr) (n c n' c' :Nat),(binOp .eql 39 (.slice a n c) (.slice K n' c')).run Tryz.prog w= .ok (.bool a.isNone) w:=λw a n c n' c' =>Lib.run_eql_slice_nil w _ _ a n c n' c' Tryz.underlying39
 refine (callsIn_wide (n:=68)).1 ?_;refine callsIn_of_wp Tryz.func59 rfl trivial ?_ rfl;simp only [Tryz.ntmps59,List.size_toArray,p8,y9,Nat.reduceAdd,Nat.reduceSub,Array.replicate_succ,Array.replicate_zero,List.push_toArray,List.append_toArray,B3,A8]
 gi_wp2
 exact ⟨rfl,_,results_tmp rfl _ _ _,rfl,rfl⟩
end Go.Proofs.YtibjocmpkoepoaaGreat
namespace Go.A1.S
section
variable {A:Prog} {l:I7} {b:Nat} {dr:Bool} {l5 ops:List p7} {T:List c8} {H:q6} {n:Nat} {rl:List c8} {o9:List Touch} {Q:List c8->q6->List c8->Prop}
def nlp {x:y7}{u:List Nat}{neg:Bool}{m:Nat}{cs:List Data}(hm:0<m)(h2:Ry A l b dr l5 ops T H (n+1) (.d (.bool neg)::rl) o9 Q)(hx:rq T n rl x= .d (.slice m cs):=by rfl) :
  Ry A l b dr l5 (⟨.DS neg x,K,K,u⟩::ops) T H n rl o9 Q :=
 Ry.pure (rs:=[]) rfl (by
  have h1:¬ m=0:=V
  simp [o7,hx,h1]) h2
end
end Go.A1.S
namespace Go.Proofs.YtibjocmpkoepoaaGreat
open Go.A1 Go.A1.S
attribute [local irreducible] Rx Ry Rn Ex Pf
def AC:Prog:=⟨λf=>if f=59 then A.fn 59 else K,λ_=>F,A.mode,λ_=>K⟩
theorem bj4:qH Tryz.prog AC where
 idle _ h:=by cases h
 cM _ _ h:=by cases h
 fn f af _ h:=by
  have h2:(A.fn 59).all (jX Tryz.prog Tryz.f59)=W:=by kernel_rfl
  simp only [AC] at h;split at h
  next hf=>
   subst hf;rw [h] at h2;exact ⟨_,Tryz.func59,h2⟩
  .cases h
set_option maxHeartbeats 4000000 in
def bR4 (a b:List c8)(h0:K6 2 a=a)(h1:K6 2 b=b)(k:Nat)(cs:List A1.Data)(hl:O cs=k * 5)(hn:k<=1000000)(hp:0<k):Pm AC 59 [.d (.slice k cs)] [.cells a,.cells b] W8 (.B8 2 5 0 k) [.cells a,.cells b,.cells (cs.map .d)]:=by
 suffices h:Pq AC 59 [.d (.slice k cs)] [.cells a,.cells b] W8 λv H1=>v= .B8 2 5 0 k/\H1=[.cells a,.cells b,.cells (cs.map .d)] by
  obtain ⟨v,H1,⟨rfl,rfl⟩,h⟩:=h;exact h
 refine Pq.go 1 ?_
 repeat' (first|refine mn (h2:=?_)|refine gx ?_|fail)
 refine tB (F) ?_ (λh=>?_) (λh=>?_)
 .repeat' (first|refine nlp hp ?_|refine gx ?_|refine fq (λhw=>?_) λhw=>?_|refine ⟨rfl,rfl,_,rfl,?_⟩|refine ⟨rfl,rfl⟩|fail)
  all_goals exact cc
 .cases h
 have hr:roomFor (0+k) 40=W:=by simp [roomFor];omega
 have hc:Q3 [.cells a,.cells b,.cells []] 5 (.d (.slice k cs))=J (k,cs.map .d):=by
  simp only [Q3];rw [if_pos hl]
 repeat' (first|refine bso [] rfl ⟨by decide,rfl⟩ (h2:=?_)|refine gx ?_|fail)
 refine apo (sz:=5) (id:=2) (len:=0) (m:=k) (old:=[]) (H:=[.cells a,.cells b,.cells []]) (T:=[.d (.slice k cs),.P9]) (T2:=[.d (.slice k cs),.P9]) (rl2:=[.d (.slice k cs),.any]) (H2:=[.cells (K6 2 a),.cells (K6 2 b),.cells (cs.map .d)]) (k2:=k) hr hc (by rfl) ?_ ?_ (hk2:=V) (h2:=?_)
 .simp [c8.one]
 .exact uK _
 refine gr ?_;exact ⟨_,_,rfl,rfl,by rw [h0,h1]⟩
theorem bb2 (prom:FuncId->Bool):cL Tryz.prog prom 59 pCl:=by
 have hc:cL Tryz.prog prom 59 (Rb 5):=Qn (by kernel_rfl) av0 LH;refine ⟨hc.1,λargs H l v H1 hrun w G I N J5 hp hb=>?_⟩;unfold pCl at hrun;split at hrun
 .cases hrun
  exact hc.2 _ _ l _ _ rfl w G I N J5 hp hb
 next n cs a b=>
  split at hrun
  next h=>
   cases hrun;obtain ⟨i5,hM⟩:=bR4 a b (yo 2 a h.2.2.1) (yo 2 b h.2.2.2) (n+1) cs h.1 V V;exact (oR bj4 i5).1 59 _ _ _ _ _ (hM i5 (l6 _)) w G I N J5 hp (λh=>by cases h)
  .cases hrun
 .cases hrun
end Go.Proofs.YtibjocmpkoepoaaGreat
namespace Go.Proofs.YtibjocmpkoepoaaGreat
open Go.A1
def aQ8:qH Tryz.prog A:=bI6 (λf p h=>by
 revert h;unfold A;simp only;split
 .rename_i h;rintro h2;cases h2;subst h;exact aC3 _
 .split
  .rename_i h;rintro h2;cases h2;subst h;exact aC2 _
  .split
   .rename_i h;rintro h2;cases h2;subst h;exact aB9 _
   .split
    .rename_i h;rintro h2;cases h2;subst h;exact aC1 _
    .split
     .rename_i h;rintro h2;cases h2;subst h;exact bb4 _
     .split
      .rename_i h;rintro h2;cases h2;subst h;exact bb3 _
      .split
       .rename_i h;rintro h2;cases h2;subst h;exact aC0 _
       .split
        .rename_i h;rintro h2;cases h2;subst h;exact bb2 _
        .rintro h2;cases h2)
end Go.Proofs.YtibjocmpkoepoaaGreat


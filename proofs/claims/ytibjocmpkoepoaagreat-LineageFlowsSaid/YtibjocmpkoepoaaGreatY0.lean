import Derived.Sort.Grow
import Derived.Deep.Draws
import Derived.Lib.SlicesCompact
import Derived.Shelf.GgSortFunc.RowK
import Derived.Test.YtibjocmpkoepoaaGreatAbs
import Derived.Test.YtibjocmpkoepoaaGreatShelf
import Derived.Sort.MapsRangeIn
import Derived.Maps.AppendAt
import Derived.Maps.RangeRun
import Derived.OwnWalkIn
import Derived.TacticsInMore
import Derived.RegionIn
import Derived.LoopNIn
import Derived.LoopIn
import Derived.Laws.OwnMore
import Derived.Lib.Walk
import Derived.Lib.SliceRun
import Derived.Lib.AppendZerosOnto
import Derived.RangeFuncNested
import Derived.RangeFuncBound
import Derived.RangeFuncCalls
import Derived.RangeFuncBox
import Derived.RangeFuncLeaves
import Derived.RangeFuncWrites
import Derived.Shelf.Abstract
set_option linter.all false
open Bool renaming and_eq_true → c7
open List renaming append_assoc → D2, cons_append → F8, drop_of_length_le → l6, getElem?_append_left → A8, getElem?_append_right → u9, getElem?_eq_getElem → n9, getElem?_set_ne → B5, getElem?_set_self → L0, length_append → k9, length_cons → p8, length_map → B9, length_nil → y8, map_cons → L8, mem_cons → B8, nil_append → E0, replicate → c9
open Nat renaming add_assoc → M6, le_of_ble_eq_true → j5, le_refl → n5, le_trans → F9, lt_or_ge → A5
open Option renaming map_some → M7
namespace Go.A2
open Go.Sort
def ab9 {w w' :World}(h1:w'.os=w.os)(h2:w'.tape=w.tape)(h3:w'.output=w.output)(h4:w.heap.size<=w'.heap.size)(h5:∀ b,b<w.heap.size->w'.heap[b]? =w.heap[b]?)(h6:w.drawn<=w'.drawn):∃ q os,w' =grow (w.drewN q) os:=by
 refine ⟨w'.drawn - w.drawn,w'.heap.extract w.heap.size w'.heap.size,?_⟩;obtain ⟨hp,tp,dr,os,out⟩:=w';have e:w.heap++hp.extract w.heap.size hp.size=hp:=by
  grind
 simp_all [grow,World.drewN]
section
variable [C9]
def Ni (hD:C9.on){P:Program}{A:Prog}(h:oS P A){n:Nat}{f:FuncId}{args:List c8}{I4:Array Value}{w:World}{v:c8}(hc:call A n f args [] an=some (v,[]))
  (hargs:J4 (G0 w) (fun _=>(0,0)) (fun _=>False) w args I4.toList):Calls P f I4 w fun e w' =>∃ (x:Value) (G' :Gh) (I' :S7) (N' :Nat->Prop),e= .returned x/\VR G' I' N' w' .ret v x/\∃ q os,w' =grow (w.drewN q) os:=by
 have hpre:Ak an [] w (G0 w) (fun _=>(0,0)) (fun _=>False) args I4:=by
  refine ⟨hargs,?_,?_,?_,?_,n5 _,n5 _,?_,fun _ b n pl hb=>by grind [G0]⟩
  .intro id o ho;simp at ho
  .intro b hb;simp_all [G0,if_neg]
  .simp_all
  .intro id o ho;simp at ho
  grind [G0]
 refine Calls.mono ((nE h n).1 f args [] an _ _ hc w _ _ _ I4 hpre (fun _=>rfl)) ?_;rintro e w' ⟨x,G',I',N',rfl,hp⟩;refine ⟨x,G',I',N',rfl,hp.val,ab9 hp.ext.os hp.ext.tape hp.ext.output hp.ext.size (fun b hb=>(hp.ext.still b (Or.inl ?_)).2) (hp.ext.drawn hD)⟩;simp_all [G0,if_pos]
end
end Go.A2
namespace Go.A2
open Go.Sort
structure UM (w w' :World)(blk off:Nat)(us:List Value):Prop where
 os:w'.os=w.os
 tape:w'.tape=w.tape
 output:w'.output=w.output
 size:w.heap.size<=w'.heap.size
 other:∀ b:Nat,b<w.heap.size->b≠blk->w'.heap[b]? =w.heap[b]?
 here:∀ (c:Array Value) (e:TypeId) (f:Nat×Nat),w.heap[blk]? =some (.cells c e f)->∃ c' :Array Value,w'.heap[blk]? =some (.cells c' e f)/\c'.size=c.size /\
  (∀ k:Nat,(k<off\/off+us.length<=k)->c'[k]? =c[k]?)/\∀ (j:Nat) (u:Value),off+j<c.size->us[j]? =some u->c'[off+j]? =some u
def oc {α:Type} [Inhabited α] (enc:α->Value)(w:World)(n blk off:Nat)(ys:List α)(os:Array Obj):UM w (grow (putRow enc (Sort.ahead w n) blk off ys.toArray) os) blk off (ys.map enc) where
 os:=rfl
 tape:=rfl
 output:=rfl
 size:=by simp_all
 other b hb hne:=by
  have:b<(w.heap.modify blk (onCells (putCells enc off ys.toArray))).size:=by simp_all
  show (w.heap.modify blk (onCells (putCells enc off ys.toArray))++os)[b]? =_
  grind
 here c e f hc:=by
  have hb:blk<w.heap.size:=by
   grind
  have:blk<(w.heap.modify blk (onCells (putCells enc off ys.toArray))).size:=by simp_all
  refine ⟨putCells enc off ys.toArray c,?_,by simp [putCells],fun k hk=> ?_,fun j u hj hu=> ?_⟩
  .show (w.heap.modify blk (onCells (putCells enc off ys.toArray))++os)[blk]? =_
   rw [Array.getElem?_append_left this,Array.getElem?_modify,if_pos rfl,hc];rfl
  .grind [putCells]
  .grind [putCells]
def NB (n:Int):c8:= .d (.int .i64 n)
theorem Ea:∀ ys:List Int,C5 (ys.map NB)=0
 |[]=>rfl
 |y::ys=>by simp [L8,C5,Ea ys,NB];rfl
def MW (old:List c8)(lo:Nat)(az:List c8)(h:C5 az=0):C5 (splice old lo az)<=C5 old:=by
 grind [wv,wu,splice,iu]
def EN {l:H7}{H:p9}{w w' :World}{G:Gh}{I:S7}{N:Nat->Prop}{args:List c8}{I4:Array Value}(hp:Ak l H w G I N args I4){id lo:Nat}{old az:List c8}{us:List Value}(ya:az.length=us.length)(hab:C5 az=0)(hau:∀ (j:Nat) (a:c8) (u:Value),az[j]? =some a->us[j]? =some u->∀ G I N w p,VR G I N w p a u)
  (ho:H[id]? =some (.cells old)) (hlo:lo+us.length<=old.length) (hm:l.may id=true) (hr:UM w w' (I id).1 ((I id).2+lo) us) {v:c8} {x:Value} (hv:VR G I N w' .ret v x) :
  lY l H w G I N v (H.set id (.cells (splice old lo az))) x w' G I N:=by
 have hO:=hp.hr id _ ho;simp only [OR] at hO;obtain ⟨hN,c,e,f,h1,h2,h3,h4,h5⟩:=hO;obtain ⟨c',g1,g2,g3,g4⟩:=hr.here c e f h1;have hlt:∀ b:Nat,G b≠ .free->b<w.heap.size:=fun b hb=>by
  rcases A5 b w.heap.size with h|h
  .exact h
  .exact absurd (hp.wf b h) hb
 have Ny:Ext G w G w' :=by
  refine ⟨hr.os,hr.tape,hr.output,fun h=>h.elim,hr.size,fun b o hi=>⟨hi,?_⟩,fun b hb=>⟨rfl,?_⟩,fun b c0 e0 f0 hc0=> ?_⟩
  .have hne:b≠(I id).1:=by grind [jv]
   have hb:G b≠ .free:=fun h=>by simp_all [jv]
   simp only [World.cell?,hr.other b (hlt b hb) hne]
  .have hne:b≠(I id).1:=by grind
   exact hr.other b (hlt b (fun h=>by simp_all)) hne
  .by_cases hne:b=(I id).1
   .simp_all
   .rw [hr.other b ?_ hne]
    all_goals grind
 have hkeep:∀ q,bZ q G w G w' :=fun q b n hb=>⟨hb,hr.other b (hlt b (fun h=>by simp_all)) (by grind)⟩
 have ad1:∀ (b i:Nat),i≠id->G b= .obj i->G b= .obj i/\w'.heap[b]? =w.heap[b]? :=fun b i hi hb=>⟨hb,hr.other b (hlt b (fun h=>by simp_all)) (by grind)⟩
 have ax9:id<H.length:=u7 ho;have tr:∀ (i:Nat) (o' :A1),(H.set id (.cells (splice old lo az)))[i]? =some o' ->∃ o:A1,H[i]? =some o/\o'.O5<=o.O5:=fun i o' hi=>by
  by_cases he:i=id
  .subst he
   rw [L0 ax9] at hi;cases hi;exact ⟨_,ho,MW old lo az hab⟩
  grind
 refine ⟨hv,?_,?_,Ny,fun i hi=>⟨fun b hb=>ad1 b i (by grind) hb,fun off=>hkeep _⟩,fun _ _ _=>rfl,fun _ h=>h,fun _ _ h=>h,fun i hi=>by simpa using hp.bI i hi,fun i o' _ hi=>Or.inr (tr i o' hi),fun i o' hi=> ?_⟩
 .intro i o hi
  by_cases he:i=id
  .subst he
   rw [L0 ax9] at hi;cases hi;simp only [OR];refine ⟨hN,c',e,f,g1,h2,by simp_all,?_,fun j a hj=> ?_⟩
   .grind [splice,k9,List.length_take,B9,List.length_drop]
   .rcases A5 j lo with hj1|hj1
    .have hj2:old[j]? =some a:=by
      rw [<- hj,splice,D2,A8 (by simp;omega),List.getElem?_take,if_pos hj1]
     obtain ⟨u,u1,u2⟩:=h5 j a hj2;exact ⟨u,by rw [g3 _ (by omega)];exact u1,VR.mono Ny (fun _ _=>rfl) (fun _ h=>h) _ _ _ (Or.inr (hkeep _)) u2⟩
    rcases A5 j (lo+us.length) with hj2|hj2
    .have hj3:az[j - lo]? =some a:=by
      rw [<- hj,splice,A8 (by simp;omega),u9 (by simp;omega)]
      congr 1
      simp;omega
     have hj4:j - lo<us.length:=by omega
     refine ⟨us[j - lo],?_,hau _ _ _ hj3 (n9 hj4) _ _ _ _ _⟩;rw [show (I i).2+j=(I i).2+lo+(j - lo) by omega];exact g4 _ _ (by omega) (n9 hj4)
    .have hj3:old[j]? =some a:=by
      rw [<- hj,splice,u9 (by simp;omega),List.getElem?_drop]
      congr 1
      simp;omega
     obtain ⟨u,u1,u2⟩:=h5 j a hj3;exact ⟨u,by rw [g3 _ (by omega)];exact u1,VR.mono Ny (fun _ _=>rfl) (fun _ h=>h) _ _ _ (Or.inr (hkeep _)) u2⟩
  .rw [B5 (fun e=>he e.symm)] at hi
   exact OR.mono Ny (fun _ _=>rfl) (fun _ h=>h) i o (fun h=>ad1 _ i he h) (fun off=>hkeep _) (hp.hr i o hi)
 .intro b hb
  exact hp.wf b (F9 hr.size hb)
 .obtain ⟨o,h6,h7⟩:=tr i o' hi
  obtain ⟨h8,h9⟩:=hp.W4 i o h6;exact ⟨fun h=>F9 h7 (h8 h),fun h=>F9 h7 (h9 h)⟩
def KL {l:H7}{H:p9}{w w' :World}{G:Gh}{I:S7}{N:Nat->Prop}{args:List c8}{I4:Array Value}(hp:Ak l H w G I N args I4){id lo:Nat}{old:List c8}{ys:List Int}
  (ho:H[id]? =some (.cells old)) (hlo:lo+ys.length<=old.length) (hm:l.may id=true) (hr:UM w w' (I id).1 ((I id).2+lo) (ys.map (.int .i64))) {v:c8} {x:Value} (hv:VR G I N w' .ret v x) :
  lY l H w G I N v (H.set id (.cells (splice old lo (ys.map NB)))) x w' G I N :=
 EN hp (us:=ys.map (.int .i64)) (by simp) (Ea ys) (fun j a u ha hu G I N w p=>by
  rw [List.getElem?_map,Option.map_eq_some_iff] at ha hu;obtain ⟨y,hy,rfl⟩:=ha;obtain ⟨z,hz,rfl⟩:=hu;rw [hy] at hz;cases hz;simp [NB,VR,DR]) ho (by simpa using hlo) hm hr hv
theorem wS (x:Int):∀ l:List Int,(zy x l).Perm (x::l)
 |[]=>List.Perm.refl _
 |y::l=>by
  simp [zy];split
  .rfl
  .exact ((wS x l).cons y).trans (List.Perm.swap x y l)
theorem tI:∀ l:List Int,(cZ l).Perm l
 |[]=>List.Perm.refl _
 |x::l=>(wS x _).trans ((tI l).cons x)
theorem yg (x:Int):∀ l:List Int,l.Pairwise (·<=·)->(zy x l).Pairwise (·<=·)
 |[],_=>by simp [zy]
 |y::l,h=>by
  simp [zy];rw [List.pairwise_cons] at h;split
  .grind [List.pairwise_cons,Int.le_trans]
  .refine List.pairwise_cons.2 ⟨fun z hz=> ?_,yg x l h.2⟩
   grind [wS]
theorem uS:∀ l:List Int,(cZ l).Pairwise (·<=·)
 |[]=>List.Pairwise.nil
 |x::l=>yg x _ (uS l)
def zA (l:List Int):(l.mergeSort fun x y=>decide (x<=y))=cZ l:=by
 grind [List.Perm.eq_of_pairwise,Int.le_antisymm,uS,List.mergeSort_perm,trans,tI,List.pairwise_mergeSort,decide]
theorem HO (l:List Int):(cZ l).length=l.length:=(tI l).length_eq
theorem Eg (a b:Int):∀ l:List Int,bH (l++[a,b])=bH (l++[a])++(if b=a then [] else [b])
 |[]=>by
  grind [bH]
 |[x]=>by
  grind [bH]
 |x::y::l=>by
  have ih:=Eg a b (y::l)
  grind [bH]
theorem mq (zs:List Int):∀ m,m<=zs.length->Lib.compactUpTo zs.toArray m=bH (zs.take m)
 |0,_=>by rfl
 |1,h=>by
  obtain ⟨z,r,rfl⟩:∃ z r,zs=z::r:=by
   cases zs with
   |nil=>simp at h
   |cons z r=>simp_all
  rfl
 |m+2,h=>by
  have ih:=mq zs (m+1) (by omega);have e1:zs.take (m+1)=zs.take m++[zs[m]]:=by simp_all
  have e2:zs.take (m+2)=zs.take m++[zs[m],zs[m+1]]:=by
   grind [List.take_append_getElem,D2]
  rw [Lib.compactUpTo_succ,ih,e1,e2,Eg];have g1:zs.toArray[m+1]! =zs[m+1]:=by
   grind
  have g2:zs.toArray[m+1 - 1]! =zs[m]:=by
   grind
  by_cases hk:zs[m+1]=zs[m]
  .rw [Lib.keeps_neg (by omega) (by omega),if_pos hk]
   rfl
  .rw [Lib.keeps_pos (by omega),if_neg hk,g1]
   rfl
def Gx (zs:List Int):Lib.compact zs=bH zs:=by
 rw [Lib.compact,mq zs _ (n5 _),List.take_length]
theorem xU:∀ l:List Int,(bH l).length<=l.length
 |[]=>by simp [bH]
 |[x]=>by simp [bH]
 |x::y::l=>by
  have:=xU (y::l)
  grind [bH]
theorem nW:∀ {vs:List c8} {xs:List Int},kF vs=some xs->vs=xs.map NB
 |[],xs,h=>by simp_all [kF]
 |v::vs,xs,h=>by
  unfold kF at h;split at h
  .simp_all
  .rename_i n r heq
   cases heq;split at h
   .rename_i ys hy
    cases h;rw [nW hy];rfl
   .cases h
  .cases h
theorem rd_some {H:p9}{id lo len:Nat}{vs:List c8}(h:rd H id lo len=some vs):∃ old,H[id]? =some (.cells old)/\lo+len<=old.length/\vs=(old.drop lo).take len:=by
 grind [rd]
def holds_of {G:Gh}{I:S7}{N:Nat->Prop}{w:World}{H:p9}(hr:HR G I N w H){id lo len:Nat}{old:List c8}{xs:List Int}(ho:H[id]? =some (.cells old))(hl:lo+len<=old.length)(hx:(old.drop lo).take len=xs.map NB) :
  Holds (Value.int .i64) w (I id).1 ((I id).2+lo) xs.toArray/\(I id).1<w.heap.size/\xs.length=len:=by
 have hO:=hr id _ ho;obtain ⟨hN,c,e,f,h1,h2,h3,h4,h5⟩:=hO;have hlen:xs.length=len:=by
  have:=congrArg List.length hx
  grind
 refine ⟨fun j hj=> ?_,?_,hlen⟩
 .have hj' :j<xs.length:=by omega
  have e1:old[lo+j]? =some (NB xs[j]):=by
   have:=congrArg (·[j]?) hx
   grind
  obtain ⟨v,g1,g2⟩:=h5 _ _ e1;subst g2;constructor
  .simp_all [ad,World.cell?,M6]
  .have hlt:(I id).2+lo+j<c.size:=by
    omega
   have:=h3 _ hlt;simp_all [World.frozen?]
 grind
def xF {H:p9}{id lo:Nat}{old vs:List c8}{H1:p9}(ho:H[id]? =some (.cells old))(h:wr H id lo vs=some H1):H1=H.set id (.cells (splice old lo vs)):=by
 simp_all [wr]
def mR {l:H7}{H:p9}{w:World}{G:Gh}{I:S7}{N:Nat->Prop}{args:List c8}{I4:Array Value}(hp:Ak l H w G I N args I4){v:c8}{x:Value}(hv:VR G I N w .ret v x):lY l H w G I N v H x w G I N :=
 ⟨hv,hp.hr,hp.wf,Ext.refl _ _,mb.refl _ _ _,fun _ _ _=>rfl,fun _ h=>h,fun _ _ h=>h,hp.bI,fun _ o' _ ho=>Or.inr ⟨o',ho,n5 _⟩,hp.W4⟩
def jF {G:Gh}{I:S7}{N:Nat->Prop}{w:World}{a:c8}{I4:Array Value}(h:J4 G I N w [a] I4.toList):∃ x,I4= #[x]/\VR G I N w .none a x:=by
 grind [J4,Array.ext']
def Ug {P:Program}{prom:FuncId->Bool}{f:FuncId}(hcan:T6 P f=true)
  (hS:∀ (blk off cap:Nat) (zs:List Int) (w:World),Holds (Value.int .i64) w blk off zs.toArray->blk<w.heap.size->zs.length<4611686018427387904->Calls P f #[.slice (some ⟨blk,off,none⟩) zs.length cap] w fun e w' =>
   e= .returned (.tuple #[])/\∃ n os,w' =grow (putRow (Value.int .i64) (Sort.ahead w n) blk off (zs.mergeSort fun x y=>decide (x<=y)).toArray) os)
  (hE:∀ (p:Option Addr) (cap:Nat) (w:World),Calls P f #[.slice p 0 cap] w fun e w' =>e= .returned (.tuple #[])/\w' =w):bU P prom f EI:=by
 refine ⟨hcan,fun args H l v H1 hrun w G I N I4 hp _=> ?_⟩;unfold EI at hrun;split at hrun
 .split at hrun
  .rename_i hm
   simp only [c7] at hm;have hb:=j5 hm.2;split at hrun
   .rename_i vs hvs
    split at hrun
    .rename_i xs hxs
     split at hrun
     .rename_i H2 hw
      cases hrun;obtain ⟨old,ho,hl,rfl⟩:=rd_some hvs;have hx:=nW hxs;obtain ⟨g1,g2,g3⟩:=holds_of hp.hr ho hl hx;have hH:=xF ho hw;subst hH;obtain ⟨x,rfl,hv⟩:=jF hp.args;obtain ⟨_,cap,rfl,_⟩:=hv;subst g3;refine (hS _ _ cap xs w g1 g2 (by omega)).mono ?_;rintro e w' ⟨rfl,n,os,rfl⟩;rw [zA];exact ⟨_,G,I,N,rfl,KL hp (ys:=cZ xs) ho (by grind [HO]) hm.1 (oc _ _ _ _ _ _ _) (by simp_all [VR,J4])⟩
     .cases hrun
    .cases hrun
   .cases hrun
  .cases hrun
 .cases hrun
  obtain ⟨x,rfl,hv⟩:=jF hp.args;simp [VR,DR] at hv;have key:∃ p cap,x= .slice p 0 cap:=by
   grind
  obtain ⟨p,cap,rfl⟩:=key;refine (hE p cap w).mono ?_;rintro e w' ⟨rfl,rfl⟩;exact ⟨_,G,I,N,rfl,mR hp (by simp_all [VR,J4])⟩
 .cases hrun
def Gy {P:Program}{prom:FuncId->Bool}{f:FuncId}(hcan:T6 P f=true)
  (hS:∀ (blk off cap:Nat) (zs:List Int) (w:World),Holds (Value.int .i64) w blk off zs.toArray->zs.length<=9223372036854775807->zs.length<=cap->Calls P f #[.slice (some ⟨blk,off,none⟩) zs.length cap] w fun e w' =>
   e= .returned (.slice (some ⟨blk,off,none⟩) (Lib.compact zs).length cap)/\∃ q,w' =putRow (Value.int .i64) (Sort.ahead w q) blk off (Lib.compact zs++c9 (zs.length - (Lib.compact zs).length) 0).toArray):bU P prom f mP:=by
 refine ⟨hcan,fun args H l v H1 hrun w G I N I4 hp _=> ?_⟩;unfold mP at hrun;split at hrun
 .rename_i id lo len
  split at hrun
  .rename_i hm
   simp only [c7] at hm;have hb:=j5 hm.2;split at hrun
   .rename_i vs hvs
    split at hrun
    .rename_i xs hxs
     split at hrun
     .rename_i H2 hw
      cases hrun;obtain ⟨old,ho,hl,rfl⟩:=rd_some hvs;have hx:=nW hxs;obtain ⟨g1,g2,g3⟩:=holds_of hp.hr ho hl hx;have hH:=xF ho hw;subst hH;obtain ⟨x,rfl,hv⟩:=jF hp.args;obtain ⟨hN,cap,rfl,hcap,c,e0,f0,k1,k2⟩:=hv;subst g3;refine (hS _ _ cap xs w g1 (by omega) hcap).mono ?_;rintro e w' ⟨rfl,q,rfl⟩;rw [Gx];have hd:=xU xs;have hR:=oc (Value.int .i64) w q (I id).1 ((I id).2+lo) (bH xs++c9 (xs.length - (bH xs).length) 0) #[];obtain ⟨c',u1,u2,_⟩:=hR.here c e0 f0 k1;refine ⟨_,G,I,N,rfl,KL hp (ys:=bH xs++c9 (xs.length - (bH xs).length) 0) ho (by simp;omega) hm.1 hR ?_⟩;simp_all [VR]<;>omega
     .cases hrun
    .cases hrun
   .cases hrun
  .cases hrun
 .cases hrun
def Tp {P:Program}{prom:FuncId->Bool}{f:FuncId}(hcan:T6 P f=true)
  (hR:∀ w:World,Calls P f #[.slice none 0 0,.int .i64 0] w fun e w' =>e= .returned (.slice none 0 0)/\w' =w)
  (hG:∀ (n:Nat) (w:World),0<n->n<=1000000->Calls P f #[.slice none 0 0,.int .i64 n] w fun e w' =>∃ (cap:Nat) (c:Array Value) (t:TypeId),e= .returned (.slice (some ⟨w.heap.size,0,none⟩) 0 cap)/\w' =w.drew.alloc (.cells c t)/\c.size=cap):bU P prom f EH:=by
 refine ⟨hcan,fun args H l v H1 hrun w G I N I4 hp _=> ?_⟩;unfold EH at hrun;split at hrun
 .rename_i n
  split at hrun
  .cases hrun
   obtain ⟨m,rfl⟩:∃ m:Nat,n=m:=⟨n.toNat,by omega⟩;have ha:=hp.args;simp [J4,VR,DR] at ha;have hv:I4= #[.slice none 0 0,.int .i64 m]:=by
    grind
   subst hv
   rcases Nat.eq_zero_or_pos m with rfl|h0
   .refine (hR w).mono ?_
    rintro e w' ⟨rfl,rfl⟩;exact ⟨_,G,I,N,rfl,mR hp (by simp [VR])⟩
   .refine (hG m w h0 (by omega)).mono ?_
    rintro e w' ⟨cap,c,t,rfl,rfl,hc⟩;have hN:kC w (w.drew.alloc (.cells c t)) (.cells c t):=(kC.alloc w (.cells c t)).drew (w.drawn+1) (Nat.le_succ _);refine ⟨_,jD G w.heap.size (.grow 0 .ret),I,N,rfl,?_,hN.hr hp.wf _ (fun _ _=>rfl) (fun _ h=>h) hp.hr,hN.wf hp.wf _,hN.ext hp.wf _,hN.fu hp.wf _ _,fun _ _ _=>rfl,fun _ h=>h,fun _ _ h=>h,hp.bI,fun _ o' _ ho=>Or.inr ⟨o',ho,n5 _⟩,hp.W4⟩;exact ⟨rfl,Or.inr ⟨by simp,w.heap.size,0,cap,c,t,_,rfl,Nat.zero_le _,hN.new,by omega,oR _,by simp,by simp [fB]⟩⟩
  .cases hrun
 .cases hrun
def nM {α:Type} [Inhabited α] (enc:α->List Value)(k:Nat)(hk:∀ x,(enc x).length=k)(l:List α):flatK enc k l.toArray=(l.flatMap enc).toArray:=by
 have hl:∀ l:List α,(l.flatMap enc).length=l.length * k:=fun l=>by
  induction l with
  |nil=>simp
  |cons a l ih=>grind
 have key:∀ (l:List α) (t:Nat),t<l.length * k->(l.flatMap enc)[t]! =(enc l[t / k]!)[t % k]! :=fun l=>by
  induction l with
  |nil=>simp_all
  |cons a l ih =>
   intro t h;rw [p8,Nat.add_mul,Nat.one_mul] at h;have k0:0<k:=by
    grind
   rcases A5 t k with h1|h1
   .simp_all [Nat.div_eq_of_lt,Nat.mod_eq_of_lt,List.getElem!_eq_getElem?_getD,A8]
   .obtain ⟨s,rfl⟩:∃ s,t=s+k:=⟨t - k,by omega⟩
    simp_all [Nat.add_div_right,Nat.add_mod_right,List.getElem!_eq_getElem?_getD,u9,Nat.add_sub_cancel]
 refine ext_get! (by simp [hl]) fun t ht=> ?_
 have ht' :t<l.length * k:=by simp_all
 grind [get_flatK]
def xg:Data->Option Value
 | .int k n=>some (.int k n)
 | .bool b=>some (.bool b)
 |_=>none
theorem qZ {d:Data}{u v:Value}{G:Gh}{w:World}(h:xg d=some u):DR G w d v↔v=u:=by
 cases d<;>simp [xg,reduceCtorEq,Option.some.injEq] at h<;>subst h<;>simp [DR]
def Tw {G:Gh}{I:S7}{N:Nat->Prop}{w:World}{H:p9}(hr:HR G I N w H){id lo len:Nat}{old:List c8}{ds:List Data}{us:List Value}(ho:H[id]? =some (.cells old))(hl:lo+len<=old.length)(hx:(old.drop lo).take len=ds.map .d)
  (hu:ds.length=us.length) (hd:∀ (j:Nat) (d:Data) (u:Value),ds[j]? =some d->us[j]? =some u->xg d=some u):Holds _root_.id w (I id).1 ((I id).2+lo) us.toArray/\(I id).1<w.heap.size/\ds.length=len:=by
 have hO:=hr id _ ho;obtain ⟨hN,c,e,f,h1,h2,h3,h4,h5⟩:=hO;have hlen:ds.length=len:=by
  have:=congrArg List.length hx
  grind
 refine ⟨fun j hj=> ?_,?_,hlen⟩
 .have hj0:j<us.length:=by omega
  have hj' :j<ds.length:=by omega
  have e1:old[lo+j]? =some (.d ds[j]):=by
   have:=congrArg (·[j]?) hx;simp_all
  obtain ⟨v,g1,g2⟩:=h5 _ _ e1;have g2:=(qZ (hd j _ us[j] (n9 hj') (n9 hj0))).1 g2;constructor
  .simp_all [ad,World.cell?,M6]
  .have hlt:(I id).2+lo+j<c.size:=by
    omega
   have:=h3 _ hlt;simp_all [World.frozen?]
 grind
def C4.vals (f:C4):List Value:=[.int .i64 f.src.1,.int .i64 f.src.2,.int .i64 f.dst.1,.int .i64 f.dst.2,.bool f.dat]
theorem nO:∀ (n:Nat) (cs:List Data) (fs:List C4),cs.length<=n->pF cs=some fs->cs=fs.flatMap C4.enc
 |_,[],fs,_,h=>by cases h;rfl
 |0,c::cs,fs,hn,h=>by simp at hn
 |n+1,c::cs,fs,hn,h=>by
  unfold pF at h;split at h
  .simp_all
  .rename_i a b c' d t r heq
   cases heq;split at h
   .rename_i l hl
    cases h;rw [List.flatMap_cons,<- nO n r l (by grind) hl];rfl
   .cases h
  .cases h
theorem qS (fs:List C4):(fs.flatMap C4.enc).length=fs.length * 5:=by
 induction fs with
 |nil=>rfl
 |cons a l ih=>grind [k9,p8,C4.enc]
theorem qR (fs:List C4):(fs.flatMap C4.vals).length=fs.length * 5:=by
 induction fs with
 |nil=>rfl
 |cons a l ih=>grind [k9,p8,C4.vals]
theorem mE:∀ (fs:List C4) (j:Nat) (d:Data) (u:Value),(fs.flatMap C4.enc)[j]? =some d->(fs.flatMap C4.vals)[j]? =some u->xg d=some u
 |[],j,d,u,h,_=>by simp at h
 |f::fs,j,d,u,h,h2=>by
  rw [List.flatMap_cons] at h h2
  rcases A5 j 5 with hj|hj
  .rw [A8 (by simp_all [C4.enc])] at h
   rw [A8 (by simp_all [C4.vals])] at h2
   match j,hj with
   |0,_=>cases h;cases h2;rfl
   |1,_=>cases h;cases h2;rfl
   |2,_=>cases h;cases h2;rfl
   |3,_=>cases h;cases h2;rfl
   |4,_=>cases h;cases h2;rfl
  .rw [u9 (by simp_all [C4.enc])] at h
   rw [u9 (by simp_all [C4.vals])] at h2;exact mE fs _ d u h h2
theorem OZ:∀ {vs:List c8} {cs:List Data},cs.all Data.flat=true->O0 vs=some cs->vs=cs.map .d
 |[],cs,_,h=>by cases h;rfl
 |v::vs,cs,hf,h=>by
  unfold O0 at h;split at h
  .split at h
   .rename_i xs hxs
    cases h;simp only [List.all_cons,c7] at hf;rw [L8,<- OZ hf.2 hxs];simp_all [c8.data?,reduceCtorEq,Data.flat]<;>grind
   .cases h
  .cases h
theorem Jr:∀ fs:List C4,(fs.flatMap C4.enc).all Data.flat=true
 |[]=>rfl
 |f::fs=>by rw [List.flatMap_cons,List.all_append,Jr fs];rfl
theorem sR:∀ l:List Data,C5 (l.map .d)=0
 |[]=>rfl
 |a::l=>by simp [C5,c8.O5,sR l]
def Oj {P:Program}{prom:FuncId->Bool}{f g:FuncId}(hcan:T6 P f=true)
  (hS:∀ (blk off cap:Nat) (fs:List C4) (w:World),HoldsK C4.vals 5 w blk off fs.toArray->blk<w.heap.size->fs.length<4611686018427387904->Calls P f #[.slice (some ⟨blk,off,none⟩) fs.length cap,.func (.func g) #[] #[]] w fun e w' =>
   e= .returned (.tuple #[])/\∃ n os,w' =grow (putRowK C4.vals 5 (Sort.ahead w n) blk off (aX fs).toArray) os)
  (hE:∀ (p:Option Addr) (cap:Nat) (fv:Value) (w:World),Calls P f #[.slice p 0 cap,fv] w fun e w' =>e= .returned (.tuple #[])/\w' =w):bU P prom f (xe g):=by
 refine ⟨hcan,fun args H l v H1 hrun w G I N I4 hp _=> ?_⟩;have two:∀ {a:c8} {g' :FuncId},J4 G I N w [a,.func g' [] []] I4.toList->∃ x,I4= #[x,.func (.func g') #[] #[]]/\VR G I N w .none a x:=fun {a g'} h=>by
  grind [J4,VR,Array.ext']
 unfold xe at hrun;split at hrun
 .rename_i H l id lo len g'
  split at hrun
  .rename_i hm
   obtain ⟨rfl,hm,hn⟩:=hm;split at hrun
   .rename_i vs hvs
    split at hrun
    .rename_i cs hcs
     split at hrun
     .rename_i fs GO
      split at hrun
      .rename_i H2 hw
       cases hrun;obtain ⟨old,ho,hl,rfl⟩:=rd_some hvs;have hc:=nO _ _ _ (n5 _) GO;subst hc;have hx:=OZ (Jr fs) hcs;obtain ⟨g1,g2,g3⟩:=Tw hp.hr (us:=fs.flatMap C4.vals) ho hl hx (by rw [qS,qR]) (mE fs);have hH:=xF ho hw;subst hH;obtain ⟨x,rfl,hv⟩:=two hp.args;simp only [VR] at hv;obtain ⟨_,cap,rfl,_⟩:=hv;have hlen:fs.length=len:=by
        grind [qS]
       subst hlen;refine (hS _ _ cap fs w (by simp_all [HoldsK,nM,C4.vals]) g2 (by omega)).mono ?_;rintro e w' ⟨rfl,n,os,rfl⟩;unfold putRowK;rw [nM C4.vals 5 (fun _=>rfl)];have hR:=oc _root_.id w n (I id).1 ((I id).2+lo) ((aX fs).flatMap C4.vals) os;rw [List.map_id] at hR;refine ⟨_,G,I,N,rfl,EN hp (us:=(aX fs).flatMap C4.vals) (by rw [B9,qS,qR]) (sR _) (fun j a u ha hu G I N w p=> ?_) ho (by grind [qR,rC]) hm hR (by simp_all [VR,J4])⟩
       grind [Option.map_eq_some_iff,VR,qZ,mE]
      .cases hrun
     .cases hrun
    .cases hrun
   .cases hrun
  .cases hrun
 .rename_i H l cs g'
  split at hrun
  .rename_i hg
   subst hg;cases hrun;obtain ⟨x,rfl,hv⟩:=two hp.args;simp only [VR,DR] at hv;have key:∃ p cap,x= .slice p 0 cap:=by
    grind
   obtain ⟨p,cap,rfl⟩:=key;refine (hE p cap _ w).mono ?_;rintro e w' ⟨rfl,rfl⟩;exact ⟨_,G,I,N,rfl,mR hp (by simp_all [VR,J4])⟩
  .cases hrun
 .cases hrun
end Go.A2
namespace Go.Proofs.YtibjocmpkoepoaaGreat
open Go.A2 Go.A2.S
attribute [local irreducible] Rx Ry Rn Ex Pf
def A0:A2.Prog:=⟨aO8,NC,Wu,fun _=>none⟩
def aM8 [C9]:oS Tryz.prog A0:=⟨UE,fun f p h=>(by cases h),fun f af _ h=>aN0 f af h⟩
def bb5 (a:Int):Pf A0 136 [.d (num a)] (.d (.bool false)):=by
 refine Pf.run [.d (num a),.any] rfl rfl rfl rfl ?_;refine gr ?_;exact ⟨_,rfl,by simp [j3,o8]⟩
def q83 (a b:Int):Pf A0 83 [.d (num a),.d (num b)] (.d (num (kZ a b))):=by
 refine Pf.run [.d (num a),.d (num b),.any,.any,.any] rfl rfl rfl rfl ?_;have p1:=bb5 a;have p2:=bb5 b
 repeat' (first|refine IW p1 ?_|refine IW p2 ?_|refine gx ?_|fail)
 refine tb (false) (fun h1=> ?_) (fun h1=> ?_)
 .cases h1
 refine gr ?_;refine tb (false) (fun h2=> ?_) (fun h2=> ?_)
 .cases h2
 refine gr ?_;refine tb (E4 a b) (fun h3=> ?_) (fun h3=> ?_)
 .have:=A6 h3
  refine gr ?_;have e:kZ a b= -1:=by unfold kZ;rw [if_pos this]
  rw [e]
  first|exact ⟨_,rfl,rfl⟩|(simp [j3];done)
 have:=A3 h3;refine gr ?_;refine tb (E4 b a) (fun h4=> ?_) (fun h4=> ?_)
 .have:=A6 h4
  refine gr ?_;have e:kZ a b=1:=by unfold kZ;rw [if_neg (by omega),if_pos this]
  rw [e]
  first|exact ⟨_,rfl,rfl⟩|(simp [j3];done)
 have:=A3 h4;refine gr ?_;have e:kZ a b=0:=by unfold kZ;rw [if_neg (by omega),if_neg (by omega)]
 rw [e]
 first|exact ⟨_,rfl,rfl⟩|(simp [j3];done)
def orI:List Int->Int
 |[]=>0
 |a::l=>if s9 a 0 then orI l else a
def q82 (l:List Int)(hl:l.length<=1000000):Pf A0 82 [.d (ints l)] (.d (num (orI l))):=by
 refine Pf.run [.d (ints l),.any,.any,.any,.any,.any,.any] rfl rfl rfl rfl ?_;refine gr ?_;refine Ex.I7 (fun k T H=>∃ (i:Nat) (w0 w1 w3:c8),T=[w0,w1,.d (num 0),w3,.d (ints l),.d (num l.length),.d (num i)]/\H=[]/\i+k=l.length/\orI l=orI (l.drop i)) (by rintro _ _ _ ⟨_,_,_,_,rfl,rfl,_⟩;rfl) ?_ (k:=l.length) ⟨0,_,_,_,rfl,rfl,by simp,rfl⟩;rintro k _ _ ⟨i,w0,w1,w3,rfl,rfl,hk,ho⟩;refine Ex.nT ?_;refine Ex.seq ?_;refine tb (E4 i l.length) (fun h2=> ?_) (fun h2=> ?_)
 .have h3:=A6 h2
  rw [D3 (by omega),orI] at ho;refine gr ?_;refine tb (!s9 (nth l i) 0) (fun h4=> ?_) (fun h4=> ?_)
  .refine gr ?_
   rw [if_neg (by simpa using h4)] at ho;rw [ho]
   first|exact ⟨_,rfl,rfl⟩|(simp [j3];done)
  .refine gr ?_
   rw [if_pos (by simpa using h4)] at ho;exact ⟨k - 1,by omega,i+1,_,_,_,rfl,rfl,by omega,ho⟩
 .have h3:=A3 h2
  rw [l6 (by omega)] at ho;rw [ho];refine gr ?_
  first|exact ⟨_,rfl,rfl⟩|(simp [j3];done)
def Ku (p:S8):c8:= .agg [.d (num p.1),.d (num p.2)]
def Xs (a b:S8):Pf A0 118 [Ku a,Ku b] (.d (num (wk a b))):=by
 refine Pf.run [Ku a,Ku b,.any,.any,.any] rfl rfl rfl rfl ?_;unfold Ku;have p1:=q83 a.1 b.1;have p2:=q83 a.2 b.2;have p3:=q82 [kZ a.1 b.1,kZ a.2 b.2] (by simp);have e:wk a b=orI [kZ a.1 b.1,kZ a.2 b.2]:=by
  unfold wk;simp only [orI,o8]
  by_cases h:kZ a.1 b.1=0
  .by_cases h2:kZ a.2 b.2=0<;>simp [h,h2]
  .simp [h]
 rw [e]
 repeat' (first|refine IW p1 ?_|refine IW p2 ?_|refine IW p3 ?_|refine ZE [num (kZ a.1 b.1),num (kZ a.2 b.2)] ?_|refine gx ?_|fail)
 first|exact ⟨_,rfl,rfl⟩|(simp [j3];done)
def bH7 (a b:Bool):Pf A0 165 [.d (.bool a),.d (.bool b)] (.d (num (ZF a b))):=by
 refine Pf.run [.d (.bool a),.d (.bool b),.any] rfl rfl rfl rfl ?_;cases a<;>cases b
 all_goals
  repeat' (first|refine gx ?_|refine Ex.M8 ?_|refine Ex.N6 ?_|refine Ex.cond rfl (fun ht=> ?_) (fun ht=> ?_)|refine Ex.test (Rn.text ?_)|refine Ex.test (Rn.draw ?_)|refine ⟨_,rfl,fun ht=> ?_,fun ht=> ?_⟩|refine ⟨_,rfl,?_⟩|fail)
  all_goals first|rfl|(exfalso;revert ht;decide)|(rename_i h;exfalso;revert h;decide)
def Nt (f:C4):c8:= .agg [.d (num f.src.1),.d (num f.src.2),.d (num f.dst.1),.d (num f.dst.2),.d (.bool f.dat)]
def bH6 (a b:C4):Pf A0 164 [Nt a,Nt b] (.d (num (IT a b))):=by
 refine Pf.run [Nt a,Nt b,.any,.any,.any] rfl rfl rfl rfl ?_;unfold Nt;have p1:=Xs a.src b.src;have p2:=Xs a.dst b.dst;have p3:=bH7 a.dat b.dat;have p4:=q82 [wk a.src b.src,wk a.dst b.dst,ZF a.dat b.dat] (by simp);have e:IT a b=orI [wk a.src b.src,wk a.dst b.dst,ZF a.dat b.dat]:=by
  unfold IT;simp only [orI,o8]
  by_cases h:wk a.src b.src=0
  .by_cases h2:wk a.dst b.dst=0
   .by_cases h3:ZF a.dat b.dat=0<;>simp [h,h2,h3]
   .simp [h,h2]
  .simp [h]
 rw [e];unfold Ku at p1 p2
 repeat' (first|refine IW p1 ?_|refine IW p2 ?_|refine IW p3 ?_|refine IW p4 ?_|refine lqo ?_|refine ZE [num (wk a.src b.src),num (wk a.dst b.dst),num (ZF a.dat b.dat)] ?_|refine gx ?_|fail)
 first|exact ⟨_,rfl,rfl⟩|(simp [j3];done)
end Go.Proofs.YtibjocmpkoepoaaGreat
namespace Go.A2
def IU (a b:S8):wk a b=0↔a.1=b.1/\a.2=b.2:=by
 unfold wk kZ;split<;>(repeat' split)<;>omega
def bn (b:Bool):Int:=if b then 0 else 1
def aw2 (a b:Bool):ZF a b<0↔bn a<bn b:=by cases a<;>cases b<;>decide
def wB (a b:C4):IT a b<0↔(a.src.1<b.src.1\/(a.src.1=b.src.1/\(a.src.2<b.src.2\/(a.src.2=b.src.2/\(a.dst.1<b.dst.1\/(a.dst.1=b.dst.1/\(a.dst.2<b.dst.2\/(a.dst.2=b.dst.2/\bn a.dat<bn b.dat)))))))):=by
 have h1:=jH a.src b.src;have h2:=IU a.src b.src;have h3:=jH a.dst b.dst;have h4:=IU a.dst b.dst;have h5:=aw2 a.dat b.dat;unfold IT;split
 .rw [h1];omega
 .split
  .rw [h3];omega
  .rw [h5];omega
def av8 {a b:Bool}(h:bn a=bn b):a=b:=by cases a<;>cases b<;>first|rfl|(exact absurd h (by decide))
end Go.A2
namespace Go.Proofs.YtibjocmpkoepoaaGreat
open Go.A2 Go.Sort Go.Proofs
def bJ0:SWO (ltOf wk) where
 irrefl x:=by simp only [ltOf,decide_eq_false_iff_not,jH];omega
 trans x y z h1 h2:=by simp only [ltOf,decide_eq_true_eq,jH] at *;omega
 ntrans x y z h1 h2:=by simp only [ltOf,decide_eq_false_iff_not,jH] at *;omega
def be1 (x y:S8)(h1:ltOf wk x y=false)(h2:ltOf wk y x=false):x=y:=by
 simp only [ltOf,decide_eq_false_iff_not,jH] at *
 exact Prod.ext (by omega) (by omega)
def bI9:SWO (ltOf IT) where
 irrefl x:=by simp only [ltOf,decide_eq_false_iff_not,wB];omega
 trans x y z h1 h2:=by simp only [ltOf,decide_eq_true_eq,wB] at *;omega
 ntrans x y z h1 h2:=by simp only [ltOf,decide_eq_false_iff_not,wB] at *;omega
def be0 (x y:C4)(h1:ltOf IT x y=false)(h2:ltOf IT y x=false):x=y:=by
 simp only [ltOf,decide_eq_false_iff_not,wB] at *
 obtain ⟨⟨a,b⟩,⟨c,d⟩,e⟩:=x;obtain ⟨⟨a',b'⟩,⟨c',d'⟩,e'⟩:=y;simp only at h1 h2;obtain rfl:a=a' :=by omega
 obtain rfl:b=b' :=by omega
 obtain rfl:c=c' :=by omega
 obtain rfl:d=d' :=by omega
 obtain rfl:e=e' :=av8 (by omega);rfl
def S8.vals (p:S8):List Value:=[.int .i64 p.1,.int .i64 p.2]
def Yy {G:Gh}{I:S7}{N:Nat->Prop}{w:World}(f:C4):VR G I N w .none (Nt f) (.agg (C4.vals f).toArray):=by
 simp only [Nt,VR];exact ⟨_,rfl,by simp only [C4.vals,J4,VR,DR];exact ⟨_,_,rfl,rfl,_,_,rfl,rfl,_,_,rfl,rfl,_,_,rfl,rfl,_,_,rfl,rfl,rfl⟩⟩
def Yz {G:Gh}{I:S7}{N:Nat->Prop}{w:World}(f:S8):VR G I N w .none (Ku f) (.agg (S8.vals f).toArray):=by
 simp only [Ku,VR];exact ⟨_,rfl,by simp only [S8.vals,J4,VR,DR];exact ⟨_,_,rfl,rfl,_,_,rfl,rfl,rfl⟩⟩
def Vc {f:FuncId}{a b:c8}{x y:Value}{n:Int}(h:Pf A0 f [a,b] (.d (num n)))(hv:∀ w,J4 (G0 w) (fun _=>(0,0)) (fun _=>False) w [a,b] [x,y])(w:World) :
  Calls Tryz.prog f #[x,y] w fun e w' =>e= .returned (.int .i64 n)/\∃ q os,w' =grow (w.drewN q) os:=by
 obtain ⟨N,hN⟩:=h;refine (@Ni ⟨True⟩ trivial Tryz.prog A0 (@aM8 ⟨True⟩) N f [a,b] #[x,y] w _ (hN N (n5 _)) (hv w)).mono ?_;rintro e w' ⟨v,G',I',N',rfl,hv,hw⟩;simp only [VR,DR] at hv;subst hv;exact ⟨rfl,hw⟩
def bs2 (blk off size:Nat)(w:World):CmpLays Tryz.prog 164 #[] C4.vals 5 IT blk off size w:=fun m os dk _ x y =>
 Vc (bH6 x y) (fun w=>by simp only [J4];exact ⟨_,_,rfl,Yy x,_,_,rfl,Yy y,rfl⟩) _
def bs3 (blk off size:Nat)(w:World):CmpLays Tryz.prog 118 #[] S8.vals 2 wk blk off size w:=fun m os dk _ x y =>
 Vc (Xs x y) (fun w=>by simp only [J4];exact ⟨_,_,rfl,Yz x,_,_,rfl,Yz y,rfl⟩) _
theorem aj4 (blk off cap:Nat)(fs:List C4)(w:World)(h1:HoldsK C4.vals 5 w blk off fs.toArray)(h2:blk<w.heap.size)(h3:fs.length<4611686018427387904):Calls Tryz.prog 163 #[.slice (some ⟨blk,off,none⟩) fs.length cap,.func (.func 164) #[] #[]] w fun e w' =>
   e= .returned (.tuple #[])/\∃ n os,w' =grow (putRowK C4.vals 5 (Sort.ahead w n) blk off (aX fs).toArray) os:=by
 have eg:∀ args w,(callFunc 164 args).run Tryz.prog w= .ok (.enter 164 args) w:=enters_of Tryz.func164 (by kernel_rfl) rfl;rw [aX,<- yD (fun a b c h1 h2=>by rw [wB] at *;omega) (fun a b h=>by rw [wB] at *;omega) (fun a b h1 h2=>be0 a b (by simpa [ltOf] using h2) (by simpa [ltOf] using h1)) fs];exact AnyQ.slices_SortFunc_total Tryz.sortQ 5 (fun w=>by kernel_rfl) (fun w=>by kernel_rfl) C4.vals (fun _=>rfl) (fun x v hv=>by simp [C4.vals] at hv;rcases hv with rfl|rfl|rfl|rfl|rfl<;>rfl) IT bI9 164 #[] blk off cap fs.toArray w eg (bs2 blk off _ w) h1 h2 h3 be0
theorem aj5 (blk off cap:Nat)(ps:List S8)(w:World)(h1:HoldsK S8.vals 2 w blk off ps.toArray)(h2:blk<w.heap.size)(h3:ps.length<4611686018427387904):Calls Tryz.prog 89 #[.slice (some ⟨blk,off,none⟩) ps.length cap,.func (.func 118) #[] #[]] w fun e w' =>
   e= .returned (.tuple #[])/\∃ n os,w' =grow (putRowK S8.vals 2 (Sort.ahead w n) blk off (sortP ps).toArray) os:=by
 have eg:∀ args w,(callFunc 118 args).run Tryz.prog w= .ok (.enter 118 args) w:=enters_of Tryz.func118 (by kernel_rfl) rfl;rw [Go.A2.sortP,<- yD (fun a b c h1 h2=>by rw [jH] at *;omega) (fun a b h=>by rw [jH] at *;omega) (fun a b h1 h2=>be1 a b (by simpa [ltOf] using h2) (by simpa [ltOf] using h1)) ps];exact AnyQ.slices_SortFunc_total Tryz.sortP 2 (fun w=>by kernel_rfl) (fun w=>by kernel_rfl) S8.vals (fun _=>rfl) (fun x v hv=>by simp [S8.vals] at hv;rcases hv with rfl|rfl<;>rfl) wk bJ0 118 #[] blk off cap ps.toArray w eg (bs3 blk off _ w) h1 h2 h3 be1
theorem ag7 (prom:FuncId->Bool):bU Tryz.prog prom 163 (xe 164) :=
 Oj (by kernel_rfl) aj4 fun p cap fv w=>AnyF.slices_SortFunc_none (P:=Tryz.prog) (ρ:=Tryz.sortQ_ren) { Tryz.sortQ with } p cap fv w
end Go.Proofs.YtibjocmpkoepoaaGreat
namespace Go.Proofs.YtibjocmpkoepoaaGreat
open Go.RowKit Go.Maps
def pv (p:Int×Int):Value:= .agg #[.int .i64 p.1,.int .i64 p.2]
def be5:Value->Int×Int
 | .agg cs=>match cs.toList with
  |[.int _ a,.int _ b]=>(a,b)
  |_=>(0,0)
 |_=>(0,0)
def ak5 (p:Int×Int):be5 (pv p)=p:=rfl
def DF:List (Int×Int)->List Value
 |[]=>[]
 |p::r=> .int .i64 p.1:: .int .i64 p.2::DF r
theorem Jn (p:Int×Int):∀ l:List (Int×Int),DF (l++[p])=DF l++[.int .i64 p.1,.int .i64 p.2]
 |[]=>rfl
 |q::l=>by simp [F8,DF,Jn p l]
theorem gE:∀ l:List (Int×Int),(DF l).length=l.length * 2
 |[]=>rfl
 |q::l=>by simp [DF,p8,gE l];omega
def Al (es:Array MapEntry)(seen:Array Nat)(tp:List (Int×Int)):Prop:=∃ tk:List MapEntry,tk.map (·.key)=tp.map pv/\(tk++(leftOf es seen).toList).Perm es.toList
def Al.start (es:Array MapEntry):Al es #[] []:=⟨[],rfl,by
 grind [leftOf,Array.toList_filter,List.filter_eq_self,List.Perm.refl]⟩
theorem EB (es:Array MapEntry)(seen:Array Nat)(b:Nat):(leftOf es (seen.push b)).toList=(leftOf es seen).toList.filter (fun x=>x.born != b):=by
 grind [leftOf,Array.toList_filter,List.filter_filter,List.filter_congr,Array.contains_push,bne,Bool.and_comm]
theorem Kt:∀ (l:List MapEntry) (e:MapEntry),e ∈ l->(l.map (·.born)).Nodup->(e::l.filter (fun x=>x.born != e.born)).Perm l
 |[],_,h,_=>by cases h
 |x::l,e,h,hn=>by
  simp [L8,List.nodup_cons] at hn
  rcases B8.1 h with rfl|h
  .have:l.filter (fun x=>x.born != e.born)=l:=by
    simp_all
   simp [this]
  .have hx:x.born≠e.born:=by
    grind
   have hx' :(x.born != e.born)=true:=by simp_all
   rw [List.filter_cons,if_pos hx'];exact (List.Perm.swap x e _).trans ((Kt l e h hn.2).cons x)
def Al.step {es:Array MapEntry}{seen:Array Nat}{tp:List (Int×Int)}(h:Al es seen tp)(hn:(es.toList.map (·.born)).Nodup){e:MapEntry}(he:e ∈ (leftOf es seen).toList){p:Int×Int}(hk:e.key=pv p) :
  Al es (seen.push e.born) (tp++[p])/\(leftOf es (seen.push e.born)).size<(leftOf es seen).size:=by
 obtain ⟨tk,h1,h2⟩:=h;have hn' :((leftOf es seen).toList.map (·.born)).Nodup:=by
  grind
 have hp:=Kt _ e he hn';refine ⟨⟨tk++[e],by simp [h1,hk],?_⟩,?_⟩
 .rw [EB,D2]
  exact (List.Perm.append_left tk hp).trans h2
 .have:=hp.length_eq
  grind [EB,p8,Array.length_toList]
def Al.done {es:Array MapEntry}{seen:Array Nat}{tp:List (Int×Int)}(h:Al es seen tp)(h0:(leftOf es seen).size=0){ks:List (Int×Int)}(hk:es.toList.map (·.key)=ks.map pv):tp.Perm ks:=by
 obtain ⟨tk,h1,h2⟩:=h;have e0:(leftOf es seen).toList=[]:=by
  simp_all
 rw [e0,List.append_nil] at h2;have h3:=h2.map (·.key);have h4:=h3.map be5;simp_all [List.map_map,Function.comp_def,ak5]
theorem Al.len {es:Array MapEntry}{seen:Array Nat}{tp:List (Int×Int)}(h:Al es seen tp):tp.length+(leftOf es seen).size=es.size:=by
 obtain ⟨tk,h1,h2⟩:=h;have e1:=congrArg List.length h1;have e2:=h2.length_eq
 grind
def UX (w:World)(x y:Value)(t:TypeId){k:Nat}(hk:k=w.heap.size):∀ j u,[x,y][j]? =some u->(w.alloc (.cells #[x,y] t)).cell? ((⟨k,0,none⟩:Addr).add j)=some u:=by
 intro j u hj;subst hk;have e:∀ i,(w.alloc (.cells #[x,y] t)).cell? ⟨w.heap.size,i,none⟩= #[x,y][i]? :=fun i=>by
  simp_all
 match j,hj with
 |0,hj=>exact (e 0).trans hj
 |1,hj=>exact (e 1).trans hj
def ap9 (w:World)(r:Nat):Nat:=match w.heap[r]? with
 |some (.mapIter (some bm) _ seen _)=>(match w.heap[bm]? with
  |some (.map es _)=>(leftOf es seen).size
  |_=>0)
 |_=>0
section
variable {F:Fence} {n:Nat} {P:Program} (w:World) {ops:Array Oper} {rest:List Oper} {o:Oper} {a:Act} {Q:Exit->Act->World->Prop}
def tL (hg:o.guard=none)(m:Operand)(t:TypeId)(hop:o.op=Op.range t m)(k e:TypeId)(ht:P.underlying t=some (.map k e))(b:Nat)(es:Array MapEntry)(gm:Nat)(hm:a.eval m= .map (some b))(hb:w.heap[b]? =some (.map es gm))
  (hK:wpListIn F n P ops Q rest (a.put o.dst (.pointer (some ⟨w.heap.size,0,none⟩))) (w.alloc (.mapIter (some b) gm #[] gm))) :
  wpListIn F n P ops Q (o::rest) a w:=by
 refine wpListIn_plain hg fun K' hK' => ?_
 have hrun:=run_range_map w t k e b es gm ht hb;refine ⟨?_,?_⟩
 .simp [Oper.about,hop]
 .rw [Oper.semAt_plain F _ _ (by simp_all)]
  simp [execOp,hop,hm,hrun];exact hK' _ _ hK
def vg (hg:o.guard=none)(it:Operand)(hop:o.op=Op.next it false)(b r:Nat)(es:Array MapEntry)(gm:Nat)(seen:Array Nat)(hit:a.eval it= .pointer (some ⟨r,0,none⟩))
  (hr:w.heap[r]? =some (.mapIter (some b) gm seen gm)) (hb:w.heap[b]? =some (.map es gm)) (hold:∀ x ∈ es.toList,x.born<gm) (hn:(es.toList.map (·.born)).Nodup) (hkeys:∀ e ∈ es.toList,∃ p,e.key=pv p) (hbr:b≠r)
  (hDone:(leftOf es seen).size=0->wpListIn F n P ops Q rest (a.put o.dst (.tuple #[.bool false])) w)
  (hMore:∀ (e:MapEntry) (p:Int×Int) (v:Value) (w' :World),e ∈ (leftOf es seen).toList->e.key=pv p->w.grownBy w' (some r)->w'.heap.size=w.heap.size->w'.heap[r]? =some (.mapIter (some b) gm (seen.push e.born) gm)->w'.heap[b]? =some (.map es gm) ->
   (Instr.entry (.pointer (some ⟨r,0,none⟩))).run P w' = .ok (.tuple #[pv p,v]) w' ->wpListIn F n P ops Q rest (a.put o.dst (.tuple #[.bool true,pv p,v])) w') :
  wpListIn F n P ops Q (o::rest) a w:=by
 refine wpListIn_plain hg fun K' hK' => ?_
 refine ⟨by simp [Oper.about,hop],?_⟩;rw [Oper.semAt_plain F _ _ (by simp_all)]
 rcases run_next_at (P:=P) w o.type r b gm gm seen es gm hr hb hold (n5 _) with ⟨h0,hrun⟩|⟨e,he,w1,hw1,hrun⟩
 .simp [execOp,hop,hit,hrun]
  exact hK' _ _ (hDone h0)
 .have ZH:e ∈ es.toList:=by
   have:e ∈ (Array.filter (fun e=> !seen.contains e.born) es).toList:=he;simp_all
  obtain ⟨p,hp⟩:=hkeys e ZH;simp [execOp,hop,hit,hrun];have hsz:(ChangeMaps.setBlock w1 r (.mapIter (some b) gm (seen.push e.born) gm)).heap.size=w.heap.size:=by
   rcases hw1 with rfl|rfl<;>simp [ChangeMaps.setBlock]
  have hlt:r<w.heap.size:=by
   grind
  have hr' :(ChangeMaps.setBlock w1 r (.mapIter (some b) gm (seen.push e.born) gm)).heap[r]? =some (.mapIter (some b) gm (seen.push e.born) gm):=by
   simp_all [ChangeMaps.setBlock]
  have aR5:∀ k,k≠r->(ChangeMaps.setBlock w1 r (.mapIter (some b) gm (seen.push e.born) gm)).heap[k]? =w.heap[k]? :=by
   intro k hk
   rcases hw1 with rfl|rfl
   .grind [ChangeMaps.setBlock]
   .simp [ChangeMaps.setBlock,Ne.symm hk]
    rfl
  have hb' :=(aR5 b hbr).trans hb;have hen:=run_entry_at (P:=P) _ r b gm seen es gm e hr' hb' ZH hn;rw [hp] at hen ⊢;refine hK' _ _ (hMore e p e.val _ he hp ⟨?_,?_,?_,Nat.le_of_eq hsz.symm,fun k _ hk=>aR5 k (fun e=>hk (by rw [e]))⟩ hsz hr' hb' hen)
  all_goals (rcases hw1 with rfl|rfl<;>rfl)
end
theorem az4:(Tryz.prog.info? 44).map (fun i=>(i.zero,i.size,i.bytes))=some (some (.agg #[.int .i64 0,.int .i64 0]),2,16):=by kernel_rfl
set_option maxRecDepth 100000 in
set_option maxHeartbeats 2000000 in
def yE (bm:Nat)(es:Array MapEntry)(gm:Nat)(ks srt:List (Int×Int))(w:World)(hb:w.heap[bm]? =some (.map es gm))(hold:∀ x ∈ es.toList,x.born<gm)(hn:(es.toList.map (·.born)).Nodup)(hk:es.toList.map (·.key)=ks.map pv)(hlen:ks.length<=1000000)
  (hsort:∀ (v:Value) (ps:List (Int×Int)) (W:World),W.ownsRow w.heap.size 44 2 v ps.length (DF ps)->ps.Perm ks->Calls Tryz.prog 89 #[v,.func (.func 118) #[] #[]] W fun e W' =>
   e= .returned (.tuple #[])/\W'.ownsRow w.heap.size 44 2 v ps.length (DF srt)/\W.grownBy W' v.ownBlock) :
  Calls Tryz.prog 63 #[.map (some bm)] w fun e w' =>∃ v,e= .returned v/\w'.ownsRow w.heap.size 44 2 v ks.length (DF srt)/\Below w.heap.size w w' :=by
 obtain ⟨i0,hi,hz0,hz1,ZL⟩:=info_parts az4;have hbl:bm<w.heap.size:=by
  grind
 have hkeys:∀ e ∈ es.toList,∃ p,e.key=pv p:=by
  intro e he;have:e.key ∈ ks.map pv:=by grind
  grind
 have cc9:es.size=ks.length:=by
  have:=congrArg List.length hk
  grind
 refine (callsIn_wide (n:=68)).1 ?_;refine callsIn_of_wp Tryz.func63 rfl trivial ?_ rfl;simp only [Tryz.ntmps63,List.size_toArray,p8,y8,Nat.reduceAdd,Nat.reduceSub,Array.replicate_succ,Array.replicate_zero,List.push_toArray,List.append_toArray,E0,F8]
 gi_wp2_with (first
  |(gi_at_range;refine tL _ rfl _ 124 rfl 44 4 Tryz.underlying124 bm es gm rfl hb ?_)
  |gi_in)
 go_frame
 gi_loopw [3] (fun v wr=>∃ (seen:Array Nat) (tp:List (Int×Int)),wr.heap[w.heap.size]? =some (.mapIter (some bm) gm seen gm)/\wr.heap[bm]? =some (.map es gm)/\Al es seen tp/\wr.ownsRow w.heap.size 44 2 v tp.length (DF tp)/\Below w.heap.size w wr)
  (fun _ wr=>ap9 wr w.heap.size)
 case atStart =>
  exact ⟨#[],[],heap_alloc_new _ _,(Below.heap_alloc _ _ _ hbl).trans hb,Al.start es,World.ownsRow_nil _ _ _ _,(Below.refl _ _).alloc (n5 _) _⟩
 case round =>
  obtain ⟨seen,tp,hr,hbb,hC,hrow,hnx⟩:=hrel
  gi_wp2_with (first
   |(gi_at_next;refine vg _ rfl _ rfl bm w.heap.size es gm seen rfl hr hbb hold hn hkeys (by omega) ?_ ?_)
   |gi_in)
  .intro h0
   have JG:=hC.done (by rw [h0];rfl) hk;have hc:=hsort _ tp _ hrow JG;clear h0
   gi_wp2_with (refine ⟨trivial,?_⟩;gi_at_call 89;refine ((callsIn_wide).2 hc).mono ?_;rintro e w' ⟨rfl,aR9,hg'⟩)
   refine ⟨rfl,_,results_tmp rfl _ _ _,u3,rfl,?_,hnx.grown hg' hnx.size (fun j hj=>(hrow.lt j hj).1)⟩;rw [<- JG.length_eq];exact aR9
  .intro e p1 p2 v' w2 he hp hg2 hs2 hr2 ZG hen
   have VX:=hrow.kept hg2 (by
    by_cases h:u3.ownBlock=none
    .simp_all
    .refine Or.inr fun e1=> ?_
     rcases hrow.2 with ⟨rfl,_⟩|⟨g,cap,cur,rfl,_,hgg,_⟩
     all_goals simp_all [Value.ownBlock,Option.some.injEq])
   have ce9:=hg2.size;have hstep:=hC.step hn (Array.mem_toList_iff.2 he) (p:=(p1,p2)) hp;have bN3:tp.length+1<=1000000:=by
    have:=hC.len;omega
   have bx3:Below w.heap.size w w2:=hnx.grown hg2 hnx.size (fun j hj=>by simp_all);clear hs2;simp only [pv] at hen ⊢
   gi_wp2_with (gi_at_builtin;go_loud (refine wpListIn_append_own _ rfl _ _ 49 rfl w.heap.size 44 i0 _ 2 16 Tryz.underlying49 hi hz0 hz1 ZL rfl (by decide) _ _ _ rfl ((VX.alloc _).alloc _) ⟨w2.heap.size+1,0,none⟩ 1 1 [.int .i64 p1,.int .i64 p2] rfl rfl (UX _ _ _ _ (by simp)) (by simp [Value.oneCell']) (by grind [maxLen]) (by omega) (by simp_all<;>grind) ?_;intro v3 w3 hown' hg3 bN8;go_frame))
   have hg4:World.grownBy _ w3 u3.ownBlock:=hg3;have hkeep:∀ (b:Nat) (o:Obj),w2.heap[b]? =some o->(∀ c t f,o≠Obj.cells c t f)->w3.heap[b]? =some o:=by
    intro b o Bh hno;have hlt:b<w2.heap.size:=by
     grind
    rw [hg4.block b (by simp;omega) (fun e1=>by
     rcases VX.2 with ⟨rfl,_⟩|⟨g,cap,cur,rfl,_,hgg,_⟩
     all_goals simp_all [Value.ownBlock,Option.some.injEq]),Below.heap_alloc _ _ _ (by simp;omega),Below.heap_alloc _ _ _ hlt]
    exact Bh
   have hr3:=hkeep _ _ hr2 (by simp);have hb3:=hkeep _ _ ZG (by simp);have bx4:Below w.heap.size w w3:=((bx3.alloc (by grind) _).alloc (by simp_all<;>grind) _).grown hg4 (by simp_all<;>grind) (fun j hj=>(VX.lt j hj).1)
   go_roundw
   case rel=>exact ⟨_,_,hr3,hb3,hstep.1,by simp_all [Jn,k9],bx4⟩
   simp_all [measure,ap9]
#print axioms yE
end Go.Proofs.YtibjocmpkoepoaaGreat
namespace Go.A2
open Go.RowKit
section
variable {w w' :World} {G G' :Gh} {I:S7} {N:Nat->Prop} {l:H7} {H:p9}
def wo (hB:Below w.heap.size w w')(hwf:WF G w)(hG:∀ b,b<w.heap.size->G' b=G b):Ext G w G' w' where
 os:=hB.os
 tape:=hB.tape
 output:=hB.output
 size:=hB.size
 lX b o hi:=by
  have hb:b<w.heap.size:=br hwf (by grind [jv]);exact ⟨by simp_all [jv],by simp [World.cell?,hB.block b hb]⟩
 still b hb:=by
  have hlt:b<w.heap.size:=br hwf (by grind);exact ⟨hG b hlt,hB.block b hlt⟩
 shape b c e f hc:=by
  have hlt:b<w.heap.size:=by
   grind
  exact ⟨c,(hB.block b hlt).trans hc,rfl⟩
 drawn h:=h.elim
def xL (hB:Below w.heap.size w w')(hwf:WF G w)(hG:∀ b,b<w.heap.size->G' b=G b)(q:Place):bZ q G w G' w' :=fun b n hb=>by
 have hlt:b<w.heap.size:=br hwf (by rw [hb];simp);exact ⟨(hG b hlt).trans hb,hB.block b hlt⟩
def Aq (hB:Below w.heap.size w w')(hwf:WF G w)(hG:∀ b,b<w.heap.size->G' b=G b)(b id:Nat)(hb:G b= .obj id):G' b= .obj id/\w'.heap[b]? =w.heap[b]? :=by
 have hlt:b<w.heap.size:=br hwf (by rw [hb];simp);exact ⟨(hG b hlt).trans hb,hB.block b hlt⟩
def jG {args:List c8}{I4:Array Value}(hp:Ak l H w G I N args I4)(hB:Below w.heap.size w w')(hG:∀ b,b<w.heap.size->G' b=G b)(hwf' :WF G' w'){v:c8}{x:Value}(hv:VR G' I N w' .ret v x):lY l H w G I N v H x w' G' I N :=
 ⟨hv,fun id o ho=>OR.mono (wo hB hp.wf hG) (fun _ _=>rfl) (fun _ h=>h) id o (fun h=>Aq hB hp.wf hG _ _ h) (fun _=>xL hB hp.wf hG _) (hp.hr id o ho),hwf',wo hB hp.wf hG,
  fun id _=>⟨fun b hb=>Aq hB hp.wf hG b id hb,fun _=>xL hB hp.wf hG _⟩,fun _ _ _=>rfl,fun _ h=>h,fun _ _ h=>h,hp.bI,fun _ o' _ ho=>Or.inr ⟨o',ho,n5 _⟩,hp.W4⟩
def DRx (G:Gh)(w:World)(cs:List Data)(news:List Value):Prop:=news.length=cs.length/\∀ (j:Nat) (c:Data),cs[j]? =some c->∃ u,news[j]? =some u/\DR G w c u
theorem fB.of {b:Nat}:∀ (o:Nat) (cs:List Data),(∀ (j:Nat) (c:Data),cs[j]? =some c->jv G b (o+j)/\∃ u,w.cell? (ad b (o+j))=some u/\DR G w c u)->fB G w b o cs
 |_,[],_=>by simp [fB]
 |o,c::cs,h=>by
  obtain ⟨h1,h2⟩:=h 0 c rfl;refine ⟨h1,h2,fB.of (o+1) cs fun j c hj=> ?_⟩;have:=h (j+1) c (by simpa using hj)
  rwa [show o+(j+1)=o+1+j by omega] at this
def DR.one {d:Data}{v:Value}(h:DR G w d v):v.oneCell' =true:=by
 cases d<;>simp [DR] at h
 case slice len cells=>rcases h with ⟨h|⟨a,h⟩,_⟩|⟨b,o,cap,h,_⟩<;>subst h<;>rfl
 all_goals (subst h;rfl)
theorem DRx.mono {cs:List Data}{news:List Value}(h:DRx G w cs news)(hx:Ext G w G' w'):DRx G' w' cs news:=⟨h.1,fun j c hj=>by
 obtain ⟨u,h1,h2⟩:=h.2 j c hj;exact ⟨u,h1,DR.mono hx.lX c u h2⟩⟩
def DRx.DK {cs:List Data}{news:List Value}(h:DRx G w cs news):∀ u ∈ news,u.oneCell' =true:=by
 intro u hu;obtain ⟨j,hj,rfl⟩:=List.mem_iff_getElem.1 hu;have hl:=h.1;obtain ⟨u',h1,h2⟩:=h.2 j (cs[j]'(by omega)) (n9 (by omega));rw [n9 hj] at h1;cases h1;exact h2.one
def Hj {e z n:Nat}{v:Value}{news:List Value}{cs:List Data}(hown:w'.ownsRow w.heap.size e z v n news)(hB:Below w.heap.size w w')(hwf:WF G w)(hd:DRx G w cs news) :
  ∃ G',(∀ b,b<w.heap.size->G' b=G b)/\WF G' w' /\VR G' I N w' .ret (.own z n cs) v:=by
 obtain ⟨h1,h2⟩:=hown;have hl:cs.length=n * z:=by rw [<- hd.1];exact h1
 rcases h2 with ⟨rfl,rfl⟩|⟨g,cap,cur,rfl,hg,hh,hc1,oC,hc3,hc4⟩
 .refine ⟨G,fun _ _=>rfl,fun b hb=>hwf b (F9 hB.size hb),?_⟩
  simp_all [VR,trivial]
 .have hlt:g<w'.heap.size:=by
   grind
  have hG:∀ b,b<w.heap.size->(jD G g (.grow (0+n * z) .ret)) b=G b:=fun b hb=>K7 (by omega)
  refine ⟨jD G g (.grow (0+n * z) .ret),hG,fun b hb=> ?_,?_⟩
  .rw [K7 (by omega)]
   exact hwf b (F9 hB.size hb)
  .have hd' :=hd.mono (wo hB hwf hG)
   refine ⟨hl,Or.inr ⟨by simp,g,0,cap,cur,e,(0,0),rfl,hc1,hh,by omega,oR _,by simp,fB.of 0 cs fun j c hj=> ?_⟩⟩;obtain ⟨u,g1,g2⟩:=hd'.2 j c hj;simp_all [jv,World.cell?]<;>grind
def qa {z n:Nat}{cs:List Data}{x:c8}{v:Value}(hr:HR G I N w H)(h:rowOf z H x=some (n,cs))(hv:VR G I N w .none x v) :
  (n=0/\cs=[]/\(v= .slice none 0 0\/∃ a,v= .slice (some a) 0 0))\/∃ (b off c:Nat) (news:List Value),v= .slice (some (ad b off)) n c/\n<=c/\news.length=n * z/\(∀ (j:Nat) (u:Value),news[j]? =some u->w.cell? (ad b (off+j))=some u)/\DRx G w cs news:=by
 unfold rowOf at h;split at h
 .split at h
  .rename_i hl
   cases h
   rcases hv with ⟨hv|⟨a,hv⟩,h0,h1⟩|⟨b,o,cap,hv,hcap,hd⟩
   .simp_all
   .simp_all
   .obtain ⟨vs,g1,g2,g3⟩:=fB.vals (I:=I) (N:=N) o _ hd
    have:=iC _ _ _ (pg _) g3;exact Or.inr ⟨_,_,cap,vs,hv,hcap,by rw [g1,hl],g2,g1,this.2⟩
  .cases h
 .rename_i id z' lo n'
  split at h
  .rename_i hz
   subst hz;split at h
   .rename_i vs hvs
    split at h
    .rename_i cs' hcs
     cases h;obtain ⟨hN,cap,rfl,hcap,_⟩:=hv
     rcases Nat.eq_zero_or_pos (n * z') with h0|h0
     .have bz7:vs=[]:=by
       grind [rd_some]
      subst bz7;simp [O0] at hcs;subst hcs;exact Or.inr ⟨_,_,cap,[],rfl,hcap,by simp [h0],by simp,by simp [DRx]⟩
     .obtain ⟨_,xs,g1,g2,g3,g4⟩:=hr.rd hvs h0
      refine Or.inr ⟨_,_,cap,xs,rfl,hcap,g1,g3,?_,?_⟩
      .grind [qP]
      .intro j c hj
       obtain ⟨a,k1,k2⟩:=(qP vs cs hcs).2 j c hj;have hjl:j<xs.length:=by
        grind
       refine ⟨xs[j],n9 hjl,?_⟩;have hq:=g4 j a _ k1 (n9 hjl);have hq2:=hq.J3 (yu := .none);have ha:a.J3= .d c:=by
        cases a<;>simp [c8.data?] at k2<;>subst k2<;>rfl
       simp_all [VR]
    .cases h
   .cases h
  .cases h
 .cases h
def Nd {P:Program}{prom:FuncId->Bool}{f:FuncId}{z e:Nat}(hcan:T6 P f=true)
  (hC:∀ (ad:Addr) (n c:Nat) (news:List Value) (w:World),news.length=n * z->n<=1000000->(∀ (j:Nat) (u:Value),news[j]? =some u->w.cell? (ad.add j)=some u)->(∀ u ∈ news,u.oneCell' =true) ->
   Calls P f #[.slice (some ad) n c] w fun x w' =>∃ v',x= .returned v' /\w'.ownsRow w.heap.size e z v' n news/\Below w.heap.size w w')
  (hN:∀ (n c:Nat) (w:World),Calls P f #[.slice none n c] w fun x w' =>x= .returned (.slice none 0 0)/\w' =w):bU P prom f (NV z):=by
 refine ⟨hcan,fun args H l v H1 hrun w G I N I4 hp _=> ?_⟩;unfold NV at hrun;split at hrun
 .obtain ⟨u,rfl,hu⟩:=jF hp.args
  split at hrun
  .rename_i cs hrow
   cases hrun
   rcases qa hp.hr hrow hu with ⟨_,rfl,rfl|⟨a,rfl⟩⟩|⟨b,off,c,news,rfl,_,hl,hc,hd⟩
   .refine (hN 0 0 w).mono ?_
    rintro e' w' ⟨rfl,rfl⟩;exact ⟨_,G,I,N,rfl,mR hp (by simp [VR,DR])⟩
   .refine (hC a 0 0 [] w (by simp) (by omega) (by simp) (by simp)).mono ?_
    rintro e' w' ⟨v',rfl,hown,hB⟩;refine ⟨_,G,I,N,rfl,jG hp hB (fun _ _=>rfl) (fun b hb=>hp.wf b (F9 hB.size hb)) ?_⟩;simp [VR,DR]
    rcases hown.2 with ⟨rfl,_⟩|⟨g,cap,cur,rfl,_⟩
    all_goals simp_all [trivial,Nat.zero_le,fB]
   .refine (hC (ad b off) 0 c news w hl (by omega) (fun j u hj=>by simp_all) hd.DK).mono ?_
    rintro e' w' ⟨v',rfl,hown,hB⟩;refine ⟨_,G,I,N,rfl,jG hp hB (fun _ _=>rfl) (fun b hb=>hp.wf b (F9 hB.size hb)) ?_⟩;simp [VR,DR]
    rcases hown.2 with ⟨rfl,_⟩|⟨g,cap,cur,rfl,_⟩
    all_goals simp_all [trivial,Nat.zero_le,fB]
  .rename_i n cs hrow
   split at hrun
   .cases hrun
    rcases qa hp.hr hrow hu with ⟨h0,_⟩|⟨b,off,c,news,rfl,_,hl,hc,hd⟩
    .cases h0
    .refine (hC (ad b off) (n+1) c news w hl (by omega) (fun j u hj=>by simp_all [bw]) hd.DK).mono ?_
     rintro e' w' ⟨v',rfl,hown,hB⟩;obtain ⟨G',hG,hwf',hv'⟩:=Hj (I:=I) (N:=N) hown hB hp.wf hd;exact ⟨_,G',I,N,rfl,jG hp hB hG hwf' hv'⟩
   .cases hrun
  .cases hrun
 .cases hrun
def Nw {P:Program}{prom:FuncId->Bool}{f:FuncId}{z e:Nat}(hcan:T6 P f=true)
  (hG:∀ (n:Nat) (w:World),0<n->n<=1000000->Calls P f #[.slice none 0 0,.int .i64 n] w fun x w' =>∃ (cap:Nat) (c:Array Value),x= .returned (.slice (some ⟨w.heap.size,0,none⟩) 0 cap)/\w' =w.drew.alloc (.cells c e)/\c.size=cap * z):bU P prom f (xb z):=by
 refine ⟨hcan,fun args H l v H1 hrun w G I N I4 hp _=> ?_⟩;unfold xb at hrun;split at hrun
 .rename_i n
  split at hrun
  .cases hrun
   obtain ⟨m,rfl⟩:∃ m:Nat,n=m:=⟨n.toNat,by omega⟩;have ha:=hp.args;simp [J4,VR,DR] at ha;have hv:I4= #[.slice none 0 0,.int .i64 m]:=by
    grind
   subst hv;refine (hG m w (by omega) (by omega)).mono ?_;rintro e' w' ⟨cap,c,rfl,rfl,hc⟩;have hN:kC w (w.drew.alloc (.cells c e)) (.cells c e):=(kC.alloc w (.cells c e)).drew (w.drawn+1) (Nat.le_succ _);refine ⟨_,jD G w.heap.size (.grow 0 .ret),I,N,rfl,?_,hN.hr hp.wf _ (fun _ _=>rfl) (fun _ h=>h) hp.hr,hN.wf hp.wf _,hN.ext hp.wf _,hN.fu hp.wf _ _,fun _ _ _=>rfl,fun _ h=>h,fun _ _ h=>h,hp.bI,fun _ o' _ ho=>Or.inr ⟨o',ho,n5 _⟩,hp.W4⟩;exact ⟨by simp,Or.inr ⟨by simp,w.heap.size,0,cap,c,e,_,rfl,Nat.zero_le _,hN.new,by omega,oR _,by simp,by simp [fB]⟩⟩
  .cases hrun
 .cases hrun
end
end Go.A2
namespace Go.Proofs.YtibjocmpkoepoaaGreat
open Go.RowKit Go.Maps Go.A2 Go.Sort Go.Proofs
theorem AY:∀ ps:List (Int×Int),DF ps=ps.flatMap S8.vals
 |[]=>rfl
 |(a,b)::r=>by rw [DF,AY r];rfl
theorem EJ:∀ (ps:List (Int×Int)) (i:Nat) (d:A2.Data),(ic ps)[i]? =some d->∃ u,(DF ps)[i]? =some u/\∀ G w,DR G w d u
 |[],i,d,h=>by simp [ic] at h
 |(a,b)::r,0,d,h=>by simp [ic] at h;subst h;exact ⟨_,rfl,fun G w=>by simp [DR]⟩
 |(a,b)::r,1,d,h=>by simp [ic] at h;subst h;exact ⟨_,rfl,fun G w=>by simp [DR]⟩
 |(a,b)::r,i+2,d,h=>by
  simp only [ic,List.getElem?_cons_succ] at h;simpa only [DF,List.getElem?_cons_succ] using EJ r i d h
theorem pY:∀ l:List (Int×Int),(ic l).length=l.length * 2
 |[]=>rfl
 |q::l=>by simp only [ic,p8,pY l];omega
theorem PG {G:Gh}{I:S7}{N:Nat->Prop}{w:World}:∀ (es:List (Key×c8)) (ks:List (Int×Int)) (arr:List MapEntry),Bm es=some ks->ER G I N w es arr->arr.map (·.key)=ks.map pv
 |[],ks,arr,h,hE=>by
  simp [Bm] at h;simp [ER] at hE;subst h hE;rfl
 |(k,v)::r,ks,arr,h,hE=>by
  simp only [ER] at hE;obtain ⟨e,es',rfl,h1,_,h3⟩:=hE;unfold Bm at h;split at h
  .rename_i heq;cases heq
  .rename_i a b v' r' heq
   cases heq;split at h
   .rename_i l hl
    cases h;rw [L8,PG _ l es' hl h3,h1];rfl
   .cases h
  .cases h
def XR (m:Nat)(v:Value)(ps:List S8)(W:World)(hlen:ps.length<=1000000)(hrow:W.ownsRow m 44 2 v ps.length (DF ps)):Calls Tryz.prog 89 #[v,.func (.func 118) #[] #[]] W fun e W' =>
   e= .returned (.tuple #[])/\W'.ownsRow m 44 2 v ps.length (DF (sortP ps))/\W.grownBy W' v.ownBlock:=by
 obtain ⟨hl,⟨rfl,h0⟩|⟨g,cap,cur,rfl,hg,hh,hc1,oC,hc3,hc4⟩⟩:=hrow
 .have hp0:ps=[]:=List.length_eq_zero_iff.1 h0
  subst hp0;have h:=AnyF.slices_SortFunc_none (P:=Tryz.prog) (ρ:=Tryz.sortP_ren) { Tryz.sortP with } none 0 (.func (.func 118) #[] #[]) W;refine h.mono ?_;rintro e W' ⟨rfl,rfl⟩;exact ⟨rfl,by rw [show sortP []=([]:List S8) from rfl];exact World.ownsRow_nil _ _ _ _,World.grownBy.refl _ _⟩
 .have hlt:g<W.heap.size:=by
   rcases A5 g W.heap.size with h|h
   .exact h
   .rw [Array.getElem?_eq_none h] at hh;cases hh
  have hsz:(sortP ps).length=ps.length:=Uf ps;have hcell:∀ j,j<ps.length * 2->cur[j]? =(DF ps)[j]? :=fun j hj=>by
   rw [<- hc4,List.getElem?_take,if_pos hj];simp
  refine (aj5 g 0 cap ps W ?_ hlt (by omega)).mono ?_
  .unfold HoldsK
   rw [nM S8.vals 2 (fun _=>rfl),<- AY];intro j hj;have hj' :j<(DF ps).length:=by simpa using hj
   have hj2:j<ps.length * 2:=by rw [<- gE];exact hj'
   constructor
   .show W.cell? ⟨g,0+j,none⟩=_
    simp only [World.cell?,hh,Nat.zero_add];rw [hcell j hj2];simp [hj']
   .show W.frozen? ⟨g,0+j,none⟩=_
    simp only [World.frozen?,hh];simp
  .rintro e W' ⟨rfl,n,os,rfl⟩
   have hR:=oc _root_.id W n g 0 (DF (sortP ps)) os;rw [List.map_id] at hR;unfold putRowK;rw [nM S8.vals 2 (fun _=>rfl),<- AY];obtain ⟨W',hW⟩:∃ W',grow (putRow _root_.id (Sort.ahead W n) g 0 (DF (sortP ps)).toArray) os=W' :=⟨_,rfl⟩;rw [hW] at hR ⊢;obtain ⟨c',g1,g2,g3,g4⟩:=hR.here cur 44 (0,0) hh;refine ⟨rfl,⟨by rw [gE,hsz],.inr ⟨g,cap,c',rfl,hg,g1,hc1,oC,by omega,?_⟩⟩,⟨hR.os,hR.tape,hR.output,hR.size,fun k hk hne=>hR.other k hk (fun e=>hne (by rw [e];rfl))⟩⟩;apply List.ext_getElem?;intro j;rw [List.getElem?_take];split
   .rename_i hj
    have hj' :j<(DF (sortP ps)).length:=by rw [gE,hsz];exact hj
    have:=g4 j _ (by omega) (n9 hj');rw [Nat.zero_add] at this;rw [n9 hj',<- this];simp
   .rename_i hj
    rw [List.getElem?_eq_none];rw [gE,hsz];omega
theorem aE8 (prom:FuncId->Bool):bU Tryz.prog prom 63 Hl:=by
 refine ⟨by kernel_rfl,fun args H l v H1 hrun w G I N I4 hp _=> ?_⟩;unfold Hl at hrun;split at hrun
 .rename_i id
  split at hrun
  .rename_i es ZH
   split at hrun
   .rename_i ks hks
    split at hrun
    .rename_i hlen
     cases hrun;obtain ⟨x,rfl,hv⟩:=jF hp.args;simp only [VR] at hv;obtain ⟨hN,rfl⟩:=hv;have hO:=hp.hr id _ ZH;simp only [OR] at hO;obtain ⟨_,arr,gm,h1,_,hE,hB⟩:=hO;have hk:=PG es ks arr.toList hks hE;refine (yE (I id).1 arr gm ks (sortP ks) w h1 hB.old hB.nodup hk hlen ?_).mono ?_
     .intro v ps W hown JG
      have:=JG.length_eq;rw [<- DP JG];exact XR _ v ps W (by omega) hown
     .rintro e w' ⟨v,rfl,hown,hBl⟩
      obtain ⟨G',hG,hwf',hv'⟩:=Hj (I:=I) (N:=N) (cs:=ic (sortP ks)) hown hBl hp.wf ⟨by rw [gE,pY],fun j c hj=>by
       obtain ⟨u,u1,u2⟩:=EJ (sortP ks) j c hj;exact ⟨u,u1,u2 _ _⟩⟩
      exact ⟨_,G',I,N,rfl,jG hp hBl hG hwf' hv'⟩
    .cases hrun
   .cases hrun
  .cases hrun
 .cases hrun
end Go.Proofs.YtibjocmpkoepoaaGreat
namespace Go.Proofs.YtibjocmpkoepoaaGreat
open Go.RowKit Go.Lib
def an3 {T E S B:Nat}{Z:Value}(hT:Tryz.prog.underlying T=some (.slice E))(hI:(Tryz.prog.info? E).map (fun i=>(i.zero,i.size,i.bytes))=some (some Z,S,B))(hZ:Z.cells.size=S)(hS:0<S)(hB:B<=16)(n:Nat)(w:World)(h0:0<n)(hn:n<=1000000):∃ G c0,0+n<=G/\G<=9223372036854775807/\c0.size=G * S /\
  ∀ ty,(Builtin.append_ #[T,3] ty #[.slice none 0 0,.int .i64 (n:Int)]).run Tryz.prog w= .ok (.slice (some ⟨w.heap.size,0,none⟩) (0+n) G) (w.drew.alloc (.cells c0 E)):=by
 obtain ⟨i0,hi,hz0,hz1,ZL⟩:=info_parts hI;have hGn:0+n<=grownCap w (0+n) 0 E:=grownCap_ge w _ _ _;have hm:=grownCap_le_maxLen w (0+n) 0 E (by unfold maxLen;omega);unfold maxLen at hm;have hb:n * B<=1000000 * 16:=Nat.mul_le_mul hn hB;refine ⟨_,_,hGn,by omega,?_,fun ty=>Lib.run_append_grow_zeros w T 3 ty E i0 Z .i64 .i64 hT Tryz.underlying3 hi hz0 none 0 0 [] (run_firstCells_none w.drew i0.size 0 0 0) n h0 (by omega) (by omega) (by omega) (by rw [ZL];omega) (growslice_fits (by omega) (by rw [ZL,Nat.zero_add];omega))⟩;simp only [Array.size_append,size_zeroCells,hZ];have:=Nat.add_mul (0+n) (grownCap w (0+n) 0 E - (0+n)) S;rw [Nat.add_sub_cancel' hGn] at this;simp at this ⊢;omega
set_option maxRecDepth 100000 in
set_option maxHeartbeats 4000000 in
theorem ab7 (n:Nat)(w:World)(h0:0<n)(hn:n<=1000000):Calls Tryz.prog 226 #[.slice none 0 0,.int .i64 n] w fun e w' =>∃ (cap:Nat) (c:Array Value),e= .returned (.slice (some ⟨w.heap.size,0,none⟩) 0 cap)/\w' =w.drew.alloc (.cells c 44)/\c.size=cap * 2:=by
 have h1:¬ ((n:Int)<0):=by omega
 have h2:wrap64 ((0:Int) - 0)=0:=by unfold wrap64;omega
 have h3:wrap64 ((n:Int) - 0)=(n:Int):=by unfold wrap64;omega
 have h4:(n:Int)>0:=by omega
 obtain ⟨G,c0,hGn,bu8,hsz,hrz⟩:=an3 (Z:= .agg #[.int .i64 0,.int .i64 0]) (S:=2) (B:=16) Tryz.underlying49 (by kernel_rfl) rfl (by omega) (by omega) n w h0 hn
 go_enter Tryz.func226,Tryz.ntmps226
 go_wp2_with (at_builtin;refine Lib.wpList_append_run _ rfl _ _ _ _ rfl _ _ rfl rfl _ _ (hrz _) ?_)
 all_goals (go_ret;exact ⟨G,rfl,c0,rfl,by first|exact hsz|omega⟩)
set_option maxRecDepth 100000 in
set_option maxHeartbeats 4000000 in
theorem ab8 (n:Nat)(w:World)(h0:0<n)(hn:n<=1000000):Calls Tryz.prog 279 #[.slice none 0 0,.int .i64 n] w fun e w' =>∃ (cap:Nat) (c:Array Value),e= .returned (.slice (some ⟨w.heap.size,0,none⟩) 0 cap)/\w' =w.drew.alloc (.cells c 3)/\c.size=cap * 1:=by
 have h1:¬ ((n:Int)<0):=by omega
 have h2:wrap64 ((0:Int) - 0)=0:=by unfold wrap64;omega
 have h3:wrap64 ((n:Int) - 0)=(n:Int):=by unfold wrap64;omega
 have h4:(n:Int)>0:=by omega
 obtain ⟨G,c0,hGn,bu8,hsz,hrz⟩:=an3 (Z:= .int .i64 0) (S:=1) (B:=8) Tryz.underlying22 (by kernel_rfl) rfl (by omega) (by omega) n w h0 hn
 go_enter Tryz.func279,Tryz.ntmps279
 go_wp2_with (at_builtin;refine Lib.wpList_append_run _ rfl _ _ _ _ rfl _ _ rfl rfl _ _ (hrz _) ?_)
 all_goals (go_ret;exact ⟨G,rfl,c0,rfl,by first|exact hsz|omega⟩)
end Go.Proofs.YtibjocmpkoepoaaGreat
namespace Go.Proofs.YtibjocmpkoepoaaGreat
open Go.A2 Go.Sort Go.Proofs
def To (w:World):Calls Tryz.prog 279 #[.slice none 0 0,.int .i64 0] w fun e w' =>e= .returned (.slice none 0 0)/\w' =w:=by
 go_wp2
 all_goals (go_ret;simp_all)
theorem ag8 (prom:FuncId->Bool):bU Tryz.prog prom 226 (xb 2):=Nw (by kernel_rfl) ab7
theorem ah0 (prom:FuncId->Bool):bU Tryz.prog prom 279 EH:=Tp (by kernel_rfl) To fun n w h0 hn=>(ab8 n w h0 hn).mono fun e w' ⟨cap,c,h1,h2,h3⟩=>⟨cap,c,_,h1,h2,by omega⟩
theorem ag9 (prom:FuncId->Bool):bU Tryz.prog prom 263 EI :=
 Ug (by kernel_rfl) (fun blk off cap zs w h1 h2 h3=>Any.slices_Sort_int Tryz.lays189 blk off cap zs w h1 h2 h3) (fun p cap w=>Any.slices_Sort_int_none Tryz.lays189 p cap w)
theorem Nf (prom:FuncId->Bool):bU Tryz.prog prom 134 mP :=
 Gy (by kernel_rfl) (fun blk off cap zs w h1 h2 h3=>Any.slices_Compact_int Tryz.lays20 blk off cap zs w h1 h2 h3)
def Vf (p:Option Addr)(cap:Nat)(w:World):Calls Tryz.prog 134 #[.slice p 0 cap] w fun e w' =>e= .returned (.slice p 0 cap)/\w' =w:=by
 go_wp2
 all_goals (go_ret;simp_all)
theorem ag6 (prom:FuncId->Bool):bU Tryz.prog prom 134 wZ:=by
 refine ⟨by kernel_rfl,fun args H l v H1 hrun w G I N I4 hp h0=> ?_⟩;unfold wZ at hrun;split at hrun
 .cases hrun
  obtain ⟨x,rfl,hv⟩:=jF hp.args;simp [VR,DR] at hv;have key:∃ p cap,x= .slice p 0 cap:=by
   grind
  obtain ⟨p,cap,rfl⟩:=key;refine (Vf p cap w).mono ?_;rintro e w' ⟨rfl,rfl⟩;exact ⟨_,G,I,N,rfl,mR hp (by grind [VR,DR,fB])⟩
 .exact (Nf prom).2 _ _ _ _ _ hrun w G I N I4 hp h0
end Go.Proofs.YtibjocmpkoepoaaGreat
namespace Go.Proofs.YtibjocmpkoepoaaGreat
open Go.RowKit Go.Shelf Go.A2
attribute [local go_sem] Oper.semAt_some
def UK (n B:Nat)(A C:World):Prop:=Below n A C/\∀ v,Boxed A B 39 v->Boxed C B 39 v
theorem UK.refl (n B:Nat)(A:World):UK n B A A:=⟨Below.refl _ _,fun _ h=>h⟩
theorem UK.trans {n B:Nat}{A C D:World}(h:UK n B A C)(k:UK n B C D):UK n B A D:=⟨h.1.trans k.1,fun v hv=>k.2 v (h.2 v hv)⟩
def Vp (x:Nat×C4):Array Value:= #[.int .i64 (x.1:Int),.agg (C4.vals x.2).toArray]
def bkF (zs:List C4)(k:Nat):Nat×C4:=(zs.length - 1 - k,zs.getD (zs.length - 1 - k) default)
def kP (zs:List C4)(k:Nat):List (Nat×C4):=(List.range k).map (bkF zs)
def CA (zs:List C4)(k:Nat):kP zs (k+1)=kP zs k++[bkF zs k]:=by simp [kP,List.range_succ]
def uX (zs:List C4)(k:Nat):(kP zs k).length=k:=by simp [kP]
def UH (W:World)(b off:Nat)(zs:List C4):Prop:=∀ j,j<zs.length->∀ (i:Nat) (u:Value),(C4.vals (zs.getD j default))[i]? =some u->W.cell? ⟨b,off+j * 5+i,none⟩=some u
set_option maxRecDepth 100000 in
set_option maxHeartbeats 2000000 in
def aN8 (F:Fence)(n:Nat)(h53:F.fn 174)(hro:F.round=none)(hn:1<=n)(l Bs n₀ b off cap:Nat)(zs:List C4)(VV:zs.length<=1000000)(hb:0<zs.length->b<n₀)(J Jx:List (Nat×C4)->World->Prop)
  (hY:∀ pre x W,J pre W->pre.length<zs.length->YieldAt F (n - 1) Tryz.prog l (Vp x) W fun e W' =>
   (e= .returned (.bool true)/\J (pre++[x]) W' /\UK n₀ Bs W W')\/(e= .returned (.bool false)/\Jx (pre++[x]) W'))
  (W:World) (hBs:Boxed W Bs 39 (.slice (some ⟨b,off,none⟩) zs.length cap)) (hc:UH W b off zs) (h0:J [] W) :
  CallsIn F n Tryz.prog 174 #[.func (.yield l) #[] #[],.pointer (some ⟨Bs,0,none⟩)] W fun e W' =>(∃ v,e= .returned v) /\
   ((∃ ys,ys=kP zs zs.length/\J ys W')\/(∃ pre,(∃ k,k<=zs.length/\pre=kP zs k)/\Jx pre W')):=by
 have hlen:(zs.length:Int)<=9223372036854775807:=by omega
 have bZ5:=hBs.cell;refine callsIn_of_wp Tryz.func174 rfl h53 ?_ hro;simp only [Tryz.ntmps174,List.size_toArray,p8,y8,Nat.reduceAdd,Nat.reduceSub,Array.replicate_succ,Array.replicate_zero,List.push_toArray,List.append_toArray,E0,F8]
 gi_wp2
 gi_loopw [3] (fun i wr=>∃ m k:Nat,m+k=zs.length/\i= .int .i64 ((m:Int) - 1)/\J (kP zs k) wr/\UK n₀ Bs W wr)
  (fun i _=>(intOf i+1).toNat)
 case atStart=>exact ⟨zs.length,0,rfl,rfl,h0,UK.refl _ _ _⟩
 case round =>
  obtain ⟨m,k,hmk,rfl,hJs,hnx⟩:=hrel
  rcases m with _|m
  .have e:((0:Nat):Int) - 1= -1:=rfl
   rw [e];obtain rfl:k=zs.length:=by omega
   gi_wp2
   go_end0
   exact ⟨⟨_,rfl⟩,.inl ⟨_,rfl,hJs⟩⟩
  .have e:((m+1:Nat):Int) - 1=m:=by omega
   rw [e];have hm0:(0:Int)<=(m:Int):=by omega
   have hml:m<zs.length:=by omega
   obtain ⟨f,hf⟩:∃ f,zs.getD m default=f:=⟨_,rfl⟩;have hbk:Vp (bkF zs k)= #[.int .i64 (m:Int),.agg (C4.vals f).toArray]:=by
    have:zs.length - 1 - k=m:=by omega
    unfold Vp bkF;rw [this,hf]
   have hb1:=hb (by omega);have UB:∀ (i:Nat) (u:Value),(C4.vals f)[i]? =some u->wr.cell? ⟨b,off+m * 5+i,none⟩=some u:=fun i u hu=>(hnx.1.cell (p:=⟨b,off+m * 5+i,none⟩) hb1).trans (hc m hml i u (by rw [hf];exact hu))
   have c0:wr.cell? ⟨b,off+m * 5,none⟩=some (.int .i64 f.src.1):=UB 0 _ rfl;have c1:wr.cell? ⟨b,off+m * 5+1,none⟩=some (.int .i64 f.src.2):=UB 1 _ rfl;have c2:wr.cell? ⟨b,off+m * 5+2,none⟩=some (.int .i64 f.dst.1):=UB 2 _ rfl;have c3:wr.cell? ⟨b,off+m * 5+3,none⟩=some (.int .i64 f.dst.2):=UB 3 _ rfl;have c4:wr.cell? ⟨b,off+m * 5+4,none⟩=some (.bool f.dat):=UB 4 _ rfl;clear UB;have bZ4 :=(hnx.2 _ hBs).cell;obtain ⟨fn,tmps,assign,body,hy,hR⟩:=hY _ (bkF zs k) wr hJs (by rw [uX];omega);rw [hbk] at hy;simp only [C4.vals] at hy;clear e
   gi_wp2
   refine hR.mono ?_;rintro e W3 (⟨rfl,hJ3,hk3⟩|⟨rfl,bv0⟩)
   .gi_wp2
    go_roundw
    case rel=>exact ⟨m,k+1,by omega,rfl,by rw [CA];exact hJ3,hnx.trans hk3⟩
    case measure=>simp [intOf]
   .gi_wp2
    refine bodyPost_ret (results_none rfl _ _ _) rfl ?_;exact ⟨⟨_,rfl⟩,.inr ⟨_,⟨k+1,by omega,by rw [CA]⟩,bv0⟩⟩
set_option maxRecDepth 100000 in
set_option maxHeartbeats 1000000 in
def SN (F:Fence)(n:Nat)(h53:F.fn 174)(hro:F.round=none)(l Bs:Nat)(a:Option Addr)(cap:Nat)(J:List (Nat×C4)->World->Prop)(W:World)(hBs:W.cell? ⟨Bs,0,none⟩=some (.slice a 0 cap))(h0:J [] W) :
  CallsIn F n Tryz.prog 174 #[.func (.yield l) #[] #[],.pointer (some ⟨Bs,0,none⟩)] W fun e W' =>(∃ v,e= .returned v)/\J [] W' :=by
 refine callsIn_of_wp Tryz.func174 rfl h53 ?_ hro;simp only [Tryz.ntmps174,List.size_toArray,p8,y8,Nat.reduceAdd,Nat.reduceSub,Array.replicate_succ,Array.replicate_zero,List.push_toArray,List.append_toArray,E0,F8]
 gi_wp2
 gi_loopw [3] (fun i wr=>i= .int .i64 (-1)/\J [] wr) (fun _ _=>0)
 case atStart=>exact ⟨rfl,h0⟩
 case round =>
  obtain ⟨rfl,hJs⟩:=hrel
  gi_wp2
  go_end0
  exact ⟨⟨_,rfl⟩,hJs⟩
set_option maxHeartbeats 1000000 in
def ZZ (F:Fence)(n:Nat)(h21:F.fn 117)(hro:F.round=none)(a:Option Addr)(len cap:Nat)(w:World) :
  CallsIn F n Tryz.prog 117 #[.slice a len cap] w fun e w' =>e= .returned (.func (.func 174) #[] #[.pointer (some ⟨w.heap.size,0,none⟩)])/\w' =w.alloc (.cells #[.slice a len cap] 39):=by
 refine callsIn_of_wp Tryz.func117 rfl h21 ?_ hro;simp only [Tryz.ntmps117,List.size_toArray,p8,y8,Nat.reduceAdd,Nat.reduceSub,Array.replicate_succ,Array.replicate_zero,List.push_toArray,List.append_toArray,E0,F8]
 gi_wp2
 go_ret
 exact ⟨rfl,rfl⟩
def Ge (n₀:Nat)(W:World)(sv:Value)(zs:List C4):Prop :=
 ((∃ a cap,sv= .slice a 0 cap)/\zs=[])\/∃ b off cap,sv= .slice (some ⟨b,off,none⟩) zs.length cap/\(0<zs.length->b<n₀)/\UH W b off zs
def MU (F:Fence)(n:Nat)(h53:F.fn 174)(hro:F.round=none)(hn:1<=n)(Bs n₀:Nat)(sv:Value)(zs:List C4)(VV:zs.length<=1000000)(w:World)(hB1:Bs<w.heap.size)(hn₀:n₀<=w.heap.size)
  (hc:Boxed w Bs 39 sv) (hI:Ge n₀ w sv zs) :
  SeqStopsK F n Tryz.prog 174 #[.pointer (some ⟨Bs,0,none⟩)] Vp (UK n₀ Bs) (fun ys=>ys=kP zs zs.length)
   (fun pre=>∃ k,k<=zs.length/\pre=kP zs k) zs.length w:=fun l J Jx W hW _ _ hY h0=>by
 have ux :Boxed W Bs 39 sv:=(hW.block Bs (by omega)).trans hc
 rcases hI with ⟨⟨a,cap,rfl⟩,rfl⟩|⟨b,off,cap,rfl,hb,hcs⟩
 .exact (SN F n h53 hro l Bs a cap J W ux.cell h0).mono fun e W' ⟨he,hj⟩=>⟨he,.inl ⟨_,rfl,hj⟩⟩
 .exact aN8 F n h53 hro hn l Bs n₀ b off cap zs VV hb J Jx hY W ux (fun j hj i u hu=>(hW.cell (p:=⟨b,off+j * 5+i,none⟩) (by have:=hb (by omega);show b<_;omega)).trans (hcs j hj i u hu)) h0
def UW (w:World)(cs:Array Value)(t:TypeId){k:Nat}(hk:k=w.heap.size):∀ j u,cs.toList[j]? =some u->(w.alloc (.cells cs t)).cell? ((⟨k,0,none⟩:Addr).add j)=some u:=by
 intro j u hj;subst hk;have h:=heap_alloc_new w (.cells cs t);have e:(w.alloc (.cells cs t)).cell? ⟨w.heap.size,0+j,none⟩=cs[0+j]? :=by
  unfold World.cell?;rw [h];rfl
 have e2:(⟨w.heap.size,0,none⟩:Addr).add j=⟨w.heap.size,0+j,none⟩:=by
  unfold Addr.add;split
  .rename_i h0
   rw [h0]
  .rfl
 rw [e2,e,Nat.zero_add];simpa using hj
theorem az5:(Tryz.prog.info? 46).map (fun i=>(i.zero,i.size,i.bytes))=some (some (.agg #[.int .i64 0,.int .i64 0,.int .i64 0,.int .i64 0,.bool false]),5,40):=by kernel_rfl
def Xw (pre:List (Nat×C4)):List Value:=pre.flatMap fun x=>C4.vals x.2.rev
def Xx (zs:List C4):Xw (kP zs zs.length)=(zs.map C4.rev).reverse.flatMap C4.vals:=by
 have e:(kP zs zs.length).map (fun x=>x.2.rev)=(zs.map C4.rev).reverse:=by
  apply List.ext_getElem?;intro i
  rcases A5 i zs.length with hi|hi
  .rw [List.getElem?_reverse (by simpa using hi)]
   have h1:zs.length - 1 - i<zs.length:=by omega
   simp only [kP,bkF,List.map_map,List.getElem?_map,List.getElem?_range hi,M7,B9,n9 h1,Function.comp,List.getD_eq_getElem?_getD,Option.getD_some]
  .rw [List.getElem?_eq_none (by simp [kP];exact hi),List.getElem?_eq_none (by simp;exact hi)]
 rw [<- e];unfold Xw;rw [List.flatMap_map]
def AtF (w:World)(sv:Value)(x:Nat×C4)(a:Act)(W:World):Prop:=∃ q:Nat,W.heap[q]? =some (.cells (C4.vals x.2).toArray 46 (0,0)) /\
 a={ tmps:= #[sv,undef,.slice none 0 0,.pointer (some ⟨w.heap.size,0,none⟩),undef,.pointer (some ⟨q,0,none⟩),sv,.func (.func 174) #[] #[.pointer (some ⟨w.heap.size+1,0,none⟩)],.int .i64 (x.1:Int),.agg (C4.vals x.2).toArray,undef,undef,undef,undef,undef,undef,undef,undef,undef,undef,undef],defers:=[] }
def ZY (w:World)(sv:Value)(x:Nat×C4)(a:Act)(B:Nat):OwnFrom B (fun (_:Unit) W=>AtF w sv x a W):=fun _ X Y row ⟨q,hq,ha⟩ hg hrow=>by
 refine ⟨q,(hg.block q ?_ fun e=> ?_).trans hq,ha⟩
 .rcases A5 q X.heap.size with h|h
  .exact h
  .rw [Array.getElem?_eq_none h] at hq;cases hq
 .obtain ⟨_,o,ho,hc⟩:=hrow q e.symm
  rw [hq] at ho;cases ho;cases hc
set_option maxRecDepth 100000 in
set_option maxHeartbeats 4000000 in
theorem DM (w:World)(sa:Option Addr)(sc:Nat)(zs:List C4)(hlen:zs.length<=1000000)(hI:Ge w.heap.size w (.slice sa zs.length sc) zs) :
  Calls Tryz.prog 62 #[.slice sa zs.length sc] w fun e w' =>∃ v,e= .returned v/\w'.ownsRow w.heap.size 46 5 v zs.length ((zs.map C4.rev).reverse.flatMap C4.vals)/\Below w.heap.size w w' :=by
 obtain ⟨i0,hi,hz0,hz1,ZL⟩:=info_parts az5;refine (callsIn_wide (n:=68)).1 ?_;refine callsIn_of_wp_marks Tryz.func62 rfl trivial ?_ rfl;simp only [Tryz.ntmps62,List.size_toArray,p8,y8,Nat.reduceAdd,Nat.reduceSub,Array.replicate_succ,Array.replicate_zero,List.push_toArray,List.append_toArray,E0,F8]
 gi_wp2_with (refine ⟨trivial,?_⟩;gi_at_call 117;refine (ZZ Fence.wide 67 trivial rfl _ _ _ _).mono ?_;rintro e W2 ⟨rfl,rfl⟩)
 have bO:=Boxed.new w 39 (.slice none 0 0);have bN:=Boxed.new (w.alloc (.cells #[.slice none 0 0] 39)) 39 (.slice sa zs.length sc);rw [World.size_alloc] at bN;have hB0:Below w.heap.size w ((w.alloc (.cells #[.slice none 0 0] 39)).alloc (.cells #[.slice sa zs.length sc] 39)):=((Below.refl _ w).alloc (n5 _) _).alloc (by simp) _;have hI' :Ge w.heap.size ((w.alloc (.cells #[.slice none 0 0] 39)).alloc (.cells #[.slice sa zs.length sc] 39)) (.slice sa zs.length sc) zs:=by
  rcases hI with h|⟨b,off,cap,e,hb,hc⟩
  .exact .inl h
  .exact .inr ⟨b,off,cap,e,hb,fun j hj i u hu=>(hB0.cell (p:=⟨b,off+j * 5+i,none⟩) (by have:=hb (by omega);show b<_;omega)).trans (hc j hj i u hu)⟩
 obtain ⟨sv,hsv⟩:∃ sv,Value.slice sa zs.length sc=sv:=⟨_,rfl⟩;rw [hsv] at bN hB0 hI' ⊢;obtain ⟨W2,hW2⟩:∃ W2,((w.alloc (.cells #[.slice none 0 0] 39)).alloc (.cells #[sv] 39))=W2:=⟨_,rfl⟩;have hs2:W2.heap.size=w.heap.size+2:=by rw [<- hW2];simp
 have bO:=bO.alloc (.cells #[sv] 39);rw [hW2] at bN hB0 hI' bO ⊢;refine wpIn_rangeFunc_ownH rfl (by decide) (gf:=174) (lb:= #[.pointer (some ⟨w.heap.size+1,0,none⟩)]) rfl trivial (enters_of Tryz.func174 (by kernel_rfl) rfl)
  (MU Fence.wide 67 trivial rfl (by decide) (w.heap.size+1) w.heap.size sv zs hlen W2 (by omega) (by omega) bN hI') UK.trans ?hKb (Below.refl _ _) (fun _=>rfl)
  (fun pre W=>(∃ v,Boxed W w.heap.size 39 v/\W.ownsRow w.heap.size 46 5 v pre.length (Xw pre)/\True)/\Below w.heap.size w W/\Boxed W (w.heap.size+1) 39 sv)
  (fun _ _ _=>False)
  (OwnFrom.and (Own.from (holdsRow_own w.heap.size w.heap.size 39 46 5 (fun pre:List (Nat×C4)=>pre.length) Xw (fun _ _=>True)) _) (OwnFrom.and (ownFrom_below (n5 _) (by omega)) (Own.from (boxed_own (w.heap.size+1) 39 (fun _=>sv)) _)))
  (fun _ _ _ _ _ hs _ _=>hs)
  ⟨⟨_,bO,World.ownsRow_nil _ _ _ _,trivial⟩,hB0,bN⟩
  (AtF w sv) (fun x a' =>ZY w sv x a' _) ?assign ?body ?done ?stop
 case hKb =>
  intro W l o o' hl _ _ _;have hlt:l<W.heap.size:=by
   rename_i ho _ _;exact (Array.getElem?_eq_some_iff.1 ho).1
  exact ⟨(Below.refl _ W).grown (grownBy_putObj' W l o') (by omega) fun k e=>by cases e;omega,fun v hv=>hv.kept (grownBy_putObj' W l o') fun e=>by cases e;omega⟩
 case assign =>
  intro l pre x W K hI2 hK;unfold Vp;simp only [C4.vals]
  gi_wp2
  obtain ⟨⟨v,hv,hrow,_⟩,hB,hBs⟩:=hI2;refine hK _ _ ((KeepsOthers.alloc W _).from _) ⟨(Below.refl _ W).alloc hB.size _,fun v hv=>hv.alloc _⟩ ⟨⟨v,hv.alloc _,hrow.alloc _,trivial⟩,hB.alloc hB.size _,hBs.alloc _⟩ ⟨W.heap.size,heap_alloc_new _ _,rfl⟩
 case body =>
  rintro l pre x a' W hl hr ⟨⟨v,hv,hrow,_⟩,hB,hBs⟩ ⟨q,hq,rfl⟩ hlt;have hc:=hv.cell;have q0:W.cell? ⟨q,0,none⟩=some (.int .i64 x.2.src.1):=by simp [World.cell?,hq,C4.vals]
  have q1:W.cell? ⟨q,1,none⟩=some (.int .i64 x.2.src.2):=by simp [World.cell?,hq,C4.vals]
  have q2:W.cell? ⟨q,2,none⟩=some (.int .i64 x.2.dst.1):=by simp [World.cell?,hq,C4.vals]
  have q3:W.cell? ⟨q,3,none⟩=some (.int .i64 x.2.dst.2):=by simp [World.cell?,hq,C4.vals]
  have q4:W.cell? ⟨q,4,none⟩=some (.bool x.2.dat):=by simp [World.cell?,hq,C4.vals]
  gi_wp2_with (gi_at_builtin;go_loud (refine wpListIn_append_own _ rfl _ _ 39 rfl w.heap.size 46 i0 _ 5 40 Tryz.underlying39 hi hz0 hz1 ZL rfl (by decide) _ _ _ rfl (hrow.alloc _) ⟨W.heap.size,0,none⟩ 1 1 (C4.vals x.2.rev) rfl rfl (UW _ _ _ rfl) (by simp [Value.oneCell',C4.vals]) (by simp [maxLen];omega) (by omega) (by have:=hB.size;simp;omega) ?_;intro v' w1 hown' hgrow _;obtain ⟨g',cap',rfl⟩:=ownsRow_succ hown';obtain ⟨hv1,hv2,hr2,hk2,ZG⟩:=hv.appended (by decide) hrow hB.size (n5 _) hown' hgrow;have hc1:=hv1.cell;have hf1:=hv1.frozen))
  have hk:∀ u,Boxed W (w.heap.size+1) 39 u->Boxed (w1.setCell ⟨w.heap.size,0,none⟩ (.slice (some ⟨g',0,none⟩) (pre.length+1) cap')) (w.heap.size+1) 39 u:=fun u hu=>((hu.alloc _).kept hgrow (hu.not_row (by decide) hrow)).other (by omega) _
  exact ⟨hk2.from _,⟨ZG,hk⟩,⟨_,hv2,by simpa [Xw] using hr2,trivial⟩,hB.trans ZG,hk _ hBs⟩
 case done =>
  rintro D ys W hD rfl ⟨⟨v,hv,hrow,_⟩,hB,_⟩ hK;have hc:=hv.cell;rw [uX,Xx] at hrow
  gi_wp2
  refine ⟨by simp,.inl ⟨_,_,rfl,run_takeDeferred hK,?_⟩⟩;exact ⟨_,results_tmp rfl _ _ _,v,rfl,ownsRow_putObj hrow _ hK rfl,hB.grown (grownBy_putObj' W D _) hB.size fun k e=>by cases e;omega⟩
 case stop =>
  rintro D c pre W _ _ h _;exact h.elim
end Go.Proofs.YtibjocmpkoepoaaGreat
namespace Go.Proofs.YtibjocmpkoepoaaGreat
open Go.RowKit Go.A2
def Yv (fs:List C4):∀ (j i:Nat) (u:Value),j<fs.length->(C4.vals (fs.getD j default))[i]? =some u->(fs.flatMap C4.vals)[j * 5+i]? =some u:=by
 induction fs with
 |nil=>simp_all
 |cons f fs ih =>
  intro j i u hj hu;cases j with
  |zero =>
   grind
  |succ j =>
   simp_all [C4.vals]<;>grind
def Te (fs:List C4){j:Nat}{u:Value}(h:(fs.flatMap C4.vals)[j]? =some u):∃ d,(fs.flatMap C4.enc)[j]? =some d/\xg d=some u:=by
 have hj:j<(fs.flatMap C4.enc).length:=by
  grind [u7,qR,qS]
 exact ⟨_,n9 hj,mE fs j _ u (n9 hj) h⟩
theorem OC (fs:List C4){j:Nat}{d:A2.Data}(h:(fs.flatMap C4.enc)[j]? =some d):∃ u,(fs.flatMap C4.vals)[j]? =some u/\xg d=some u:=by
 have hj:j<(fs.flatMap C4.vals).length:=by
  grind [u7,qS,qR]
 exact ⟨_,n9 hj,mE fs j d _ h (n9 hj)⟩
def BM {prom:FuncId->Bool}{l:H7}{H:p9}{w:World}{G:Gh}{I:S7}{N:Nat->Prop}{args:List c8}{I4:Array Value}(hp:Ak l H w G I N args I4)(sa:Option Addr)(sc:Nat)(fs:List C4)(hlen:fs.length<=1000000)(hI:Ge w.heap.size w (.slice sa fs.length sc) fs) :
  Calls Tryz.prog 62 #[.slice sa fs.length sc] w fun e w' =>∃ x G' I' N',e= .returned x/\lY l H w G I N (.own 5 fs.length ((fs.map C4.rev).reverse.flatMap C4.enc)) H x w' G' I' N' :=by
 refine (DM w sa sc fs hlen hI).mono ?_;rintro e w' ⟨v,rfl,hown,hB⟩;obtain ⟨G',hG,hwf',hv'⟩:=Hj (I:=I) (N:=N) (cs:=(fs.map C4.rev).reverse.flatMap C4.enc) hown hB hp.wf ⟨by rw [qR,qS],fun j c hj=>by
  grind [OC,qZ]⟩
 exact ⟨_,G',I,N,rfl,jG hp hB hG hwf' hv'⟩
theorem aE7 (prom:FuncId->Bool):bU Tryz.prog prom 62 aD7:=by
 refine ⟨by kernel_rfl,fun args H l v H1 hrun w G I N I4 hp _=> ?_⟩;unfold aD7 at hrun;split at hrun
 .split at hrun
  .rename_i n cs hrow
   split at hrun
   .rename_i fs GO
    split at hrun
    .rename_i hn
     cases hrun;obtain ⟨rfl,hn⟩:=hn;have hcs:=nO _ _ _ (n5 _) GO;subst hcs;obtain ⟨y,rfl,hy⟩:=jF hp.args
     rcases qa hp.hr hrow hy with ⟨h0,_,hv⟩|⟨b,off,c,news,rfl,_,hl,hc,hd⟩
     .have hf0:fs=[]:=List.length_eq_zero_iff.1 h0
      subst hf0
      rcases hv with rfl|⟨a,rfl⟩
      .exact BM (prom:=prom) hp none 0 [] hn (.inl ⟨⟨_,_,rfl⟩,rfl⟩)
      .exact BM (prom:=prom) hp (some a) 0 [] hn (.inl ⟨⟨_,_,rfl⟩,rfl⟩)
     .have hnews:∀ (j:Nat) (u:Value),(fs.flatMap C4.vals)[j]? =some u->news[j]? =some u:=fun j u hu=>by
       obtain ⟨d,d1,d2⟩:=Te fs hu;obtain ⟨u',u1,u2⟩:=hd.2 j d d1;simp_all [qZ]
      have hcell:UH w b off fs:=fun j hj i u hu=>by
       have:=hc _ _ (hnews _ _ (Yv fs j i u hj hu))
       grind
      refine BM (prom:=prom) hp (some (ad b off)) c fs hn (.inr ⟨b,off,c,rfl,fun h0=> ?_,hcell⟩);have:=hcell 0 h0 0 _ rfl
      grind [A5,World.cell?,Array.getElem?_eq_none]
    .cases hrun
   .cases hrun
  .cases hrun
 .cases hrun
end Go.Proofs.YtibjocmpkoepoaaGreat
namespace Go.Proofs.YtibjocmpkoepoaaGreat
open Go.RowKit Go.Lib
theorem ad9:(Tryz.prog.info? 46).map (fun i=>(i.zero,i.size,i.bytes))=some (some (.agg #[.int .i64 0,.int .i64 0,.int .i64 0,.int .i64 0,.bool false]),5,40):=by kernel_rfl
set_option maxRecDepth 100000 in
set_option maxHeartbeats 2000000 in
def aa1 (ad:Addr)(n c:Nat)(news:List Value)(w:World)(hl:news.length=n * 5)(hn:n<=1000000)(hc:∀ (j:Nat) (u:Value),news[j]? =some u->w.cell? (ad.add j)=some u)(h1:∀ u ∈ news,u.oneCell' =true) :
  Calls Tryz.prog 59 #[.slice (some ad) n c] w fun e w' =>∃ v',e= .returned v' /\w'.ownsRow w.heap.size 46 5 v' n news/\Below w.heap.size w w' :=by
 obtain ⟨i0,hi,hz0,hz1,ZL⟩:=info_parts ad9;have q:∀ (w:World) (a:Option Addr) (n c n' c' :Nat),(binOp .eql 39 (.slice a n c) (.slice none n' c')).run Tryz.prog w= .ok (.bool a.isNone) w:=fun w a n c n' c' =>Lib.run_eql_slice_nil w _ _ a n c n' c' Tryz.underlying39
 refine (callsIn_wide (n:=68)).1 ?_;refine callsIn_of_wp Tryz.func59 rfl trivial ?_ rfl;simp only [Tryz.ntmps59,List.size_toArray,p8,y8,Nat.reduceAdd,Nat.reduceSub,Array.replicate_succ,Array.replicate_zero,List.push_toArray,List.append_toArray,E0,F8]
 gi_wp2_with (gi_at_builtin;refine wpListIn_append_own _ rfl _ _ 39 rfl w.heap.size 46 i0 (.agg #[.int .i64 0,.int .i64 0,.int .i64 0,.int .i64 0,.bool false]) 5 40 Tryz.underlying39 hi hz0 hz1 ZL rfl (by decide) _ _ _ rfl (World.ownsRow_made w #[] 0 (n5 _) (Nat.zero_le _) rfl) ad n c news rfl hl ?qc2 h1 ?qc4 ?qc5 ?qc6 ?_)
 case qc2 =>
  intro j u hj;exact Lib.cell?_alloc_some _ (hc j u hj)
 case qc4=>unfold maxLen;omega
 case qc5=>omega
 case qc6=>simp
 intro v' w1 hown hgrow hnil
 gi_wp2
 exact ⟨rfl,_,results_tmp rfl _ _ _,v',rfl,by simpa using hown,((Below.refl _ w).alloc (n5 _) _).grown hgrow (by simp) (by intro k hk;simp [Value.ownBlock] at hk;omega)⟩
set_option maxRecDepth 100000 in
set_option maxHeartbeats 2000000 in
def IY (n c:Nat)(w:World):Calls Tryz.prog 59 #[.slice none n c] w fun e w' =>e= .returned (.slice none 0 0)/\w' =w:=by
 have q:∀ (w:World) (a:Option Addr) (n c n' c' :Nat),(binOp .eql 39 (.slice a n c) (.slice none n' c')).run Tryz.prog w= .ok (.bool a.isNone) w:=fun w a n c n' c' =>Lib.run_eql_slice_nil w _ _ a n c n' c' Tryz.underlying39
 refine (callsIn_wide (n:=68)).1 ?_;refine callsIn_of_wp Tryz.func59 rfl trivial ?_ rfl;simp only [Tryz.ntmps59,List.size_toArray,p8,y8,Nat.reduceAdd,Nat.reduceSub,Array.replicate_succ,Array.replicate_zero,List.push_toArray,List.append_toArray,E0,F8]
 gi_wp2
 exact ⟨rfl,_,results_tmp rfl _ _ _,rfl,rfl⟩
end Go.Proofs.YtibjocmpkoepoaaGreat
namespace Go.A2.S
section
variable {A:Prog} {l:H7} {b:Nat} {dr:Bool} {l5 ops:List o9} {T:List c8} {H:p9} {n:Nat} {rl:List c8} {p7:List Touch} {Q:List c8->p9->List c8->Prop}
def nlp {x:y5}{u:List Nat}{neg:Bool}{m:Nat}{cs:List Data}(hm:0<m)(h2:Ry A l b dr l5 ops T H (n+1) (.d (.bool neg)::rl) p7 Q)(hx:rq T n rl x= .d (.slice m cs):=by rfl) :
  Ry A l b dr l5 (⟨.BB neg x,none,none,u⟩::ops) T H n rl p7 Q :=
 Ry.pure (rs:=[]) rfl (by
  have h1:¬ m=0:=by omega
  simp [o6,hx,h1]) h2
end
end Go.A2.S
namespace Go.Proofs.YtibjocmpkoepoaaGreat
open Go.A2 Go.A2.S
attribute [local irreducible] Rx Ry Rn Ex Pf
def AC:Prog:=⟨fun f=>if f=59 then A.fn 59 else none,fun _=>false,A.mode,fun _=>none⟩
theorem aM9:oS Tryz.prog AC where
 idle _ h:=by cases h
 fP _ _ h:=by cases h
 fn f af _ h:=by
  have h2:(A.fn 59).all (jl Tryz.prog Tryz.f59)=true:=by kernel_rfl
  simp only [AC] at h;split at h
  .rename_i hf
   subst hf;rw [h] at h2;exact ⟨_,Tryz.func59,h2⟩
  .cases h
set_option maxHeartbeats 4000000 in
def br9 (a b:List c8)(h0:I6 2 a=a)(h1:I6 2 b=b)(k:Nat)(cs:List A2.Data)(hl:cs.length=k * 5)(hn:k<=1000000)(hp:0<k):Pm AC 59 [.d (.slice k cs)] [.cells a,.cells b] an (.B4 2 5 0 k) [.cells a,.cells b,.cells (cs.map .d)]:=by
 suffices h:Pq AC 59 [.d (.slice k cs)] [.cells a,.cells b] an fun v H1=>v= .B4 2 5 0 k/\H1=[.cells a,.cells b,.cells (cs.map .d)] by
  obtain ⟨v,H1,⟨rfl,rfl⟩,h⟩:=h;exact h
 refine Pq.run (b:=2) [.d (.slice k cs),.any] rfl rfl rfl rfl rfl ?_
 repeat' (first|refine mn (h2:= ?_)|refine gx ?_|fail)
 refine tB (false) ?_ (fun h=> ?_) (fun h=> ?_)
 .repeat' (first|refine nlp hp ?_|refine gx ?_|refine fk (h1:=fun hw=> ?_) (h2:=fun hw=> ?_)|refine U1 (h1:=fun hw=> ?_) (h2:=fun hw=> ?_)|refine ⟨rfl,rfl,_,rfl,?_⟩|refine ⟨rfl,rfl⟩|fail)
  all_goals exact cc
 .cases h
 have hr:roomFor (0+k) 40=true:=by simp [roomFor];omega
 have hc:O7 [.cells a,.cells b,.cells []] 5 (.d (.slice k cs))=some (k,cs.map .d):=by
  simp only [O7];rw [if_pos hl]
 repeat' (first|refine bso [] rfl ⟨by decide,rfl⟩ (h2:= ?_)|refine gx ?_|fail)
 refine apo (sz:=5) (id:=2) (len:=0) (m:=k) (old:=[]) (H:=[.cells a,.cells b,.cells []]) (T:=[.d (.slice k cs),.O2]) (T2:=[.d (.slice k cs),.O2]) (rl2:=[.d (.slice k cs),.any]) (H2:=[.cells (I6 2 a),.cells (I6 2 b),.cells (cs.map .d)]) (k2:=k) hr hc (by rfl) ?_ ?_ (hk2:=by omega) (h2:= ?_)
 .simp [c8.one]
 .exact sR _
 refine gr ?_;exact ⟨_,_,rfl,rfl,by rw [h0,h1]⟩
theorem aE6 (prom:FuncId->Bool):bU Tryz.prog prom 59 pCl:=by
 have hc:bU Tryz.prog prom 59 (NV 5):=Nd (by kernel_rfl) aa1 IY;refine ⟨hc.1,fun args H l v H1 hrun w G I N I4 hp hb=> ?_⟩;unfold pCl at hrun;split at hrun
 .cases hrun
  exact hc.2 _ _ l _ _ rfl w G I N I4 hp hb
 .rename_i n cs a b
  split at hrun
  .rename_i h
   cases hrun;obtain ⟨M,hM⟩:=br9 a b (wm 2 a h.2.2.1) (wm 2 b h.2.2.2) (n+1) cs h.1 (by omega) (by omega);exact (nE aM9 M).1 59 _ _ _ _ _ (hM M (n5 _)) w G I N I4 hp (fun h=>by cases h)
  .cases hrun
 .cases hrun
end Go.Proofs.YtibjocmpkoepoaaGreat
namespace Go.Proofs.YtibjocmpkoepoaaGreat
open Go.A2
def au9:oS Tryz.prog A:=bj3 (fun f p h=>by
 revert h;unfold A;simp only;split
 .rename_i h;rintro h2;cases h2;subst h;exact ah0 _
 .split
  .rename_i h;rintro h2;cases h2;subst h;exact ag9 _
  .split
   .rename_i h;rintro h2;cases h2;subst h;exact ag6 _
   .split
    .rename_i h;rintro h2;cases h2;subst h;exact ag8 _
    .split
     .rename_i h;rintro h2;cases h2;subst h;exact aE8 _
     .split
      .rename_i h;rintro h2;cases h2;subst h;exact aE7 _
      .split
       .rename_i h;rintro h2;cases h2;subst h;exact ag7 _
       .split
        .rename_i h;rintro h2;cases h2;subst h;exact aE6 _
        .rintro h2;cases h2)
end Go.Proofs.YtibjocmpkoepoaaGreat


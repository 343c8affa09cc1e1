import Derived.Sort.Grow
import Derived.Deep.Draws
import Derived.Lib.SlicesCompact
import Derived.Shelf.GgSortFunc.RowK
import Derived.Test.YtibjocmpkoepoaaGreatAbs
import Derived.Test.YtibjocmpkoepoaaGreatShelf
import Derived.Sort.MapsRangeIn
import Derived.Maps.AppendAt
import Derived.Maps.RangeRun
import Derived.OwnWalkIn
import Derived.TacticsInMore
import Derived.RegionIn
import Derived.LoopNIn
import Derived.LoopIn
import Derived.Laws.OwnMore
import Derived.Lib.Walk
import Derived.Lib.SliceRun
import Derived.Lib.AppendZerosOnto
import Derived.RangeFuncNested
import Derived.RangeFuncBound
import Derived.RangeFuncCalls
import Derived.RangeFuncBox
import Derived.RangeFuncLeaves
import Derived.RangeFuncWrites
import Derived.Shelf.Abstract
set_option linter.all false
open Bool renaming not_eq_true' → o8, and_eq_true → c9
open List renaming append_assoc → A9, cons_append → B7, drop_of_length_le → n5, getElem?_append_left → q7, getElem?_append_right → p7, getElem?_eq_getElem → l5, getElem?_eq_none → H6, getElem?_set_ne → y9, getElem?_set_self → J8, length_append → n9, length_cons → q6, length_map → A1, length_nil → B0, map_cons → E0, mem_cons → y7, nil_append → B9, replicate → j4
open Nat renaming le_of_ble_eq_true → k9, le_refl → o5, le_trans → B5, lt_or_ge → s5, zero_le → N6
open Option renaming map_some → E2
namespace Go.Abs
open Go.Sort
def XC {w w' :World}(h1:w'.os=w.os)(h2:w'.tape=w.tape)(h3:w'.output=w.output)(h4:w.heap.size<=w'.heap.size)(h5:∀ b,b<w.heap.size->w'.heap[b]? =w.heap[b]?)(h6:w.drawn<=w'.drawn):∃ q os,w' =grow (w.drewN q) os:=by
 refine ⟨w'.drawn - w.drawn,w'.heap.extract w.heap.size w'.heap.size,?_⟩;obtain ⟨hp,tp,dr,os,out⟩:=w';simp only at h1 h2 h3 h4 h5 h6;subst h1 h2 h3;have e:w.heap++hp.extract w.heap.size hp.size=hp:=by
  apply Array.ext_getElem?;intro i
  rcases s5 i w.heap.size with h|h
  .rw [Array.getElem?_append_left h,h5 i h]
  .rw [Array.getElem?_append_right h,Array.getElem?_extract]
   rcases s5 i hp.size with h7|h7
   .rw [if_pos (by omega)]
    congr 1
    omega
   .rw [if_neg (by omega),Array.getElem?_eq_none h7]
 unfold grow World.drewN;simp only [e]
 congr 1
 omega
section
variable [D5]
def La (hD:D5.on){P:Program}{A:Prog}(h:qW P A){n:Nat}{f:FuncId}{args:List j3}{I6:Array Value}{w:World}{v:j3}(hc:call A n f args [] Y8=some (v,[]))
  (hargs:H8 (G0 w) (fun _=>(0,0)) (fun _=>False) w args I6.toList):Calls P f I6 w fun e w' =>∃ (x:Value) (G' :Gh) (I' :Q9) (N' :Nat->Prop),e= .returned x/\VR G' I' N' w' .ret v x/\∃ q os,w' =grow (w.drewN q) os:=by
 have hpre:yu Y8 [] w (G0 w) (fun _=>(0,0)) (fun _=>False) args I6:=by
  refine ⟨hargs,?_,?_,?_,?_,o5 _,o5 _,?_,fun _ b n pl hb=>by simp only [G0] at hb;split at hb<;>cases hb⟩
  .intro id o ho;simp at ho
  .intro b hb;simp only [G0];rw [if_neg (by omega)]
  .intro id hid;exact hid.elim
  .intro id o ho;simp at ho
  .intro b id hb
   simp only [G0] at hb;split at hb<;>cases hb
 refine Calls.mono ((qY h n).1 f args [] Y8 _ _ hc w _ _ _ I6 hpre (fun _=>rfl)) ?_;rintro e w' ⟨x,G',I',N',rfl,hp⟩;refine ⟨x,G',I',N',rfl,hp.val,XC hp.ext.os hp.ext.tape hp.ext.output hp.ext.size (fun b hb=>(hp.ext.still b (Or.inl ?_)).2) (hp.ext.drawn hD)⟩;simp only [G0];rw [if_pos hb]
end
end Go.Abs
namespace Go.Abs
open Go.Sort
structure Sc (w w' :World)(blk off:Nat)(us:List Value):Prop where
 os:w'.os=w.os
 tape:w'.tape=w.tape
 output:w'.output=w.output
 size:w.heap.size<=w'.heap.size
 other:∀ b:Nat,b<w.heap.size->b≠blk->w'.heap[b]? =w.heap[b]?
 here:∀ (c:Array Value) (e:TypeId) (f:Nat×Nat),w.heap[blk]? =some (.cells c e f)->∃ c' :Array Value,w'.heap[blk]? =some (.cells c' e f)/\c'.size=c.size /\
  (∀ k:Nat,(k<off\/off+us.length<=k)->c'[k]? =c[k]?)/\∀ (j:Nat) (u:Value),off+j<c.size->us[j]? =some u->c'[off+j]? =some u
def me {α:Type} [Inhabited α] (enc:α->Value)(w:World)(n blk off:Nat)(ys:List α)(os:Array Obj):Sc w (grow (putRow enc (Sort.ahead w n) blk off ys.toArray) os) blk off (ys.map enc) where
 os:=rfl
 tape:=rfl
 output:=rfl
 size:=by simp [grow,Sort.ahead]
 other b hb hne:=by
  have:b<(w.heap.modify blk (onCells (putCells enc off ys.toArray))).size:=by simpa using hb
  show (w.heap.modify blk (onCells (putCells enc off ys.toArray))++os)[b]? =_
  rw [Array.getElem?_append_left this,Array.getElem?_modify,if_neg (Ne.symm hne)]
 here c e f hc:=by
  have hb:blk<w.heap.size:=by
   rcases s5 blk w.heap.size with h|h
   .exact h
   .rw [Array.getElem?_eq_none h] at hc;cases hc
  have:blk<(w.heap.modify blk (onCells (putCells enc off ys.toArray))).size:=by simpa using hb
  refine ⟨putCells enc off ys.toArray c,?_,by simp [putCells],fun k hk=> ?_,fun j u hj hu=> ?_⟩
  .show (w.heap.modify blk (onCells (putCells enc off ys.toArray))++os)[blk]? =_
   rw [Array.getElem?_append_left this,Array.getElem?_modify,if_pos rfl,hc];rfl
  .simp only [putCells,Array.getElem?_mapIdx]
   have:¬ (off<=k/\k<off+ys.toArray.size):=by simp at hk ⊢;omega
   simp only [this,if_false];cases c[k]? <;>rfl
  .rw [List.getElem?_map,Option.map_eq_some_iff] at hu
   obtain ⟨y,hy,rfl⟩:=hu;have hl:j<ys.length:=r9 hy;simp only [putCells,Array.getElem?_mapIdx];rw [Array.getElem?_eq_getElem hj];have:(off<=off+j/\off+j<off+ys.toArray.size):=by simp;omega
   simp only [E2,this,and_self,if_true];rw [show off+j - off=j by omega,List.getElem!_toArray,List.getElem!_eq_getElem?_getD,hy];rfl
def Lw (n:Int):j3:= .d (.int .i64 n)
theorem Ct:∀ ys:List Int,B8 (ys.map Lw)=0
 |[]=>rfl
 |y::ys=>by simp only [E0,B8,Ct ys,Lw,j3.L7];rfl
def KS (old:List j3)(lo:Nat)(az9:List j3)(h:B8 az9=0):B8 (splice old lo az9)<=B8 old:=by
 have h1:=uA lo old;have h2:=uz (lo+az9.length) old;simp only [splice,dA,h];omega
def Dp {l:F2}{H:q8}{w w' :World}{G:Gh}{I:Q9}{N:Nat->Prop}{args:List j3}{I6:Array Value}(hp:yu l H w G I N args I6){id lo:Nat}{old az9:List j3}{us:List Value}(zD:az9.length=us.length)(hab:B8 az9=0)(hau:∀ (j:Nat) (a:j3) (u:Value),az9[j]? =some a->us[j]? =some u->∀ G I N w p,VR G I N w p a u)
  (ho:H[id]? =some (.cells old)) (hlo:lo+us.length<=old.length) (hm:l.may id=true) (hr:Sc w w' (I id).1 ((I id).2+lo) us) {v:j3} {x:Value} (hv:VR G I N w' .ret v x) :
  jZ l H w G I N v (H.set id (.cells (splice old lo az9))) x w' G I N:=by
 have hO:=hp.hr id _ ho;simp only [OR] at hO;obtain ⟨hN,c,e,f,h1,h2,h3,h4,h5⟩:=hO;obtain ⟨c',g1,g2,g3,g4⟩:=hr.here c e f h1;have hlt:∀ b:Nat,G b≠ .free->b<w.heap.size:=fun b hb=>by
  rcases s5 b w.heap.size with h|h
  .exact h
  .exact absurd (hp.wf b h) hb
 have Lr:Ext G w G w' :=by
  refine ⟨hr.os,hr.tape,hr.output,fun h=>h.elim,hr.size,fun b o hi=>⟨hi,?_⟩,fun b hb=>⟨rfl,?_⟩,fun b c0 e0 f0 hc0=> ?_⟩
  .have hne:b≠(I id).1:=by rintro rfl;unfold gJ at hi;rw [h2] at hi;exact hi
   have hb:G b≠ .free:=fun h=>by unfold gJ at hi;rw [h] at hi;exact hi
   simp only [World.cell?,hr.other b (hlt b hb) hne]
  .have hne:b≠(I id).1:=by rintro rfl;rw [h2] at hb;rcases hb with hb|⟨_,hb⟩<;>cases hb
   exact hr.other b (hlt b (fun h=>by rw [h] at hb;rcases hb with hb|⟨_,hb⟩<;>cases hb)) hne
  .by_cases hne:b=(I id).1
   .subst hne
    rw [h1] at hc0;cases hc0;exact ⟨c',g1,g2⟩
   .refine ⟨c0,?_,rfl⟩
    rw [hr.other b ?_ hne]
    .exact hc0
    .rcases s5 b w.heap.size with h|h
     .exact h
     .rw [Array.getElem?_eq_none h] at hc0;cases hc0
 have hkeep:∀ q,aK q G w G w' :=fun q b n hb=>⟨hb,hr.other b (hlt b (fun h=>by rw [h] at hb;cases hb)) (by rintro rfl;rw [h2] at hb;cases hb)⟩
 have QF:∀ (b i:Nat),i≠id->G b= .obj i->G b= .obj i/\w'.heap[b]? =w.heap[b]? :=fun b i hi hb=>⟨hb,hr.other b (hlt b (fun h=>by rw [h] at hb;cases hb)) (by rintro rfl;rw [h2] at hb;cases hb;exact hi rfl)⟩
 have ah3:id<H.length:=r9 ho;have rL:∀ (i:Nat) (o' :x9),(H.set id (.cells (splice old lo az9)))[i]? =some o' ->∃ o:x9,H[i]? =some o/\o'.L7<=o.L7:=fun i o' hi=>by
  by_cases he:i=id
  .subst he
   rw [J8 ah3] at hi;cases hi;exact ⟨_,ho,KS old lo az9 hab⟩
  .rw [y9 (fun e=>he e.symm)] at hi
   exact ⟨o',hi,o5 _⟩
 refine ⟨hv,?_,?_,Lr,fun i hi=>⟨fun b hb=>QF b i (by rintro rfl;rw [hm] at hi;cases hi) hb,fun off=>hkeep _⟩,fun _ _ _=>rfl,fun _ h=>h,fun _ _ h=>h,fun i hi=>by simpa using hp.bt i hi,fun i o' _ hi=>Or.inr (rL i o' hi),fun i o' hi=> ?_⟩
 .intro i o hi
  by_cases he:i=id
  .subst he
   rw [J8 ah3] at hi;cases hi;simp only [OR];refine ⟨hN,c',e,f,g1,h2,by rw [g2];exact h3,?_,fun j a hj=> ?_⟩
   .rw [g2]
    simp only [splice,n9,List.length_take,A1,List.length_drop];omega
   .rcases s5 j lo with hj1|hj1
    .have hj2:old[j]? =some a:=by
      rw [<- hj,splice,A9,q7 (by simp;omega),List.getElem?_take,if_pos hj1]
     obtain ⟨u,u1,u2⟩:=h5 j a hj2;exact ⟨u,by rw [g3 _ (by omega)];exact u1,VR.mono Lr (fun _ _=>rfl) (fun _ h=>h) _ _ _ (Or.inr (hkeep _)) u2⟩
    rcases s5 j (lo+us.length) with hj2|hj2
    .have hj3:az9[j - lo]? =some a:=by
      rw [<- hj,splice,q7 (by simp;omega),p7 (by simp;omega)]
      congr 1
      simp;omega
     have hj4:j - lo<us.length:=by omega
     refine ⟨us[j - lo],?_,hau _ _ _ hj3 (l5 hj4) _ _ _ _ _⟩;rw [show (I i).2+j=(I i).2+lo+(j - lo) by omega];exact g4 _ _ (by omega) (l5 hj4)
    .have hj3:old[j]? =some a:=by
      rw [<- hj,splice,p7 (by simp;omega),List.getElem?_drop]
      congr 1
      simp;omega
     obtain ⟨u,u1,u2⟩:=h5 j a hj3;exact ⟨u,by rw [g3 _ (by omega)];exact u1,VR.mono Lr (fun _ _=>rfl) (fun _ h=>h) _ _ _ (Or.inr (hkeep _)) u2⟩
  .rw [y9 (fun e=>he e.symm)] at hi
   exact OR.mono Lr (fun _ _=>rfl) (fun _ h=>h) i o (fun h=>QF _ i he h) (fun off=>hkeep _) (hp.hr i o hi)
 .intro b hb
  exact hp.wf b (B5 hr.size hb)
 .obtain ⟨o,h6,h7⟩:=rL i o' hi
  obtain ⟨h8,h9⟩:=hp.U7 i o h6;exact ⟨fun h=>B5 h7 (h8 h),fun h=>B5 h7 (h9 h)⟩
def IF {l:F2}{H:q8}{w w' :World}{G:Gh}{I:Q9}{N:Nat->Prop}{args:List j3}{I6:Array Value}(hp:yu l H w G I N args I6){id lo:Nat}{old:List j3}{ys:List Int}
  (ho:H[id]? =some (.cells old)) (hlo:lo+ys.length<=old.length) (hm:l.may id=true) (hr:Sc w w' (I id).1 ((I id).2+lo) (ys.map (.int .i64))) {v:j3} {x:Value} (hv:VR G I N w' .ret v x) :
  jZ l H w G I N v (H.set id (.cells (splice old lo (ys.map Lw)))) x w' G I N :=
 Dp hp (us:=ys.map (.int .i64)) (by simp) (Ct ys) (fun j a u ha hu G I N w p=>by
  rw [List.getElem?_map,Option.map_eq_some_iff] at ha hu;obtain ⟨y,hy,rfl⟩:=ha;obtain ⟨z,hz,rfl⟩:=hu;rw [hy] at hz;cases hz;simp only [Lw,VR,DR]) ho (by simpa using hlo) hm hr hv
theorem uR (x:Int):∀ l:List Int,(xE x l).Perm (x::l)
 |[]=>List.Perm.refl _
 |y::l=>by
  simp [xE];split
  .rfl
  .exact ((uR x l).cons y).trans (List.Perm.swap x y l)
theorem rV:∀ l:List Int,(cu l).Perm l
 |[]=>List.Perm.refl _
 |x::l=>(uR x _).trans ((rV l).cons x)
theorem we (x:Int):∀ l:List Int,l.Pairwise (·<=·)->(xE x l).Pairwise (·<=·)
 |[],_=>by simp [xE]
 |y::l,h=>by
  simp [xE];rw [List.pairwise_cons] at h;split
  .grind [List.pairwise_cons,Int.le_trans]
  .refine List.pairwise_cons.2 ⟨fun z hz=> ?_,we x l h.2⟩
   grind [uR]
theorem tI:∀ l:List Int,(cu l).Pairwise (·<=·)
 |[]=>List.Pairwise.nil
 |x::l=>we x _ (tI l)
def xG (l:List Int):(l.mergeSort fun x y=>decide (x<=y))=cu l:=by
 grind [List.Perm.eq_of_pairwise,Int.le_antisymm,tI,List.mergeSort_perm,trans,rV,List.pairwise_mergeSort,decide]
theorem FJ (l:List Int):(cu l).length=l.length:=(rV l).length_eq
theorem CB (a b:Int):∀ l:List Int,aU (l++[a,b])=aU (l++[a])++(if b=a then [] else [b])
 |[]=>by
  grind [aU]
 |[x]=>by
  grind [aU]
 |x::y::l=>by
  have ih:=CB a b (y::l)
  grind [aU]
theorem kC (zs:List Int):∀ m,m<=zs.length->Lib.compactUpTo zs.toArray m=aU (zs.take m)
 |0,_=>by rfl
 |1,h=>by
  obtain ⟨z,r,rfl⟩:∃ z r,zs=z::r:=by
   cases zs with
   |nil=>simp at h
   |cons z r=>simp_all
  rfl
 |m+2,h=>by
  have ih:=kC zs (m+1) (by omega);have e1:zs.take (m+1)=zs.take m++[zs[m]]:=by simp_all
  have e2:zs.take (m+2)=zs.take m++[zs[m],zs[m+1]]:=by
   grind [List.take_append_getElem,A9]
  rw [Lib.compactUpTo_succ,ih,e1,e2,CB];have g1:zs.toArray[m+1]! =zs[m+1]:=by
   grind
  have g2:zs.toArray[m+1 - 1]! =zs[m]:=by
   grind
  by_cases hk:zs[m+1]=zs[m]
  .rw [Lib.keeps_neg (by omega) (by omega),if_pos hk]
   rfl
  .rw [Lib.keeps_pos (by omega),if_neg hk,g1]
   rfl
def Ez (zs:List Int):Lib.compact zs=aU zs:=by
 rw [Lib.compact,kC zs _ (o5 _),List.take_length]
theorem vQ:∀ l:List Int,(aU l).length<=l.length
 |[]=>by simp [aU]
 |[x]=>by simp [aU]
 |x::y::l=>by
  have:=vQ (y::l)
  grind [aU]
theorem lX:∀ {vs:List j3} {xs:List Int},jv vs=some xs->vs=xs.map Lw
 |[],xs,h=>by simp_all [jv]
 |v::vs,xs,h=>by
  unfold jv at h;split at h
  .simp_all
  .rename_i n r heq
   cases heq;split at h
   .rename_i ys hy
    cases h;rw [lX hy];rfl
   .cases h
  .cases h
def rd_some {H:q8}{id lo len:Nat}{vs:List j3}(h:rd H id lo len=some vs):∃ old,H[id]? =some (.cells old)/\lo+len<=old.length/\vs=(old.drop lo).take len:=by
 grind [rd]
def holds_of {G:Gh}{I:Q9}{N:Nat->Prop}{w:World}{H:q8}(hr:HR G I N w H){id lo len:Nat}{old:List j3}{xs:List Int}(ho:H[id]? =some (.cells old))(hl:lo+len<=old.length)(hx:(old.drop lo).take len=xs.map Lw) :
  Holds (Value.int .i64) w (I id).1 ((I id).2+lo) xs.toArray/\(I id).1<w.heap.size/\xs.length=len:=by
 have hO:=hr id _ ho;obtain ⟨hN,c,e,f,h1,h2,h3,h4,h5⟩:=hO;have hlen:xs.length=len:=by
  have:=congrArg List.length hx
  grind
 refine ⟨fun j hj=> ?_,?_,hlen⟩
 .have hj' :j<xs.length:=by omega
  have e1:old[lo+j]? =some (Lw xs[j]):=by
   have:=congrArg (·[j]?) hx
   grind
  obtain ⟨v,g1,g2⟩:=h5 _ _ e1;subst g2;constructor
  .simp_all [ad,World.cell?,Nat.add_assoc]
  .have hlt:(I id).2+lo+j<c.size:=by
    omega
   have:=h3 _ hlt;simp_all [World.frozen?]
 grind
def vz {H:q8}{id lo:Nat}{old vs:List j3}{H1:q8}(ho:H[id]? =some (.cells old))(h:wr H id lo vs=some H1):H1=H.set id (.cells (splice old lo vs)):=by
 simp_all [wr]
def pQ {l:F2}{H:q8}{w:World}{G:Gh}{I:Q9}{N:Nat->Prop}{args:List j3}{I6:Array Value}(hp:yu l H w G I N args I6){v:j3}{x:Value}(hv:VR G I N w .ret v x):jZ l H w G I N v H x w G I N :=
 ⟨hv,hp.hr,hp.wf,Ext.refl _ _,ki.refl _ _ _,fun _ _ _=>rfl,fun _ h=>h,fun _ _ h=>h,hp.bt,fun _ o' _ ho=>Or.inr ⟨o',ho,o5 _⟩,hp.U7⟩
def ku {G:Gh}{I:Q9}{N:Nat->Prop}{w:World}{a:j3}{I6:Array Value}(h:H8 G I N w [a] I6.toList):∃ x,I6= #[x]/\VR G I N w .none a x:=by
 grind [H8,Array.ext']
def Rw {P:Program}{prom:FuncId->Bool}{f:FuncId}(hcan:T3 P f=true)
  (hS:∀ (blk off cap:Nat) (zs:List Int) (w:World),Holds (Value.int .i64) w blk off zs.toArray->blk<w.heap.size->zs.length<4611686018427387904->Calls P f #[.slice (some ⟨blk,off,none⟩) zs.length cap] w fun e w' =>
   e= .returned (.tuple #[])/\∃ n os,w' =grow (putRow (Value.int .i64) (Sort.ahead w n) blk off (zs.mergeSort fun x y=>decide (x<=y)).toArray) os)
  (hE:∀ (p:Option Addr) (cap:Nat) (w:World),Calls P f #[.slice p 0 cap] w fun e w' =>e= .returned (.tuple #[])/\w' =w):di P prom f Dg:=by
 refine ⟨hcan,fun args H l v H1 hrun w G I N I6 hp _=> ?_⟩;unfold Dg at hrun;split at hrun
 .split at hrun
  .rename_i hm
   simp only [c9] at hm;have hb:=k9 hm.2;split at hrun
   .rename_i vs hvs
    split at hrun
    .rename_i xs hxs
     split at hrun
     .rename_i H2 hw
      cases hrun;obtain ⟨old,ho,hl,rfl⟩:=rd_some hvs;have hx:=lX hxs;obtain ⟨g1,g2,g3⟩:=holds_of hp.hr ho hl hx;have hH:=vz ho hw;subst hH;obtain ⟨x,rfl,hv⟩:=ku hp.args;obtain ⟨_,cap,rfl,_⟩:=hv;subst g3;refine (hS _ _ cap xs w g1 g2 (by omega)).mono ?_;rintro e w' ⟨rfl,n,os,rfl⟩;rw [xG];exact ⟨_,G,I,N,rfl,IF hp (ys:=cu xs) ho (by grind [FJ]) hm.1 (me _ _ _ _ _ _ _) (by simp_all [VR,H8])⟩
     .cases hrun
    .cases hrun
   .cases hrun
  .cases hrun
 .cases hrun
  obtain ⟨x,rfl,hv⟩:=ku hp.args;simp [VR,DR] at hv;have key:∃ p cap,x= .slice p 0 cap:=by
   grind
  obtain ⟨p,cap,rfl⟩:=key;refine (hE p cap w).mono ?_;rintro e w' ⟨rfl,rfl⟩;exact ⟨_,G,I,N,rfl,pQ hp (by simp_all [VR,H8])⟩
 .cases hrun
def EA {P:Program}{prom:FuncId->Bool}{f:FuncId}(hcan:T3 P f=true)
  (hS:∀ (blk off cap:Nat) (zs:List Int) (w:World),Holds (Value.int .i64) w blk off zs.toArray->zs.length<=9223372036854775807->zs.length<=cap->Calls P f #[.slice (some ⟨blk,off,none⟩) zs.length cap] w fun e w' =>
   e= .returned (.slice (some ⟨blk,off,none⟩) (Lib.compact zs).length cap)/\∃ q,w' =putRow (Value.int .i64) (Sort.ahead w q) blk off (Lib.compact zs++j4 (zs.length - (Lib.compact zs).length) 0).toArray):di P prom f kO:=by
 refine ⟨hcan,fun args H l v H1 hrun w G I N I6 hp _=> ?_⟩;unfold kO at hrun;split at hrun
 .rename_i id lo len
  split at hrun
  .rename_i hm
   simp only [c9] at hm;have hb:=k9 hm.2;split at hrun
   .rename_i vs hvs
    split at hrun
    .rename_i xs hxs
     split at hrun
     .rename_i H2 hw
      cases hrun;obtain ⟨old,ho,hl,rfl⟩:=rd_some hvs;have hx:=lX hxs;obtain ⟨g1,g2,g3⟩:=holds_of hp.hr ho hl hx;have hH:=vz ho hw;subst hH;obtain ⟨x,rfl,hv⟩:=ku hp.args;obtain ⟨hN,cap,rfl,hcap,c,e0,f0,k1,k2⟩:=hv;subst g3;refine (hS _ _ cap xs w g1 (by omega) hcap).mono ?_;rintro e w' ⟨rfl,q,rfl⟩;rw [Ez];have hd:=vQ xs;have hR:=me (Value.int .i64) w q (I id).1 ((I id).2+lo) (aU xs++j4 (xs.length - (aU xs).length) 0) #[];obtain ⟨c',u1,u2,_⟩:=hR.here c e0 f0 k1;refine ⟨_,G,I,N,rfl,IF hp (ys:=aU xs++j4 (xs.length - (aU xs).length) 0) ho (by simp;omega) hm.1 hR ?_⟩;simp_all [VR]<;>omega
     .cases hrun
    .cases hrun
   .cases hrun
  .cases hrun
 .cases hrun
def Qz {P:Program}{prom:FuncId->Bool}{f:FuncId}(hcan:T3 P f=true)
  (hR:∀ w:World,Calls P f #[.slice none 0 0,.int .i64 0] w fun e w' =>e= .returned (.slice none 0 0)/\w' =w)
  (hG:∀ (n:Nat) (w:World),0<n->n<=1000000->Calls P f #[.slice none 0 0,.int .i64 n] w fun e w' =>∃ (cap:Nat) (c:Array Value) (t:TypeId),e= .returned (.slice (some ⟨w.heap.size,0,none⟩) 0 cap)/\w' =w.drew.alloc (.cells c t)/\c.size=cap):di P prom f Df:=by
 refine ⟨hcan,fun args H l v H1 hrun w G I N I6 hp _=> ?_⟩;unfold Df at hrun;split at hrun
 .rename_i n
  split at hrun
  .cases hrun
   obtain ⟨m,rfl⟩:∃ m:Nat,n=m:=⟨n.toNat,by omega⟩;have ha:=hp.args;simp [H8,VR,DR] at ha;have hv:I6= #[.slice none 0 0,.int .i64 m]:=by
    grind
   subst hv
   rcases Nat.eq_zero_or_pos m with rfl|h0
   .refine (hR w).mono ?_
    rintro e w' ⟨rfl,rfl⟩;exact ⟨_,G,I,N,rfl,pQ hp (by simp [VR])⟩
   .refine (hG m w h0 (by omega)).mono ?_
    rintro e w' ⟨cap,c,t,rfl,rfl,hc⟩;have hN:iG w (w.drew.alloc (.cells c t)) (.cells c t):=(iG.alloc w (.cells c t)).drew (w.drawn+1) (Nat.le_succ _);refine ⟨_,fV G w.heap.size (.grow 0 .ret),I,N,rfl,?_,hN.hr hp.wf _ (fun _ _=>rfl) (fun _ h=>h) hp.hr,hN.wf hp.wf _,hN.ext hp.wf _,hN.eE hp.wf _ _,fun _ _ _=>rfl,fun _ h=>h,fun _ _ h=>h,hp.bt,fun _ o' _ ho=>Or.inr ⟨o',ho,o5 _⟩,hp.U7⟩;exact ⟨rfl,Or.inr ⟨by simp,w.heap.size,0,cap,c,t,_,rfl,N6 _,hN.new,by omega,lz _,by simp,by simp [eo]⟩⟩
  .cases hrun
 .cases hrun
def lK {α:Type} [Inhabited α] (enc:α->List Value)(k:Nat)(hk:∀ x,(enc x).length=k)(l:List α):flatK enc k l.toArray=(l.flatMap enc).toArray:=by
 have hl:∀ l:List α,(l.flatMap enc).length=l.length * k:=fun l=>by
  induction l with
  |nil=>simp
  |cons a l ih=>rw [List.flatMap_cons,n9,ih,hk,q6,Nat.add_mul];omega
 have key:∀ (l:List α) (t:Nat),t<l.length * k->(l.flatMap enc)[t]! =(enc l[t / k]!)[t % k]! :=fun l=>by
  induction l with
  |nil=>intro t h;simp at h
  |cons a l ih =>
   intro t h;rw [q6,Nat.add_mul,Nat.one_mul] at h;have k0:0<k:=by
    rcases Nat.eq_zero_or_pos k with h0|h0
    .subst h0;omega
    .exact h0
   rw [List.flatMap_cons]
   rcases s5 t k with h1|h1
   .rw [Nat.div_eq_of_lt h1,Nat.mod_eq_of_lt h1,List.getElem!_eq_getElem?_getD,q7 (by rw [hk];exact h1),<- List.getElem!_eq_getElem?_getD]
    rfl
   .obtain ⟨s,rfl⟩:∃ s,t=s+k:=⟨t - k,by omega⟩
    rw [Nat.add_div_right _ k0,Nat.add_mod_right,List.getElem!_eq_getElem?_getD,p7 (by rw [hk];omega),hk,Nat.add_sub_cancel,<- List.getElem!_eq_getElem?_getD,ih s (by omega)]
    congr 2
 refine ext_get! (by simp [hl]) fun t ht=> ?_
 have ht' :t<l.length * k:=by simpa using ht
 rw [get_flatK _ _ _ _ (by simpa using ht'),List.getElem!_toArray,List.getElem!_toArray,key l t ht']
def uZ:Data->Option Value
 | .int k n=>some (.int k n)
 | .bool b=>some (.bool b)
 |_=>none
def pI {d:Data}{u v:Value}{G:Gh}{w:World}(h:uZ d=some u):DR G w d v↔v=u:=by
 cases d<;>simp only [uZ,reduceCtorEq,Option.some.injEq] at h<;>subst h<;>simp only [DR]
def QG {G:Gh}{I:Q9}{N:Nat->Prop}{w:World}{H:q8}(hr:HR G I N w H){id lo len:Nat}{old:List j3}{ds:List Data}{us:List Value}(ho:H[id]? =some (.cells old))(hl:lo+len<=old.length)(hx:(old.drop lo).take len=ds.map .d)
  (hu:ds.length=us.length) (hd:∀ (j:Nat) (d:Data) (u:Value),ds[j]? =some d->us[j]? =some u->uZ d=some u):Holds _root_.id w (I id).1 ((I id).2+lo) us.toArray/\(I id).1<w.heap.size/\ds.length=len:=by
 have hO:=hr id _ ho;simp only [OR] at hO;obtain ⟨hN,c,e,f,h1,h2,h3,h4,h5⟩:=hO;have hlen:ds.length=len:=by
  have:=congrArg List.length hx;simp at this;omega
 refine ⟨fun j hj=> ?_,?_,hlen⟩
 .have hj0:j<us.length:=by simpa using hj
  have hj' :j<ds.length:=by omega
  have e1:old[lo+j]? =some (.d ds[j]):=by
   have:=congrArg (·[j]?) hx;simp only [List.getElem?_take,List.getElem?_drop,List.getElem?_map] at this;rw [if_pos (by omega)] at this;rw [this,l5 hj'];rfl
  obtain ⟨v,g1,g2⟩:=h5 _ _ e1;simp only [VR] at g2;have g2:=(pI (hd j _ us[j] (l5 hj') (l5 hj0))).1 g2;subst g2;constructor
  .show w.cell? (ad (I id).1 ((I id).2+lo+j))=_
   simp only [World.cell?,h1];rw [Nat.add_assoc,g1];simp [hj0]
  .show w.frozen? (ad (I id).1 ((I id).2+lo+j))=_
   have hlt:(I id).2+lo+j<c.size:=by
    have:=h4;omega
   have:=h3 _ hlt;simp only [World.frozen?,h1];simpa using this
 .rcases s5 (I id).1 w.heap.size with h|h
  .exact h
  .rw [Array.getElem?_eq_none h] at h1;cases h1
def F1.vals (f:F1):List Value:=[.int .i64 f.src.1,.int .i64 f.src.2,.int .i64 f.dst.1,.int .i64 f.dst.2,.bool f.dat]
theorem lN:∀ (n:Nat) (cs:List Data) (fs:List F1),cs.length<=n->nF cs=some fs->cs=fs.flatMap F1.enc
 |_,[],fs,_,h=>by cases h;rfl
 |0,c::cs,fs,hn,h=>by simp at hn
 |n+1,c::cs,fs,hn,h=>by
  unfold nF at h;split at h
  .rename_i heq;cases heq
  .rename_i a b c' d t r heq
   cases heq;split at h
   .rename_i l hl
    cases h;rw [List.flatMap_cons,<- lN n r l (by simp at hn;omega) hl];rfl
   .cases h
  .cases h
def pe (fs:List F1):(fs.flatMap F1.enc).length=fs.length * 5:=by
 induction fs with
 |nil=>rfl
 |cons a l ih=>rw [List.flatMap_cons,n9,ih,q6];simp [F1.enc];omega
def oZ (fs:List F1):(fs.flatMap F1.vals).length=fs.length * 5:=by
 induction fs with
 |nil=>rfl
 |cons a l ih=>rw [List.flatMap_cons,n9,ih,q6];simp [F1.vals];omega
theorem kF:∀ (fs:List F1) (j:Nat) (d:Data) (u:Value),(fs.flatMap F1.enc)[j]? =some d->(fs.flatMap F1.vals)[j]? =some u->uZ d=some u
 |[],j,d,u,h,_=>by simp at h
 |f::fs,j,d,u,h,h2=>by
  rw [List.flatMap_cons] at h h2
  rcases s5 j 5 with hj|hj
  .rw [q7 (by simpa [F1.enc] using hj)] at h
   rw [q7 (by simpa [F1.vals] using hj)] at h2;unfold F1.enc at h;unfold F1.vals at h2
   match j,hj with
   |0,_=>cases h;cases h2;rfl
   |1,_=>cases h;cases h2;rfl
   |2,_=>cases h;cases h2;rfl
   |3,_=>cases h;cases h2;rfl
   |4,_=>cases h;cases h2;rfl
  .rw [p7 (by simpa [F1.enc] using hj)] at h
   rw [p7 (by simpa [F1.vals] using hj)] at h2;exact kF fs _ d u h h2
theorem MY:∀ {vs:List j3} {cs:List Data},cs.all Data.flat=true->M5 vs=some cs->vs=cs.map .d
 |[],cs,_,h=>by cases h;rfl
 |v::vs,cs,hf,h=>by
  unfold M5 at h;split at h
  .rename_i x hx
   split at h
   .rename_i xs hxs
    cases h;simp only [List.all_cons,c9] at hf;rw [E0,<- MY hf.2 hxs];have:v= .d x:=by
     have h1:=hf.1;cases v<;>simp only [j3.data?,Option.some.injEq,reduceCtorEq] at hx<;>subst hx<;>first|rfl|(simp [Data.flat] at h1)
    rw [this]
   .cases h
  .cases h
theorem GY:∀ fs:List F1,(fs.flatMap F1.enc).all Data.flat=true
 |[]=>rfl
 |f::fs=>by rw [List.flatMap_cons,List.all_append,GY fs];rfl
theorem yI:∀ l:List Data,B8 (l.map .d)=0
 |[]=>rfl
 |a::l=>by simp [B8,j3.L7,yI l]
def Mn {P:Program}{prom:FuncId->Bool}{f g:FuncId}(hcan:T3 P f=true)
  (hS:∀ (blk off cap:Nat) (fs:List F1) (w:World),HoldsK F1.vals 5 w blk off fs.toArray->blk<w.heap.size->fs.length<4611686018427387904->Calls P f #[.slice (some ⟨blk,off,none⟩) fs.length cap,.func (.func g) #[] #[]] w fun e w' =>
   e= .returned (.tuple #[])/\∃ n os,w' =grow (putRowK F1.vals 5 (Sort.ahead w n) blk off (cL fs).toArray) os)
  (hE:∀ (p:Option Addr) (cap:Nat) (fv:Value) (w:World),Calls P f #[.slice p 0 cap,fv] w fun e w' =>e= .returned (.tuple #[])/\w' =w):di P prom f (uY g):=by
 refine ⟨hcan,fun args H l v H1 hrun w G I N I6 hp _=> ?_⟩;have two:∀ {a:j3} {g' :FuncId},H8 G I N w [a,.func g' [] []] I6.toList->∃ x,I6= #[x,.func (.func g') #[] #[]]/\VR G I N w .none a x:=fun {a g'} h=>by
  simp only [H8,VR] at h;obtain ⟨x,xs,h1,h2,y,ys,rfl,⟨c1,c2,rfl,e1,e2⟩,rfl⟩:=h;have e1:c1= #[]:=Array.ext' (by simpa using e1);have e2:c2= #[]:=Array.ext' (by simpa using e2);subst e1 e2;exact ⟨x,Array.ext' (by rw [h1]),h2⟩
 unfold uY at hrun;split at hrun
 .rename_i H l id lo len g'
  split at hrun
  .rename_i hm
   obtain ⟨rfl,hm,hn⟩:=hm;split at hrun
   .rename_i vs hvs
    split at hrun
    .rename_i cs hcs
     split at hrun
     .rename_i fs CJ
      split at hrun
      .rename_i H2 hw
       cases hrun;obtain ⟨old,ho,hl,rfl⟩:=rd_some hvs;have hc:=lN _ _ _ (o5 _) CJ;subst hc;have hx:=MY (GY fs) hcs;obtain ⟨g1,g2,g3⟩:=QG hp.hr (us:=fs.flatMap F1.vals) ho hl hx (by rw [pe,oZ]) (kF fs);have hH:=vz ho hw;subst hH;obtain ⟨x,rfl,hv⟩:=two hp.args;simp only [VR] at hv;obtain ⟨_,cap,rfl,_⟩:=hv;have hlen:fs.length=len:=by
        rw [pe] at g3;omega
       subst hlen;refine (hS _ _ cap fs w (by unfold HoldsK;rw [lK F1.vals 5 (fun _=>rfl)];exact g1) g2 (by omega)).mono ?_;rintro e w' ⟨rfl,n,os,rfl⟩;unfold putRowK;rw [lK F1.vals 5 (fun _=>rfl)];have hR:=me _root_.id w n (I id).1 ((I id).2+lo) ((cL fs).flatMap F1.vals) os;rw [List.map_id] at hR;refine ⟨_,G,I,N,rfl,Dp hp (us:=(cL fs).flatMap F1.vals) (by rw [A1,pe,oZ]) (yI _) (fun j a u ha hu G I N w p=> ?_) ho (by rw [oZ,vm];exact hl) hm hR (by simp only [VR];exact ⟨#[],rfl,by simp [H8]⟩)⟩;rw [List.getElem?_map,Option.map_eq_some_iff] at ha;obtain ⟨d,hd,rfl⟩:=ha;simp only [VR];exact (pI (kF _ _ _ _ hd hu)).2 rfl
      .cases hrun
     .cases hrun
    .cases hrun
   .cases hrun
  .cases hrun
 .rename_i H l cs g'
  split at hrun
  .rename_i hg
   subst hg;cases hrun;obtain ⟨x,rfl,hv⟩:=two hp.args;simp only [VR,DR] at hv;have key:∃ p cap,x= .slice p 0 cap:=by
    rcases hv with ⟨hv|⟨a,hv⟩,_⟩|⟨b,o,cap,hv,_⟩
    .exact ⟨_,_,hv⟩
    .exact ⟨_,_,hv⟩
    .exact ⟨_,_,hv⟩
   obtain ⟨p,cap,rfl⟩:=key;refine (hE p cap _ w).mono ?_;rintro e w' ⟨rfl,rfl⟩;exact ⟨_,G,I,N,rfl,pQ hp (by simp only [VR];exact ⟨#[],rfl,by simp [H8]⟩)⟩
  .cases hrun
 .cases hrun
end Go.Abs
namespace Go.Proofs.YtibjocmpkoepoaaGreat
open Go.Abs Go.Abs.S
attribute [local irreducible] Rx Ry Rn Ex Pf
def A0:Abs.Prog:=⟨fnOf,idleOf,modeOf,fun _=>none⟩
def au5 [D5]:qW Tryz.prog A0:=⟨A_idle,fun f p h=>(by cases h),fun f af _ h=>A_fn f af h⟩
def aF3 (a:Int):Pf A0 136 [.d (num a)] (.d (.bool false)):=by
 refine Pf.run [.d (num a),.any] rfl rfl rfl rfl ?_;refine gr ?_;exact ⟨_,rfl,by simp [j9,o9]⟩
def q83 (a b:Int):Pf A0 83 [.d (num a),.d (num b)] (.d (num (kB a b))):=by
 refine Pf.run [.d (num a),.d (num b),.any,.any,.any] rfl rfl rfl rfl ?_;have p1:=aF3 a;have p2:=aF3 b
 repeat' (first|refine Cv p1 ?_|refine Cv p2 ?_|refine gx ?_|fail)
 refine tb (false) (fun h1=> ?_) (fun h1=> ?_)
 .cases h1
 refine gr ?_;refine tb (false) (fun h2=> ?_) (fun h2=> ?_)
 .cases h2
 refine gr ?_;refine tb (F3 a b) (fun h3=> ?_) (fun h3=> ?_)
 .have:=C6 h3
  refine gr ?_;have e:kB a b= -1:=by unfold kB;rw [if_pos this]
  rw [e]
  first|exact ⟨_,rfl,rfl⟩|(simp [j9];done)
 have:=C5 h3;refine gr ?_;refine tb (F3 b a) (fun h4=> ?_) (fun h4=> ?_)
 .have:=C6 h4
  refine gr ?_;have e:kB a b=1:=by unfold kB;rw [if_neg (by omega),if_pos this]
  rw [e]
  first|exact ⟨_,rfl,rfl⟩|(simp [j9];done)
 have:=C5 h4;refine gr ?_;have e:kB a b=0:=by unfold kB;rw [if_neg (by omega),if_neg (by omega)]
 rw [e]
 first|exact ⟨_,rfl,rfl⟩|(simp [j9];done)
def Ym:List Int->Int
 |[]=>0
 |a::l=>if u0 a 0 then Ym l else a
def q82 (l:List Int)(hl:l.length<=1000000):Pf A0 82 [.d (ints l)] (.d (num (Ym l))):=by
 refine Pf.run [.d (ints l),.any,.any,.any,.any,.any,.any] rfl rfl rfl rfl ?_;refine gr ?_;refine Ex.N5 (fun k T H=>∃ (i:Nat) (w0 w1 w3:j3),T=[w0,w1,.d (num 0),w3,.d (ints l),.d (num l.length),.d (num i)]/\H=[]/\i+k=l.length/\Ym l=Ym (l.drop i)) (by rintro _ _ _ ⟨_,_,_,_,rfl,rfl,_⟩;rfl) ?_ (k:=l.length) ⟨0,_,_,_,rfl,rfl,by simp,rfl⟩;rintro k _ _ ⟨i,w0,w1,w3,rfl,rfl,hk,ho⟩;refine Ex.nT ?_;refine Ex.seq ?_;refine tb (F3 i l.length) (fun h2=> ?_) (fun h2=> ?_)
 .have h3:=C6 h2
  rw [D4 (by omega),Ym] at ho;refine gr ?_;refine tb (!u0 (nth l i) 0) (fun h4=> ?_) (fun h4=> ?_)
  .refine gr ?_
   rw [if_neg (by simpa using h4)] at ho;rw [ho]
   first|exact ⟨_,rfl,rfl⟩|(simp [j9];done)
  .refine gr ?_
   rw [if_pos (by simpa using h4)] at ho;exact ⟨k - 1,by omega,i+1,_,_,_,rfl,rfl,by omega,ho⟩
 .have h3:=C5 h2
  rw [n5 (by omega)] at ho;rw [ho];refine gr ?_
  first|exact ⟨_,rfl,rfl⟩|(simp [j9];done)
def Im (p:K5):j3:= .agg [.d (num p.1),.d (num p.2)]
def Mb (a b:K5):Pf A0 118 [Im a,Im b] (.d (num (uD a b))):=by
 refine Pf.run [Im a,Im b,.any,.any,.any] rfl rfl rfl rfl ?_;unfold Im;have p1:=q83 a.1 b.1;have p2:=q83 a.2 b.2;have p3:=q82 [kB a.1 b.1,kB a.2 b.2] (by simp);have e:uD a b=Ym [kB a.1 b.1,kB a.2 b.2]:=by
  unfold uD;simp only [Ym,o9]
  by_cases h:kB a.1 b.1=0
  .by_cases h2:kB a.2 b.2=0<;>simp [h,h2]
  .simp [h]
 rw [e]
 repeat' (first|refine Cv p1 ?_|refine Cv p2 ?_|refine Cv p3 ?_|refine bsv [num (kB a.1 b.1),num (kB a.2 b.2)] ?_|refine gx ?_|fail)
 first|exact ⟨_,rfl,rfl⟩|(simp [j9];done)
def ba6 (a b:Bool):Pf A0 165 [.d (.bool a),.d (.bool b)] (.d (num (cfB a b))):=by
 refine Pf.run [.d (.bool a),.d (.bool b),.any] rfl rfl rfl rfl ?_;cases a<;>cases b
 all_goals
  repeat' (first|refine gx ?_|refine Ex.O6 ?_|refine Ex.O8 ?_|refine Ex.cond rfl (fun ht=> ?_) (fun ht=> ?_)|refine Ex.test (Rn.text ?_)|refine Ex.test (Rn.draw ?_)|refine ⟨_,rfl,fun ht=> ?_,fun ht=> ?_⟩|refine ⟨_,rfl,?_⟩|fail)
  all_goals first|rfl|(exfalso;revert ht;decide)|(rename_i h;exfalso;revert h;decide)
def Lk (f:F1):j3:= .agg [.d (num f.src.1),.d (num f.src.2),.d (num f.dst.1),.d (num f.dst.2),.d (.bool f.dat)]
def ba5 (a b:F1):Pf A0 164 [Lk a,Lk b] (.d (num (Sq a b))):=by
 refine Pf.run [Lk a,Lk b,.any,.any,.any] rfl rfl rfl rfl ?_;unfold Lk;have p1:=Mb a.src b.src;have p2:=Mb a.dst b.dst;have p3:=ba6 a.dat b.dat;have p4:=q82 [uD a.src b.src,uD a.dst b.dst,cfB a.dat b.dat] (by simp);have e:Sq a b=Ym [uD a.src b.src,uD a.dst b.dst,cfB a.dat b.dat]:=by
  unfold Sq;simp only [Ym,o9]
  by_cases h:uD a.src b.src=0
  .by_cases h2:uD a.dst b.dst=0
   .by_cases h3:cfB a.dat b.dat=0<;>simp [h,h2,h3]
   .simp [h,h2]
  .simp [h]
 rw [e];unfold Im at p1 p2
 repeat' (first|refine Cv p1 ?_|refine Cv p2 ?_|refine Cv p3 ?_|refine Cv p4 ?_|refine lqo ?_|refine bsv [num (uD a.src b.src),num (uD a.dst b.dst),num (cfB a.dat b.dat)] ?_|refine gx ?_|fail)
 first|exact ⟨_,rfl,rfl⟩|(simp [j9];done)
end Go.Proofs.YtibjocmpkoepoaaGreat
namespace Go.Abs
def GD (a b:K5):uD a b=0↔a.1=b.1/\a.2=b.2:=by
 unfold uD kB;split<;>(repeat' split)<;>omega
def bn (b:Bool):Int:=if b then 0 else 1
def ae8 (a b:Bool):cfB a b<0↔bn a<bn b:=by cases a<;>cases b<;>decide
def uC (a b:F1):Sq a b<0↔(a.src.1<b.src.1\/(a.src.1=b.src.1/\(a.src.2<b.src.2\/(a.src.2=b.src.2/\(a.dst.1<b.dst.1\/(a.dst.1=b.dst.1/\(a.dst.2<b.dst.2\/(a.dst.2=b.dst.2/\bn a.dat<bn b.dat)))))))):=by
 have h1:=iI a.src b.src;have h2:=GD a.src b.src;have h3:=iI a.dst b.dst;have h4:=GD a.dst b.dst;have h5:=ae8 a.dat b.dat;unfold Sq;split
 .rw [h1];omega
 .split
  .rw [h3];omega
  .rw [h5];omega
def ae3 {a b:Bool}(h:bn a=bn b):a=b:=by cases a<;>cases b<;>first|rfl|(exact absurd h (by decide))
end Go.Abs
namespace Go.Proofs.YtibjocmpkoepoaaGreat
open Go.Abs Go.Sort Go.Proofs
def bb7:SWO (ltOf uD) where
 irrefl x:=by simp only [ltOf,decide_eq_false_iff_not,iI];omega
 trans x y z h1 h2:=by simp only [ltOf,decide_eq_true_eq,iI] at *;omega
 ntrans x y z h1 h2:=by simp only [ltOf,decide_eq_false_iff_not,iI] at *;omega
def aI2 (x y:K5)(h1:ltOf uD x y=false)(h2:ltOf uD y x=false):x=y:=by
 simp only [ltOf,decide_eq_false_iff_not,iI] at *
 exact Prod.ext (by omega) (by omega)
def bb6:SWO (ltOf Sq) where
 irrefl x:=by simp only [ltOf,decide_eq_false_iff_not,uC];omega
 trans x y z h1 h2:=by simp only [ltOf,decide_eq_true_eq,uC] at *;omega
 ntrans x y z h1 h2:=by simp only [ltOf,decide_eq_false_iff_not,uC] at *;omega
def aI1 (x y:F1)(h1:ltOf Sq x y=false)(h2:ltOf Sq y x=false):x=y:=by
 simp only [ltOf,decide_eq_false_iff_not,uC] at *
 obtain ⟨⟨a,b⟩,⟨c,d⟩,e⟩:=x;obtain ⟨⟨a',b'⟩,⟨c',d'⟩,e'⟩:=y;simp only at h1 h2;obtain rfl:a=a' :=by omega
 obtain rfl:b=b' :=by omega
 obtain rfl:c=c' :=by omega
 obtain rfl:d=d' :=by omega
 obtain rfl:e=e' :=ae3 (by omega);rfl
def K5.vals (p:K5):List Value:=[.int .i64 p.1,.int .i64 p.2]
def VG {G:Gh}{I:Q9}{N:Nat->Prop}{w:World}(f:F1):VR G I N w .none (Lk f) (.agg (F1.vals f).toArray):=by
 simp only [Lk,VR];exact ⟨_,rfl,by simp only [F1.vals,H8,VR,DR];exact ⟨_,_,rfl,rfl,_,_,rfl,rfl,_,_,rfl,rfl,_,_,rfl,rfl,_,_,rfl,rfl,rfl⟩⟩
def VH {G:Gh}{I:Q9}{N:Nat->Prop}{w:World}(f:K5):VR G I N w .none (Im f) (.agg (K5.vals f).toArray):=by
 simp only [Im,VR];exact ⟨_,rfl,by simp only [K5.vals,H8,VR,DR];exact ⟨_,_,rfl,rfl,_,_,rfl,rfl,rfl⟩⟩
def Sx {f:FuncId}{a b:j3}{x y:Value}{n:Int}(h:Pf A0 f [a,b] (.d (num n)))(hv:∀ w,H8 (G0 w) (fun _=>(0,0)) (fun _=>False) w [a,b] [x,y])(w:World) :
  Calls Tryz.prog f #[x,y] w fun e w' =>e= .returned (.int .i64 n)/\∃ q os,w' =grow (w.drewN q) os:=by
 obtain ⟨N,hN⟩:=h;refine (@La ⟨True⟩ trivial Tryz.prog A0 (@au5 ⟨True⟩) N f [a,b] #[x,y] w _ (hN N (o5 _)) (hv w)).mono ?_;rintro e w' ⟨v,G',I',N',rfl,hv,hw⟩;simp only [VR,DR] at hv;subst hv;exact ⟨rfl,hw⟩
def aO4 (blk off size:Nat)(w:World):CmpLays Tryz.prog 164 #[] F1.vals 5 Sq blk off size w:=fun m os dk _ x y =>
 Sx (ba5 x y) (fun w=>by simp only [H8];exact ⟨_,_,rfl,VG x,_,_,rfl,VG y,rfl⟩) _
def aO5 (blk off size:Nat)(w:World):CmpLays Tryz.prog 118 #[] K5.vals 2 uD blk off size w:=fun m os dk _ x y =>
 Sx (Mb x y) (fun w=>by simp only [H8];exact ⟨_,_,rfl,VH x,_,_,rfl,VH y,rfl⟩) _
def YN (blk off cap:Nat)(fs:List F1)(w:World)(h1:HoldsK F1.vals 5 w blk off fs.toArray)(h2:blk<w.heap.size)(h3:fs.length<4611686018427387904):Calls Tryz.prog 163 #[.slice (some ⟨blk,off,none⟩) fs.length cap,.func (.func 164) #[] #[]] w fun e w' =>
   e= .returned (.tuple #[])/\∃ n os,w' =grow (putRowK F1.vals 5 (Sort.ahead w n) blk off (cL fs).toArray) os:=by
 have eg:∀ args w,(callFunc 164 args).run Tryz.prog w= .ok (.enter 164 args) w:=enters_of Tryz.func164 (by kernel_rfl) rfl;rw [cL,<- wK (fun a b c h1 h2=>by rw [uC] at *;omega) (fun a b h=>by rw [uC] at *;omega) (fun a b h1 h2=>aI1 a b (by simpa [ltOf] using h2) (by simpa [ltOf] using h1)) fs];exact AnyQ.slices_SortFunc_total Tryz.sortQ 5 (fun w=>by kernel_rfl) (fun w=>by kernel_rfl) F1.vals (fun _=>rfl) (fun x v hv=>by simp [F1.vals] at hv;rcases hv with rfl|rfl|rfl|rfl|rfl<;>rfl) Sq bb6 164 #[] blk off cap fs.toArray w eg (aO4 blk off _ w) h1 h2 h3 aI1
def YO (blk off cap:Nat)(ps:List K5)(w:World)(h1:HoldsK K5.vals 2 w blk off ps.toArray)(h2:blk<w.heap.size)(h3:ps.length<4611686018427387904):Calls Tryz.prog 89 #[.slice (some ⟨blk,off,none⟩) ps.length cap,.func (.func 118) #[] #[]] w fun e w' =>
   e= .returned (.tuple #[])/\∃ n os,w' =grow (putRowK K5.vals 2 (Sort.ahead w n) blk off (sortP ps).toArray) os:=by
 have eg:∀ args w,(callFunc 118 args).run Tryz.prog w= .ok (.enter 118 args) w:=enters_of Tryz.func118 (by kernel_rfl) rfl;rw [Go.Abs.sortP,<- wK (fun a b c h1 h2=>by rw [iI] at *;omega) (fun a b h=>by rw [iI] at *;omega) (fun a b h1 h2=>aI2 a b (by simpa [ltOf] using h2) (by simpa [ltOf] using h1)) ps];exact AnyQ.slices_SortFunc_total Tryz.sortP 2 (fun w=>by kernel_rfl) (fun w=>by kernel_rfl) K5.vals (fun _=>rfl) (fun x v hv=>by simp [K5.vals] at hv;rcases hv with rfl|rfl<;>rfl) uD bb7 118 #[] blk off cap ps.toArray w eg (aO5 blk off _ w) h1 h2 h3 aI2
def Yo (prom:FuncId->Bool):di Tryz.prog prom 163 (uY 164) :=
 Mn (by kernel_rfl) YN fun p cap fv w=>AnyF.slices_SortFunc_none (P:=Tryz.prog) (ρ:=Tryz.sortQ_ren) { Tryz.sortQ with } p cap fv w
end Go.Proofs.YtibjocmpkoepoaaGreat
namespace Go.Proofs.YtibjocmpkoepoaaGreat
open Go.RowKit Go.Maps
def pv (p:Int×Int):Value:= .agg #[.int .i64 p.1,.int .i64 p.2]
def aI4:Value->Int×Int
 | .agg cs=>match cs.toList with
  |[.int _ a,.int _ b]=>(a,b)
  |_=>(0,0)
 |_=>(0,0)
def YW (p:Int×Int):aI4 (pv p)=p:=rfl
def BW:List (Int×Int)->List Value
 |[]=>[]
 |p::r=> .int .i64 p.1:: .int .i64 p.2::BW r
theorem GV (p:Int×Int):∀ l:List (Int×Int),BW (l++[p])=BW l++[.int .i64 p.1,.int .i64 p.2]
 |[]=>rfl
 |q::l=>by simp [B7,BW,GV p l]
theorem fF:∀ l:List (Int×Int),(BW l).length=l.length * 2
 |[]=>rfl
 |q::l=>by simp [BW,q6,fF l];omega
def yw (es:Array MapEntry)(seen:Array Nat)(tp:List (Int×Int)):Prop:=∃ tk:List MapEntry,tk.map (·.key)=tp.map pv/\(tk++(leftOf es seen).toList).Perm es.toList
def yw.start (es:Array MapEntry):yw es #[] []:=⟨[],rfl,by
 grind [leftOf,Array.toList_filter,List.filter_eq_self,List.Perm.refl]⟩
theorem CY (es:Array MapEntry)(seen:Array Nat)(b:Nat):(leftOf es (seen.push b)).toList=(leftOf es seen).toList.filter (fun x=>x.born != b):=by
 grind [leftOf,Array.toList_filter,List.filter_filter,List.filter_congr,Array.contains_push,bne,Bool.and_comm]
theorem Ii:∀ (l:List MapEntry) (e:MapEntry),e ∈ l->(l.map (·.born)).Nodup->(e::l.filter (fun x=>x.born != e.born)).Perm l
 |[],_,h,_=>by cases h
 |x::l,e,h,hn=>by
  simp [E0,List.nodup_cons] at hn
  rcases y7.1 h with rfl|h
  .have:l.filter (fun x=>x.born != e.born)=l:=by
    simp_all
   simp [this]
  .have hx:x.born≠e.born:=by
    grind
   have hx' :(x.born != e.born)=true:=by simp_all
   rw [List.filter_cons,if_pos hx'];exact (List.Perm.swap x e _).trans ((Ii l e h hn.2).cons x)
def yw.step {es:Array MapEntry}{seen:Array Nat}{tp:List (Int×Int)}(h:yw es seen tp)(hn:(es.toList.map (·.born)).Nodup){e:MapEntry}(he:e ∈ (leftOf es seen).toList){p:Int×Int}(hk:e.key=pv p) :
  yw es (seen.push e.born) (tp++[p])/\(leftOf es (seen.push e.born)).size<(leftOf es seen).size:=by
 obtain ⟨tk,h1,h2⟩:=h;have hn' :((leftOf es seen).toList.map (·.born)).Nodup:=by
  grind
 have hp:=Ii _ e he hn';refine ⟨⟨tk++[e],by simp [h1,hk],?_⟩,?_⟩
 .rw [CY,A9]
  exact (List.Perm.append_left tk hp).trans h2
 .have:=hp.length_eq
  grind [CY,q6,Array.length_toList]
def yw.done {es:Array MapEntry}{seen:Array Nat}{tp:List (Int×Int)}(h:yw es seen tp)(h0:(leftOf es seen).size=0){ks:List (Int×Int)}(hk:es.toList.map (·.key)=ks.map pv):tp.Perm ks:=by
 obtain ⟨tk,h1,h2⟩:=h;have e0:(leftOf es seen).toList=[]:=by
  simp_all
 rw [e0,List.append_nil] at h2;have h3:=h2.map (·.key);have h4:=h3.map aI4;simp_all [List.map_map,Function.comp_def,YW]
theorem yw.len {es:Array MapEntry}{seen:Array Nat}{tp:List (Int×Int)}(h:yw es seen tp):tp.length+(leftOf es seen).size=es.size:=by
 obtain ⟨tk,h1,h2⟩:=h;have e1:=congrArg List.length h1;have e2:=h2.length_eq
 grind
def Sm (w:World)(x y:Value)(t:TypeId){k:Nat}(hk:k=w.heap.size):∀ j u,[x,y][j]? =some u->(w.alloc (.cells #[x,y] t)).cell? ((⟨k,0,none⟩:Addr).add j)=some u:=by
 intro j u hj;subst hk;have e:∀ i,(w.alloc (.cells #[x,y] t)).cell? ⟨w.heap.size,i,none⟩= #[x,y][i]? :=fun i=>by
  simp_all
 match j,hj with
 |0,hj=>exact (e 0).trans hj
 |1,hj=>exact (e 1).trans hj
def ZM (w:World)(r:Nat):Nat:=match w.heap[r]? with
 |some (.mapIter (some bm) _ seen _)=>(match w.heap[bm]? with
  |some (.map es _)=>(leftOf es seen).size
  |_=>0)
 |_=>0
section
variable {F:Fence} {n:Nat} {P:Program} (w:World) {ops:Array Oper} {rest:List Oper} {o:Oper} {a:Act} {Q:Exit->Act->World->Prop}
def rW (hg:o.guard=none)(m:Operand)(t:TypeId)(hop:o.op=Op.range t m)(k e:TypeId)(ht:P.underlying t=some (.map k e))(b:Nat)(es:Array MapEntry)(dX:Nat)(hm:a.eval m= .map (some b))(hb:w.heap[b]? =some (.map es dX))
  (hK:wpListIn F n P ops Q rest (a.put o.dst (.pointer (some ⟨w.heap.size,0,none⟩))) (w.alloc (.mapIter (some b) dX #[] dX))) :
  wpListIn F n P ops Q (o::rest) a w:=by
 refine wpListIn_plain hg fun K' hK' => ?_
 have hrun:=run_range_map w t k e b es dX ht hb;refine ⟨?_,?_⟩
 .simp [Oper.about,hop]
 .rw [Oper.semAt_plain F _ _ (by simp_all)]
  simp [execOp,hop,hm,hrun];exact hK' _ _ hK
def tS (hg:o.guard=none)(it:Operand)(hop:o.op=Op.next it false)(b r:Nat)(es:Array MapEntry)(dX:Nat)(seen:Array Nat)(hit:a.eval it= .pointer (some ⟨r,0,none⟩))
  (hr:w.heap[r]? =some (.mapIter (some b) dX seen dX)) (hb:w.heap[b]? =some (.map es dX)) (hold:∀ x ∈ es.toList,x.born<dX) (hn:(es.toList.map (·.born)).Nodup) (hkeys:∀ e ∈ es.toList,∃ p,e.key=pv p) (hbr:b≠r)
  (hDone:(leftOf es seen).size=0->wpListIn F n P ops Q rest (a.put o.dst (.tuple #[.bool false])) w)
  (hMore:∀ (e:MapEntry) (p:Int×Int) (v:Value) (w' :World),e ∈ (leftOf es seen).toList->e.key=pv p->w.grownBy w' (some r)->w'.heap.size=w.heap.size->w'.heap[r]? =some (.mapIter (some b) dX (seen.push e.born) dX)->w'.heap[b]? =some (.map es dX) ->
   (Instr.entry (.pointer (some ⟨r,0,none⟩))).run P w' = .ok (.tuple #[pv p,v]) w' ->wpListIn F n P ops Q rest (a.put o.dst (.tuple #[.bool true,pv p,v])) w') :
  wpListIn F n P ops Q (o::rest) a w:=by
 refine wpListIn_plain hg fun K' hK' => ?_
 refine ⟨by simp [Oper.about,hop],?_⟩;rw [Oper.semAt_plain F _ _ (by simp_all)]
 rcases run_next_at (P:=P) w o.type r b dX dX seen es dX hr hb hold (o5 _) with ⟨h0,hrun⟩|⟨e,he,w1,hw1,hrun⟩
 .simp [execOp,hop,hit,hrun]
  exact hK' _ _ (hDone h0)
 .have QD:e ∈ es.toList:=by
   have:e ∈ (Array.filter (fun e=> !seen.contains e.born) es).toList:=he;simp_all
  obtain ⟨p,hp⟩:=hkeys e QD;simp [execOp,hop,hit,hrun];have hsz:(ChangeMaps.setBlock w1 r (.mapIter (some b) dX (seen.push e.born) dX)).heap.size=w.heap.size:=by
   rcases hw1 with rfl|rfl<;>simp [ChangeMaps.setBlock]
  have hlt:r<w.heap.size:=by
   grind
  have hr' :(ChangeMaps.setBlock w1 r (.mapIter (some b) dX (seen.push e.born) dX)).heap[r]? =some (.mapIter (some b) dX (seen.push e.born) dX):=by
   simp_all [ChangeMaps.setBlock]
  have ay7:∀ k,k≠r->(ChangeMaps.setBlock w1 r (.mapIter (some b) dX (seen.push e.born) dX)).heap[k]? =w.heap[k]? :=by
   intro k hk
   rcases hw1 with rfl|rfl
   .grind [ChangeMaps.setBlock]
   .simp [ChangeMaps.setBlock,Ne.symm hk]
    rfl
  have hb' :=(ay7 b hbr).trans hb;have hen:=run_entry_at (P:=P) _ r b dX seen es dX e hr' hb' QD hn;rw [hp] at hen ⊢;refine hK' _ _ (hMore e p e.val _ he hp ⟨?_,?_,?_,Nat.le_of_eq hsz.symm,fun k _ hk=>ay7 k (fun e=>hk (by rw [e]))⟩ hsz hr' hb' hen)
  all_goals (rcases hw1 with rfl|rfl<;>rfl)
end
def ai8:(Tryz.prog.info? 44).map (fun i=>(i.zero,i.size,i.bytes))=some (some (.agg #[.int .i64 0,.int .i64 0]),2,16):=by kernel_rfl
set_option maxRecDepth 100000 in
set_option maxHeartbeats 2000000 in
def wL (bm:Nat)(es:Array MapEntry)(dX:Nat)(ks srt:List (Int×Int))(w:World)(hb:w.heap[bm]? =some (.map es dX))(hold:∀ x ∈ es.toList,x.born<dX)(hn:(es.toList.map (·.born)).Nodup)(hk:es.toList.map (·.key)=ks.map pv)(hlen:ks.length<=1000000)
  (hsort:∀ (v:Value) (ps:List (Int×Int)) (W:World),W.ownsRow w.heap.size 44 2 v ps.length (BW ps)->ps.Perm ks->Calls Tryz.prog 89 #[v,.func (.func 118) #[] #[]] W fun e W' =>
   e= .returned (.tuple #[])/\W'.ownsRow w.heap.size 44 2 v ps.length (BW srt)/\W.grownBy W' v.ownBlock) :
  Calls Tryz.prog 63 #[.map (some bm)] w fun e w' =>∃ v,e= .returned v/\w'.ownsRow w.heap.size 44 2 v ks.length (BW srt)/\Below w.heap.size w w' :=by
 obtain ⟨i0,hi,hz0,TE,Gj⟩:=info_parts ai8;have hbl:bm<w.heap.size:=by
  grind
 have hkeys:∀ e ∈ es.toList,∃ p,e.key=pv p:=by
  intro e he;have:e.key ∈ ks.map pv:=by grind
  grind
 have bs7:es.size=ks.length:=by
  have:=congrArg List.length hk
  grind
 refine (callsIn_wide (n:=68)).1 ?_;refine callsIn_of_wp Tryz.func63 rfl trivial ?_ rfl;simp only [Tryz.ntmps63,List.size_toArray,q6,B0,Nat.reduceAdd,Nat.reduceSub,Array.replicate_succ,Array.replicate_zero,List.push_toArray,List.append_toArray,B9,B7]
 gi_wp2_with (first
  |(gi_at_range;refine rW _ rfl _ 124 rfl 44 4 Tryz.underlying124 bm es dX rfl hb ?_)
  |gi_in)
 go_frame
 gi_loopw [3] (fun v wr=>∃ (seen:Array Nat) (tp:List (Int×Int)),wr.heap[w.heap.size]? =some (.mapIter (some bm) dX seen dX)/\wr.heap[bm]? =some (.map es dX)/\yw es seen tp/\wr.ownsRow w.heap.size 44 2 v tp.length (BW tp)/\Below w.heap.size w wr)
  (fun _ wr=>ZM wr w.heap.size)
 case atStart =>
  exact ⟨#[],[],heap_alloc_new _ _,(Below.heap_alloc _ _ _ hbl).trans hb,yw.start es,World.ownsRow_nil _ _ _ _,(Below.refl _ _).alloc (o5 _) _⟩
 case round =>
  obtain ⟨seen,tp,hr,hbb,hC,hrow,ZE⟩:=hrel
  gi_wp2_with (first
   |(gi_at_next;refine tS _ rfl _ rfl bm w.heap.size es dX seen rfl hr hbb hold hn hkeys (by omega) ?_ ?_)
   |gi_in)
  .intro h0
   have Hw:=hC.done (by rw [h0];rfl) hk;have hc:=hsort _ tp _ hrow Hw;clear h0
   gi_wp2_with (refine ⟨trivial,?_⟩;gi_at_call 89;refine ((callsIn_wide).2 hc).mono ?_;rintro e w' ⟨rfl,az3,hg'⟩)
   refine ⟨rfl,_,results_tmp rfl _ _ _,u3,rfl,?_,ZE.grown hg' ZE.size (fun j hj=>(hrow.lt j hj).1)⟩;rw [<- Hw.length_eq];exact az3
  .intro e p1 p2 v' w2 he hp hg2 hs2 WS XF hen
   have Tz:=hrow.kept hg2 (by
    by_cases h:u3.ownBlock=none
    .simp_all
    .refine Or.inr fun e1=> ?_
     rcases hrow.2 with ⟨rfl,_⟩|⟨g,cap,cur,rfl,_,hgg,_⟩
     all_goals simp_all [Value.ownBlock,Option.some.injEq])
   have bv0:=hg2.size;have hstep:=hC.step hn (Array.mem_toList_iff.2 he) (p:=(p1,p2)) hp;have bg5:tp.length+1<=1000000:=by
    have:=hC.len;omega
   have aT1:Below w.heap.size w w2:=ZE.grown hg2 ZE.size (fun j hj=>by simp_all);clear hs2;simp only [pv] at hen ⊢
   gi_wp2_with (gi_at_builtin;go_loud (refine wpListIn_append_own _ rfl _ _ 49 rfl w.heap.size 44 i0 _ 2 16 Tryz.underlying49 hi hz0 TE Gj rfl (by decide) _ _ _ rfl ((Tz.alloc _).alloc _) ⟨w2.heap.size+1,0,none⟩ 1 1 [.int .i64 p1,.int .i64 p2] rfl rfl (Sm _ _ _ _ (by simp)) (by simp [Value.oneCell']) (by grind [maxLen]) (by omega) (by simp_all<;>grind) ?_;intro v3 w3 hown' hg3 bg8;go_frame))
   have hg4:World.grownBy _ w3 u3.ownBlock:=hg3;have hkeep:∀ (b:Nat) (o:Obj),w2.heap[b]? =some o->(∀ c t f,o≠Obj.cells c t f)->w3.heap[b]? =some o:=by
    intro b o uu hno;have hlt:b<w2.heap.size:=by
     grind
    rw [hg4.block b (by simp;omega) (fun e1=>by
     rcases Tz.2 with ⟨rfl,_⟩|⟨g,cap,cur,rfl,_,hgg,_⟩
     all_goals simp_all [Value.ownBlock,Option.some.injEq]),Below.heap_alloc _ _ _ (by simp;omega),Below.heap_alloc _ _ _ hlt]
    exact uu
   have hr3:=hkeep _ _ WS (by simp);have hb3:=hkeep _ _ XF (by simp);have aT2:Below w.heap.size w w3:=((aT1.alloc (by grind) _).alloc (by simp_all<;>grind) _).grown hg4 (by simp_all<;>grind) (fun j hj=>(Tz.lt j hj).1)
   go_roundw
   case rel=>exact ⟨_,_,hr3,hb3,hstep.1,by simp_all [GV,n9],aT2⟩
   simp_all [measure,ZM]
#print axioms wL
end Go.Proofs.YtibjocmpkoepoaaGreat
namespace Go.Abs
open Go.RowKit
section
variable {w w' :World} {G G' :Gh} {I:Q9} {N:Nat->Prop} {l:F2} {H:q8}
def ux (hB:Below w.heap.size w w')(hwf:WF G w)(hG:∀ b,b<w.heap.size->G' b=G b):Ext G w G' w' where
 os:=hB.os
 tape:=hB.tape
 output:=hB.output
 size:=hB.size
 jj b o hi:=by
  have hb:b<w.heap.size:=aM hwf (by intro e;simp [gJ,e] at hi);exact ⟨by unfold gJ;rw [hG b hb];exact hi,by simp only [World.cell?,hB.block b hb]⟩
 still b hb:=by
  have hlt:b<w.heap.size:=aM hwf (by intro e;rw [e] at hb;rcases hb with hb|⟨_,hb⟩<;>cases hb);exact ⟨hG b hlt,hB.block b hlt⟩
 shape b c e f hc:=by
  have hlt:b<w.heap.size:=by
   rcases s5 b w.heap.size with h|h
   .exact h
   .rw [Array.getElem?_eq_none h] at hc;cases hc
  exact ⟨c,(hB.block b hlt).trans hc,rfl⟩
 drawn h:=h.elim
def vG (hB:Below w.heap.size w w')(hwf:WF G w)(hG:∀ b,b<w.heap.size->G' b=G b)(q:Place):aK q G w G' w' :=fun b n hb=>by
 have hlt:b<w.heap.size:=aM hwf (by rw [hb];simp);exact ⟨(hG b hlt).trans hb,hB.block b hlt⟩
def yF (hB:Below w.heap.size w w')(hwf:WF G w)(hG:∀ b,b<w.heap.size->G' b=G b)(b id:Nat)(hb:G b= .obj id):G' b= .obj id/\w'.heap[b]? =w.heap[b]? :=by
 have hlt:b<w.heap.size:=aM hwf (by rw [hb];simp);exact ⟨(hG b hlt).trans hb,hB.block b hlt⟩
def yG {args:List j3}{I6:Array Value}(hp:yu l H w G I N args I6)(hB:Below w.heap.size w w')(hG:∀ b,b<w.heap.size->G' b=G b)(hwf' :WF G' w'){v:j3}{x:Value}(hv:VR G' I N w' .ret v x):jZ l H w G I N v H x w' G' I N :=
 ⟨hv,fun id o ho=>OR.mono (ux hB hp.wf hG) (fun _ _=>rfl) (fun _ h=>h) id o (fun h=>yF hB hp.wf hG _ _ h) (fun _=>vG hB hp.wf hG _) (hp.hr id o ho),hwf',ux hB hp.wf hG,
  fun id _=>⟨fun b hb=>yF hB hp.wf hG b id hb,fun _=>vG hB hp.wf hG _⟩,fun _ _ _=>rfl,fun _ h=>h,fun _ _ h=>h,hp.bt,fun _ o' _ ho=>Or.inr ⟨o',ho,o5 _⟩,hp.U7⟩
def DRx (G:Gh)(w:World)(cs:List Data)(news:List Value):Prop:=news.length=cs.length/\∀ (j:Nat) (c:Data),cs[j]? =some c->∃ u,news[j]? =some u/\DR G w c u
theorem eo.of {b:Nat}:∀ (o:Nat) (cs:List Data),(∀ (j:Nat) (c:Data),cs[j]? =some c->gJ G b (o+j)/\∃ u,w.cell? (ad b (o+j))=some u/\DR G w c u)->eo G w b o cs
 |_,[],_=>by simp [eo]
 |o,c::cs,h=>by
  simp only [eo];obtain ⟨h1,h2⟩:=h 0 c rfl;refine ⟨h1,h2,eo.of (o+1) cs fun j c hj=> ?_⟩;have:=h (j+1) c (by simpa using hj)
  rwa [show o+(j+1)=o+1+j by omega] at this
theorem DRx.mono {cs:List Data}{news:List Value}(h:DRx G w cs news)(hx:Ext G w G' w'):DRx G' w' cs news:=⟨h.1,fun j c hj=>by
 obtain ⟨u,h1,h2⟩:=h.2 j c hj;exact ⟨u,h1,DR.mono hx.jj c u h2⟩⟩
def NK {e z n:Nat}{v:Value}{news:List Value}{cs:List Data}(hown:w'.ownsRow w.heap.size e z v n news)(hB:Below w.heap.size w w')(hwf:WF G w)(hd:DRx G w cs news) :
  ∃ G',(∀ b,b<w.heap.size->G' b=G b)/\WF G' w' /\VR G' I N w' .ret (.own z n cs) v:=by
 obtain ⟨h1,h2⟩:=hown;have hl:cs.length=n * z:=by rw [<- hd.1];exact h1
 rcases h2 with ⟨rfl,rfl⟩|⟨g,cap,cur,rfl,hg,hh,hc1,mJ,Zv,hc4⟩
 .refine ⟨G,fun _ _=>rfl,fun b hb=>hwf b (B5 hB.size hb),?_⟩
  simp only [VR];exact ⟨hl,Or.inl ⟨Or.inl trivial,trivial⟩⟩
 .have hlt:g<w'.heap.size:=by
   rcases s5 g w'.heap.size with h|h
   .exact h
   .rw [Array.getElem?_eq_none h] at hh;cases hh
  have hG:∀ b,b<w.heap.size->(fV G g (.grow (0+n * z) .ret)) b=G b:=fun b hb=>G5 (by omega)
  refine ⟨fV G g (.grow (0+n * z) .ret),hG,fun b hb=> ?_,?_⟩
  .rw [G5 (by omega)]
   exact hwf b (B5 hB.size hb)
  .have hd' :=hd.mono (ux hB hwf hG)
   simp only [VR];refine ⟨hl,Or.inr ⟨by simp,g,0,cap,cur,e,(0,0),rfl,hc1,hh,by omega,lz _,by simp,eo.of 0 cs fun j c hj=> ?_⟩⟩;obtain ⟨u,g1,g2⟩:=hd'.2 j c hj;have hjl:j<n * z:=by
    rw [<- hl];exact r9 hj
   refine ⟨by simp [gJ];omega,u,?_,g2⟩;simp only [World.cell?,hh];rw [<- hc4,List.getElem?_take,if_pos hjl] at g1;simpa using g1
def IE {z n:Nat}{cs:List Data}{x:j3}{v:Value}(hr:HR G I N w H)(h:rowOf z H x=some (n,cs))(hv:VR G I N w .none x v) :
  (n=0/\cs=[]/\(v= .slice none 0 0\/∃ a,v= .slice (some a) 0 0))\/∃ (b off c:Nat) (news:List Value),v= .slice (some (ad b off)) n c/\n<=c/\news.length=n * z/\(∀ (j:Nat) (u:Value),news[j]? =some u->w.cell? (ad b (off+j))=some u)/\DRx G w cs news:=by
 unfold rowOf at h;split at h
 .rename_i n' cs'
  split at h
  .rename_i hl
   cases h;simp only [VR,DR] at hv
   rcases hv with ⟨hv|⟨a,hv⟩,h0,h1⟩|⟨b,o,cap,hv,hcap,hd⟩
   .exact Or.inl ⟨h0,h1,Or.inl hv⟩
   .exact Or.inl ⟨h0,h1,Or.inr ⟨a,hv⟩⟩
   .obtain ⟨vs,g1,g2,g3⟩:=eo.vals (I:=I) (N:=N) o _ hd
    have:=gh _ _ _ (nA _) g3;exact Or.inr ⟨_,_,cap,vs,hv,hcap,by rw [g1,hl],g2,g1,this.2⟩
  .cases h
 .rename_i id z' lo n'
  split at h
  .rename_i hz
   subst hz;split at h
   .rename_i vs hvs
    split at h
    .rename_i cs' hcs
     cases h;simp only [VR] at hv;obtain ⟨hN,cap,rfl,hcap,_⟩:=hv
     rcases Nat.eq_zero_or_pos (n * z') with h0|h0
     .have aV0:vs=[]:=by
       obtain ⟨old,_,_,rfl⟩:=rd_some hvs;rw [h0];simp
      subst aV0;simp [M5] at hcs;subst hcs;exact Or.inr ⟨_,_,cap,[],rfl,hcap,by simp [h0],by simp,by simp [DRx]⟩
     .obtain ⟨_,xs,g1,g2,g3,g4⟩:=hr.rd hvs h0
      refine Or.inr ⟨_,_,cap,xs,rfl,hcap,g1,g3,?_,?_⟩
      .rw [g1,(oU vs cs hcs).1,g2]
      .intro j c hj
       obtain ⟨a,k1,k2⟩:=(oU vs cs hcs).2 j c hj;have hjl:j<xs.length:=by
        have:=r9 k1;omega
       refine ⟨xs[j],l5 hjl,?_⟩;have hq:=g4 j a _ k1 (l5 hjl);have WR:=hq.I7 (wC := .none);have ha:a.I7= .d c:=by
        cases a<;>simp [j3.data?] at k2<;>subst k2<;>rfl
       rw [ha] at WR;simpa only [VR] using WR
    .cases h
   .cases h
  .cases h
 .cases h
def Lp {P:Program}{prom:FuncId->Bool}{f:FuncId}{z e:Nat}(hcan:T3 P f=true)
  (hG:∀ (n:Nat) (w:World),0<n->n<=1000000->Calls P f #[.slice none 0 0,.int .i64 n] w fun x w' =>∃ (cap:Nat) (c:Array Value),x= .returned (.slice (some ⟨w.heap.size,0,none⟩) 0 cap)/\w' =w.drew.alloc (.cells c e)/\c.size=cap * z):di P prom f (uX z):=by
 refine ⟨hcan,fun args H l v H1 hrun w G I N I6 hp _=> ?_⟩;unfold uX at hrun;split at hrun
 .rename_i n
  split at hrun
  .rename_i hn
   cases hrun;obtain ⟨m,rfl⟩:∃ m:Nat,n=m:=⟨n.toNat,by omega⟩;have ha:=hp.args;simp only [H8,VR,DR] at ha;obtain ⟨x,xs,h1,rfl,y,ys,rfl,rfl,rfl⟩:=ha;have hv:I6= #[.slice none 0 0,.int .i64 m]:=by
    apply Array.ext';rw [h1]
   subst hv;refine (hG m w (by omega) (by omega)).mono ?_;rintro e' w' ⟨cap,c,rfl,rfl,hc⟩;have hN:iG w (w.drew.alloc (.cells c e)) (.cells c e):=(iG.alloc w (.cells c e)).drew (w.drawn+1) (Nat.le_succ _);refine ⟨_,fV G w.heap.size (.grow 0 .ret),I,N,rfl,?_,hN.hr hp.wf _ (fun _ _=>rfl) (fun _ h=>h) hp.hr,hN.wf hp.wf _,hN.ext hp.wf _,hN.eE hp.wf _ _,fun _ _ _=>rfl,fun _ h=>h,fun _ _ h=>h,hp.bt,fun _ o' _ ho=>Or.inr ⟨o',ho,o5 _⟩,hp.U7⟩;simp only [VR];exact ⟨by simp,Or.inr ⟨by simp,w.heap.size,0,cap,c,e,_,rfl,N6 _,hN.new,by omega,lz _,by simp,by simp [eo]⟩⟩
  .cases hrun
 .cases hrun
end
end Go.Abs
namespace Go.Proofs.YtibjocmpkoepoaaGreat
open Go.RowKit Go.Maps Go.Abs Go.Sort Go.Proofs
theorem zu:∀ ps:List (Int×Int),BW ps=ps.flatMap K5.vals
 |[]=>rfl
 |(a,b)::r=>by rw [BW,zu r];rfl
theorem Dk:∀ (ps:List (Int×Int)) (i:Nat) (d:Abs.Data),(dg ps)[i]? =some d->∃ u,(BW ps)[i]? =some u/\∀ G w,DR G w d u
 |[],i,d,h=>by simp [dg] at h
 |(a,b)::r,0,d,h=>by simp [dg] at h;subst h;exact ⟨_,rfl,fun G w=>by simp [DR]⟩
 |(a,b)::r,1,d,h=>by simp [dg] at h;subst h;exact ⟨_,rfl,fun G w=>by simp [DR]⟩
 |(a,b)::r,i+2,d,h=>by
  simp only [dg,List.getElem?_cons_succ] at h;simpa only [BW,List.getElem?_cons_succ] using Dk r i d h
theorem og:∀ l:List (Int×Int),(dg l).length=l.length * 2
 |[]=>rfl
 |q::l=>by simp only [dg,q6,og l];omega
theorem Nv {G:Gh}{I:Q9}{N:Nat->Prop}{w:World}:∀ (es:List (Key×j3)) (ks:List (Int×Int)) (arr:List MapEntry),rN es=some ks->ER G I N w es arr->arr.map (·.key)=ks.map pv
 |[],ks,arr,h,hE=>by
  simp [rN] at h;simp [ER] at hE;subst h hE;rfl
 |(k,v)::r,ks,arr,h,hE=>by
  simp only [ER] at hE;obtain ⟨e,es',rfl,h1,_,h3⟩:=hE;unfold rN at h;split at h
  .rename_i heq;cases heq
  .rename_i a b v' r' heq
   cases heq;split at h
   .rename_i l hl
    cases h;rw [E0,Nv _ l es' hl h3,h1];rfl
   .cases h
  .cases h
def Vh (m:Nat)(v:Value)(ps:List K5)(W:World)(hlen:ps.length<=1000000)(hrow:W.ownsRow m 44 2 v ps.length (BW ps)):Calls Tryz.prog 89 #[v,.func (.func 118) #[] #[]] W fun e W' =>
   e= .returned (.tuple #[])/\W'.ownsRow m 44 2 v ps.length (BW (sortP ps))/\W.grownBy W' v.ownBlock:=by
 obtain ⟨hl,⟨rfl,h0⟩|⟨g,cap,cur,rfl,hg,hh,hc1,mJ,Zv,hc4⟩⟩:=hrow
 .have hp0:ps=[]:=List.length_eq_zero_iff.1 h0
  subst hp0;have h:=AnyF.slices_SortFunc_none (P:=Tryz.prog) (ρ:=Tryz.sortP_ren) { Tryz.sortP with } none 0 (.func (.func 118) #[] #[]) W;refine h.mono ?_;rintro e W' ⟨rfl,rfl⟩;exact ⟨rfl,by rw [show sortP []=([]:List K5) from rfl];exact World.ownsRow_nil _ _ _ _,World.grownBy.refl _ _⟩
 .have hlt:g<W.heap.size:=by
   rcases s5 g W.heap.size with h|h
   .exact h
   .rw [Array.getElem?_eq_none h] at hh;cases hh
  have hsz:(sortP ps).length=ps.length:=pV ps;have hcell:∀ j,j<ps.length * 2->cur[j]? =(BW ps)[j]? :=fun j hj=>by
   rw [<- hc4,List.getElem?_take,if_pos hj];simp
  refine (YO g 0 cap ps W ?_ hlt (by omega)).mono ?_
  .unfold HoldsK
   rw [lK K5.vals 2 (fun _=>rfl),<- zu];intro j hj;have hj' :j<(BW ps).length:=by simpa using hj
   have hj2:j<ps.length * 2:=by rw [<- fF];exact hj'
   constructor
   .show W.cell? ⟨g,0+j,none⟩=_
    simp only [World.cell?,hh,Nat.zero_add];rw [hcell j hj2];simp [hj']
   .show W.frozen? ⟨g,0+j,none⟩=_
    simp only [World.frozen?,hh];simp
  .rintro e W' ⟨rfl,n,os,rfl⟩
   have hR:=me _root_.id W n g 0 (BW (sortP ps)) os;rw [List.map_id] at hR;unfold putRowK;rw [lK K5.vals 2 (fun _=>rfl),<- zu];obtain ⟨W',hW⟩:∃ W',grow (putRow _root_.id (Sort.ahead W n) g 0 (BW (sortP ps)).toArray) os=W' :=⟨_,rfl⟩;rw [hW] at hR ⊢;obtain ⟨c',g1,g2,g3,g4⟩:=hR.here cur 44 (0,0) hh;refine ⟨rfl,⟨by rw [fF,hsz],.inr ⟨g,cap,c',rfl,hg,g1,hc1,mJ,by omega,?_⟩⟩,⟨hR.os,hR.tape,hR.output,hR.size,fun k hk hne=>hR.other k hk (fun e=>hne (by rw [e];rfl))⟩⟩;apply List.ext_getElem?;intro j;rw [List.getElem?_take];split
   .rename_i hj
    have hj' :j<(BW (sortP ps)).length:=by rw [fF,hsz];exact hj
    have:=g4 j _ (by omega) (l5 hj');rw [Nat.zero_add] at this;rw [l5 hj',<- this];simp
   .rename_i hj
    rw [H6];rw [fF,hsz];omega
def am2 (prom:FuncId->Bool):di Tryz.prog prom 63 yc:=by
 refine ⟨by kernel_rfl,fun args H l v H1 hrun w G I N I6 hp _=> ?_⟩;unfold yc at hrun;split at hrun
 .rename_i id
  split at hrun
  .rename_i es QD
   split at hrun
   .rename_i ks hks
    split at hrun
    .rename_i hlen
     cases hrun;obtain ⟨x,rfl,hv⟩:=ku hp.args;simp only [VR] at hv;obtain ⟨hN,rfl⟩:=hv;have hO:=hp.hr id _ QD;simp only [OR] at hO;obtain ⟨_,arr,dX,h1,_,hE,hB⟩:=hO;have hk:=Nv es ks arr.toList hks hE;refine (wL (I id).1 arr dX ks (sortP ks) w h1 hB.old hB.nodup hk hlen ?_).mono ?_
     .intro v ps W hown Hw
      have:=Hw.length_eq;rw [<- qJ Hw];exact Vh _ v ps W (by omega) hown
     .rintro e w' ⟨v,rfl,hown,hBl⟩
      obtain ⟨G',hG,hwf',XP⟩:=NK (I:=I) (N:=N) (cs:=dg (sortP ks)) hown hBl hp.wf ⟨by rw [fF,og],fun j c hj=>by
       obtain ⟨u,u1,u2⟩:=Dk (sortP ks) j c hj;exact ⟨u,u1,u2 _ _⟩⟩
      exact ⟨_,G',I,N,rfl,yG hp hBl hG hwf' XP⟩
    .cases hrun
   .cases hrun
  .cases hrun
 .cases hrun
end Go.Proofs.YtibjocmpkoepoaaGreat
namespace Go.Proofs.YtibjocmpkoepoaaGreat
open Go.RowKit Go.Lib
def TF:(Tryz.prog.info? 44).map (fun i=>(i.zero,i.size,i.bytes))=some (some (.agg #[.int .i64 0,.int .i64 0]),2,16):=by kernel_rfl
set_option maxRecDepth 100000 in
set_option maxHeartbeats 4000000 in
def XA (n:Nat)(w:World)(h0:0<n)(hn:n<=1000000):Calls Tryz.prog 226 #[.slice none 0 0,.int .i64 n] w fun e w' =>∃ (cap:Nat) (c:Array Value),e= .returned (.slice (some ⟨w.heap.size,0,none⟩) 0 cap)/\w' =w.drew.alloc (.cells c 44)/\c.size=cap * 2:=by
 obtain ⟨i0,hi,hz0,TE,Gj⟩:=info_parts TF;have h1:¬ ((n:Int)<0):=by omega
 have h2:wrap64 ((0:Int) - 0)=0:=by unfold wrap64;omega
 have h3:wrap64 ((n:Int) - 0)=(n:Int):=by unfold wrap64;omega
 have h4:(n:Int)>0:=by omega
 have hGn:0+n<=grownCap w (0+n) 0 44:=grownCap_ge w _ _ _;have TA:∀ ty,(Builtin.append_ #[49,3] ty #[.slice none 0 0,.int .i64 (n:Int)]).run Tryz.prog w =
   .ok (.slice (some ⟨w.heap.size,0,none⟩) (0+n) (grownCap w (0+n) 0 44)) (w.drew.alloc (.cells ((#[]:Array Value)++Builtin.zeroCells (.agg #[.int .i64 0,.int .i64 0]:Value).cells n++Builtin.zeroCells (.agg #[.int .i64 0,.int .i64 0]:Value).cells (grownCap w (0+n) 0 44 - (0+n))) 44)):=fun ty=>by
  have h:=Lib.run_append_grow_zeros w 49 3 ty 44 i0 (.agg #[.int .i64 0,.int .i64 0]) .i64 .i64 Tryz.underlying49 Tryz.underlying3 hi hz0 none 0 0 [] (run_firstCells_none w.drew i0.size 0 0 0) n h0 (by omega) (by omega) (by omega) (by rw [Gj];omega) (growslice_fits (by omega) (by rw [Gj];omega));exact h
 have af9:grownCap w (0+n) 0 44<=9223372036854775807:=by
  have:=grownCap_le_maxLen w (0+n) 0 44 (by unfold maxLen;omega);unfold maxLen at this;omega
 obtain ⟨G,hG⟩:∃ G,G=grownCap w (0+n) 0 44:=⟨_,rfl⟩;rw [<- hG] at TA hGn af9;have hsz:((#[]:Array Value)++Builtin.zeroCells (.agg #[.int .i64 0,.int .i64 0]:Value).cells n++Builtin.zeroCells (.agg #[.int .i64 0,.int .i64 0]:Value).cells (G - (0+n))).size=G * 2:=by
  simp only [Array.size_append,size_zeroCells,Value.cells,List.size_toArray,q6,B0];omega
 obtain ⟨c0,hc0⟩:∃ c0,c0=((#[]:Array Value)++Builtin.zeroCells (.agg #[.int .i64 0,.int .i64 0]:Value).cells n++Builtin.zeroCells (.agg #[.int .i64 0,.int .i64 0]:Value).cells (G - (0+n))):=⟨_,rfl⟩;rw [<- hc0] at TA hsz;clear hG hc0 hi hz0 TE Gj
 go_enter Tryz.func226,Tryz.ntmps226
 go_wp2_with (at_builtin;refine Lib.wpList_append_run _ rfl _ _ _ _ rfl _ _ rfl rfl _ _ (TA _) ?_)
 all_goals (go_ret;exact ⟨G,rfl,c0,rfl,by first|exact hsz|omega⟩)
def TG:(Tryz.prog.info? 3).map (fun i=>(i.zero,i.size,i.bytes))=some (some (.int .i64 0),1,8):=by kernel_rfl
set_option maxRecDepth 100000 in
set_option maxHeartbeats 4000000 in
def XB (n:Nat)(w:World)(h0:0<n)(hn:n<=1000000):Calls Tryz.prog 279 #[.slice none 0 0,.int .i64 n] w fun e w' =>∃ (cap:Nat) (c:Array Value),e= .returned (.slice (some ⟨w.heap.size,0,none⟩) 0 cap)/\w' =w.drew.alloc (.cells c 3)/\c.size=cap * 1:=by
 obtain ⟨i0,hi,hz0,TE,Gj⟩:=info_parts TG;have h1:¬ ((n:Int)<0):=by omega
 have h2:wrap64 ((0:Int) - 0)=0:=by unfold wrap64;omega
 have h3:wrap64 ((n:Int) - 0)=(n:Int):=by unfold wrap64;omega
 have h4:(n:Int)>0:=by omega
 have hGn:0+n<=grownCap w (0+n) 0 3:=grownCap_ge w _ _ _;have TA:∀ ty,(Builtin.append_ #[22,3] ty #[.slice none 0 0,.int .i64 (n:Int)]).run Tryz.prog w =
   .ok (.slice (some ⟨w.heap.size,0,none⟩) (0+n) (grownCap w (0+n) 0 3)) (w.drew.alloc (.cells ((#[]:Array Value)++Builtin.zeroCells (.int .i64 0:Value).cells n++Builtin.zeroCells (.int .i64 0:Value).cells (grownCap w (0+n) 0 3 - (0+n))) 3)):=fun ty=>by
  have h:=Lib.run_append_grow_zeros w 22 3 ty 3 i0 (.int .i64 0) .i64 .i64 Tryz.underlying22 Tryz.underlying3 hi hz0 none 0 0 [] (run_firstCells_none w.drew i0.size 0 0 0) n h0 (by omega) (by omega) (by omega) (by rw [Gj];omega) (growslice_fits (by omega) (by rw [Gj];omega));exact h
 have af9:grownCap w (0+n) 0 3<=9223372036854775807:=by
  have:=grownCap_le_maxLen w (0+n) 0 3 (by unfold maxLen;omega);unfold maxLen at this;omega
 obtain ⟨G,hG⟩:∃ G,G=grownCap w (0+n) 0 3:=⟨_,rfl⟩;rw [<- hG] at TA hGn af9;have hsz:((#[]:Array Value)++Builtin.zeroCells (.int .i64 0:Value).cells n++Builtin.zeroCells (.int .i64 0:Value).cells (G - (0+n))).size=G * 1:=by
  simp only [Array.size_append,size_zeroCells,Value.cells,List.size_toArray,q6,B0];omega
 obtain ⟨c0,hc0⟩:∃ c0,c0=((#[]:Array Value)++Builtin.zeroCells (.int .i64 0:Value).cells n++Builtin.zeroCells (.int .i64 0:Value).cells (G - (0+n))):=⟨_,rfl⟩;rw [<- hc0] at TA hsz;clear hG hc0 hi hz0 TE Gj
 go_enter Tryz.func279,Tryz.ntmps279
 go_wp2_with (at_builtin;refine Lib.wpList_append_run _ rfl _ _ _ _ rfl _ _ rfl rfl _ _ (TA _) ?_)
 all_goals (go_ret;exact ⟨G,rfl,c0,rfl,by first|exact hsz|omega⟩)
end Go.Proofs.YtibjocmpkoepoaaGreat
namespace Go.Proofs.YtibjocmpkoepoaaGreat
open Go.Abs Go.Sort Go.Proofs
def Qy (w:World):Calls Tryz.prog 279 #[.slice none 0 0,.int .i64 0] w fun e w' =>e= .returned (.slice none 0 0)/\w' =w:=by
 go_enter Tryz.func279,Tryz.ntmps279
 go_wp2
 all_goals (go_ret;exact ⟨rfl,rfl⟩)
def Yp (prom:FuncId->Bool):di Tryz.prog prom 226 (uX 2):=Lp (by kernel_rfl) XA
def Yr (prom:FuncId->Bool):di Tryz.prog prom 279 Df:=Qz (by kernel_rfl) Qy fun n w h0 hn=>(XB n w h0 hn).mono fun e w' ⟨cap,c,h1,h2,h3⟩=>⟨cap,c,_,h1,h2,by omega⟩
def Yq (prom:FuncId->Bool):di Tryz.prog prom 263 Dg :=
 Rw (by kernel_rfl) (fun blk off cap zs w h1 h2 h3=>Any.slices_Sort_int Tryz.lays189 blk off cap zs w h1 h2 h3) (fun p cap w=>Any.slices_Sort_int_none Tryz.lays189 p cap w)
def KY (prom:FuncId->Bool):di Tryz.prog prom 134 kO :=
 EA (by kernel_rfl) (fun blk off cap zs w h1 h2 h3=>Any.slices_Compact_int Tryz.lays20 blk off cap zs w h1 h2 h3)
def Sz (p:Option Addr)(cap:Nat)(w:World):Calls Tryz.prog 134 #[.slice p 0 cap] w fun e w' =>e= .returned (.slice p 0 cap)/\w' =w:=by
 go_enter Tryz.func134,Tryz.ntmps134
 go_wp2
 all_goals (go_ret;exact ⟨rfl,rfl⟩)
def Yn (prom:FuncId->Bool):di Tryz.prog prom 134 uW:=by
 refine ⟨by kernel_rfl,fun args H l v H1 hrun w G I N I6 hp h0=> ?_⟩;unfold uW at hrun;split at hrun
 .cases hrun
  obtain ⟨x,rfl,hv⟩:=ku hp.args;simp only [VR,DR] at hv;have XP :=hv;have key:∃ p cap,x= .slice p 0 cap:=by
   rcases hv with ⟨hv|⟨a,hv⟩,_⟩|⟨b,o,cap,hv,_⟩
   .exact ⟨_,_,hv⟩
   .exact ⟨_,_,hv⟩
   .exact ⟨_,_,hv⟩
  obtain ⟨p,cap,rfl⟩:=key;refine (Sz p cap w).mono ?_;rintro e w' ⟨rfl,rfl⟩;exact ⟨_,G,I,N,rfl,pQ hp (by simp only [VR,DR];exact XP.imp (fun h=>⟨h.1,trivial,trivial⟩) fun ⟨b,o,c,h,h2,_⟩=>⟨b,o,c,h,h2,by simp [eo]⟩)⟩
 .exact (KY prom).2 _ _ _ _ _ hrun w G I N I6 hp h0
end Go.Proofs.YtibjocmpkoepoaaGreat
namespace Go.Proofs.YtibjocmpkoepoaaGreat
open Go.RowKit Go.Shelf Go.Abs
attribute [local go_sem] Oper.semAt_some
def Sa (n B:Nat)(A C:World):Prop:=Below n A C/\∀ v,Boxed A B 39 v->Boxed C B 39 v
theorem Sa.refl (n B:Nat)(A:World):Sa n B A A:=⟨Below.refl _ _,fun _ h=>h⟩
theorem Sa.trans {n B:Nat}{A C D:World}(h:Sa n B A C)(k:Sa n B C D):Sa n B A D:=⟨h.1.trans k.1,fun v hv=>k.2 v (h.2 v hv)⟩
def SK (x:Nat×F1):Array Value:= #[.int .i64 (x.1:Int),.agg (F1.vals x.2).toArray]
def bkF (zs:List F1)(k:Nat):Nat×F1:=(zs.length - 1 - k,zs.getD (zs.length - 1 - k) default)
def jH (zs:List F1)(k:Nat):List (Nat×F1):=(List.range k).map (bkF zs)
def Bi (zs:List F1)(k:Nat):jH zs (k+1)=jH zs k++[bkF zs k]:=by simp [jH,List.range_succ]
def tP (zs:List F1)(k:Nat):(jH zs k).length=k:=by simp [jH]
def RY (W:World)(b off:Nat)(zs:List F1):Prop:=∀ j,j<zs.length->∀ (i:Nat) (u:Value),(F1.vals (zs.getD j default))[i]? =some u->W.cell? ⟨b,off+j * 5+i,none⟩=some u
set_option maxRecDepth 100000 in
set_option maxHeartbeats 2000000 in
def av1 (F:Fence)(n:Nat)(h53:F.fn 174)(hro:F.round=none)(hn:1<=n)(l Bs n₀ b off cap:Nat)(zs:List F1)(Ty:zs.length<=1000000)(hb:0<zs.length->b<n₀)(J Jx:List (Nat×F1)->World->Prop)
  (hY:∀ pre x W,J pre W->pre.length<zs.length->YieldAt F (n - 1) Tryz.prog l (SK x) W fun e W' =>
   (e= .returned (.bool true)/\J (pre++[x]) W' /\Sa n₀ Bs W W')\/(e= .returned (.bool false)/\Jx (pre++[x]) W'))
  (W:World) (hBs:Boxed W Bs 39 (.slice (some ⟨b,off,none⟩) zs.length cap)) (hc:RY W b off zs) (h0:J [] W) :
  CallsIn F n Tryz.prog 174 #[.func (.yield l) #[] #[],.pointer (some ⟨Bs,0,none⟩)] W fun e W' =>(∃ v,e= .returned v) /\
   ((∃ ys,ys=jH zs zs.length/\J ys W')\/(∃ pre,(∃ k,k<=zs.length/\pre=jH zs k)/\Jx pre W')):=by
 have hlen:(zs.length:Int)<=9223372036854775807:=by omega
 have bp0:=hBs.cell;refine callsIn_of_wp Tryz.func174 rfl h53 ?_ hro;simp only [Tryz.ntmps174,List.size_toArray,q6,B0,Nat.reduceAdd,Nat.reduceSub,Array.replicate_succ,Array.replicate_zero,List.push_toArray,List.append_toArray,B9,B7]
 gi_wp2
 gi_loopw [3] (fun i wr=>∃ m k:Nat,m+k=zs.length/\i= .int .i64 ((m:Int) - 1)/\J (jH zs k) wr/\Sa n₀ Bs W wr)
  (fun i _=>(intOf i+1).toNat)
 case atStart=>exact ⟨zs.length,0,rfl,rfl,h0,Sa.refl _ _ _⟩
 case round =>
  obtain ⟨m,k,hmk,rfl,hJs,ZE⟩:=hrel
  rcases m with _|m
  .have e:((0:Nat):Int) - 1= -1:=rfl
   rw [e];obtain rfl:k=zs.length:=by omega
   gi_wp2
   go_end0
   exact ⟨⟨_,rfl⟩,.inl ⟨_,rfl,hJs⟩⟩
  .have e:((m+1:Nat):Int) - 1=m:=by omega
   rw [e];have hm0:(0:Int)<=(m:Int):=by omega
   have hml:m<zs.length:=by omega
   obtain ⟨f,hf⟩:∃ f,zs.getD m default=f:=⟨_,rfl⟩;have hbk:SK (bkF zs k)= #[.int .i64 (m:Int),.agg (F1.vals f).toArray]:=by
    have:zs.length - 1 - k=m:=by omega
    unfold SK bkF;rw [this,hf]
   have hb1:=hb (by omega);have Nn:∀ (i:Nat) (u:Value),(F1.vals f)[i]? =some u->wr.cell? ⟨b,off+m * 5+i,none⟩=some u:=fun i u hu=>(ZE.1.cell (p:=⟨b,off+m * 5+i,none⟩) hb1).trans (hc m hml i u (by rw [hf];exact hu))
   have c0:wr.cell? ⟨b,off+m * 5,none⟩=some (.int .i64 f.src.1):=Nn 0 _ rfl;have c1:wr.cell? ⟨b,off+m * 5+1,none⟩=some (.int .i64 f.src.2):=Nn 1 _ rfl;have c2:wr.cell? ⟨b,off+m * 5+2,none⟩=some (.int .i64 f.dst.1):=Nn 2 _ rfl;have c3:wr.cell? ⟨b,off+m * 5+3,none⟩=some (.int .i64 f.dst.2):=Nn 3 _ rfl;have c4:wr.cell? ⟨b,off+m * 5+4,none⟩=some (.bool f.dat):=Nn 4 _ rfl;clear Nn;have bo9 :=(ZE.2 _ hBs).cell;obtain ⟨fn,tmps,assign,body,hy,hR⟩:=hY _ (bkF zs k) wr hJs (by rw [tP];omega);rw [hbk] at hy;simp only [F1.vals] at hy;clear e
   gi_wp2
   refine hR.mono ?_;rintro e W3 (⟨rfl,hJ3,hk3⟩|⟨rfl,aQ7⟩)
   .gi_wp2
    go_roundw
    case rel=>exact ⟨m,k+1,by omega,rfl,by rw [Bi];exact hJ3,ZE.trans hk3⟩
    case measure=>simp [intOf]
   .gi_wp2
    refine bodyPost_ret (results_none rfl _ _ _) rfl ?_;exact ⟨⟨_,rfl⟩,.inr ⟨_,⟨k+1,by omega,by rw [Bi]⟩,aQ7⟩⟩
set_option maxRecDepth 100000 in
set_option maxHeartbeats 1000000 in
def Qg (F:Fence)(n:Nat)(h53:F.fn 174)(hro:F.round=none)(l Bs:Nat)(a:Option Addr)(cap:Nat)(J:List (Nat×F1)->World->Prop)(W:World)(hBs:W.cell? ⟨Bs,0,none⟩=some (.slice a 0 cap))(h0:J [] W) :
  CallsIn F n Tryz.prog 174 #[.func (.yield l) #[] #[],.pointer (some ⟨Bs,0,none⟩)] W fun e W' =>(∃ v,e= .returned v)/\J [] W' :=by
 refine callsIn_of_wp Tryz.func174 rfl h53 ?_ hro;simp only [Tryz.ntmps174,List.size_toArray,q6,B0,Nat.reduceAdd,Nat.reduceSub,Array.replicate_succ,Array.replicate_zero,List.push_toArray,List.append_toArray,B9,B7]
 gi_wp2
 gi_loopw [3] (fun i wr=>i= .int .i64 (-1)/\J [] wr) (fun _ _=>0)
 case atStart=>exact ⟨rfl,h0⟩
 case round =>
  obtain ⟨rfl,hJs⟩:=hrel
  gi_wp2
  go_end0
  exact ⟨⟨_,rfl⟩,hJs⟩
set_option maxHeartbeats 1000000 in
def Xi (F:Fence)(n:Nat)(h21:F.fn 117)(hro:F.round=none)(a:Option Addr)(len cap:Nat)(w:World) :
  CallsIn F n Tryz.prog 117 #[.slice a len cap] w fun e w' =>e= .returned (.func (.func 174) #[] #[.pointer (some ⟨w.heap.size,0,none⟩)])/\w' =w.alloc (.cells #[.slice a len cap] 39):=by
 refine callsIn_of_wp Tryz.func117 rfl h21 ?_ hro;simp only [Tryz.ntmps117,List.size_toArray,q6,B0,Nat.reduceAdd,Nat.reduceSub,Array.replicate_succ,Array.replicate_zero,List.push_toArray,List.append_toArray,B9,B7]
 gi_wp2
 go_ret
 exact ⟨rfl,rfl⟩
def Eh (n₀:Nat)(W:World)(sv:Value)(zs:List F1):Prop :=
 ((∃ a cap,sv= .slice a 0 cap)/\zs=[])\/∃ b off cap,sv= .slice (some ⟨b,off,none⟩) zs.length cap/\(0<zs.length->b<n₀)/\RY W b off zs
def KQ (F:Fence)(n:Nat)(h53:F.fn 174)(hro:F.round=none)(hn:1<=n)(Bs n₀:Nat)(sv:Value)(zs:List F1)(Ty:zs.length<=1000000)(w:World)(hB1:Bs<w.heap.size)(hn₀:n₀<=w.heap.size)
  (hc:Boxed w Bs 39 sv) (hI:Eh n₀ w sv zs) :
  SeqStopsK F n Tryz.prog 174 #[.pointer (some ⟨Bs,0,none⟩)] SK (Sa n₀ Bs) (fun ys=>ys=jH zs zs.length)
   (fun pre=>∃ k,k<=zs.length/\pre=jH zs k) zs.length w:=fun l J Jx W hW _ _ hY h0=>by
 have qD :Boxed W Bs 39 sv:=(hW.block Bs (by omega)).trans hc
 rcases hI with ⟨⟨a,cap,rfl⟩,rfl⟩|⟨b,off,cap,rfl,hb,hcs⟩
 .exact (Qg F n h53 hro l Bs a cap J W qD.cell h0).mono fun e W' ⟨he,hj⟩=>⟨he,.inl ⟨_,rfl,hj⟩⟩
 .exact av1 F n h53 hro hn l Bs n₀ b off cap zs Ty hb J Jx hY W qD (fun j hj i u hu=>(hW.cell (p:=⟨b,off+j * 5+i,none⟩) (by have:=hb (by omega);show b<_;omega)).trans (hcs j hj i u hu)) h0
def Sl (w:World)(cs:Array Value)(t:TypeId){k:Nat}(hk:k=w.heap.size):∀ j u,cs.toList[j]? =some u->(w.alloc (.cells cs t)).cell? ((⟨k,0,none⟩:Addr).add j)=some u:=by
 intro j u hj;subst hk;have h:=heap_alloc_new w (.cells cs t);have e:(w.alloc (.cells cs t)).cell? ⟨w.heap.size,0+j,none⟩=cs[0+j]? :=by
  unfold World.cell?;rw [h];rfl
 have e2:(⟨w.heap.size,0,none⟩:Addr).add j=⟨w.heap.size,0+j,none⟩:=by
  unfold Addr.add;split
  .rename_i h0
   rw [h0]
  .rfl
 rw [e2,e,Nat.zero_add];simpa using hj
def ai9:(Tryz.prog.info? 46).map (fun i=>(i.zero,i.size,i.bytes))=some (some (.agg #[.int .i64 0,.int .i64 0,.int .i64 0,.int .i64 0,.bool false]),5,40):=by kernel_rfl
def UO (pre:List (Nat×F1)):List Value:=pre.flatMap fun x=>F1.vals x.2.rev
def UP (zs:List F1):UO (jH zs zs.length)=(zs.map F1.rev).reverse.flatMap F1.vals:=by
 have e:(jH zs zs.length).map (fun x=>x.2.rev)=(zs.map F1.rev).reverse:=by
  apply List.ext_getElem?;intro i
  rcases s5 i zs.length with hi|hi
  .rw [List.getElem?_reverse (by simpa using hi)]
   have h1:zs.length - 1 - i<zs.length:=by omega
   simp only [jH,bkF,List.map_map,List.getElem?_map,List.getElem?_range hi,E2,A1,l5 h1,Function.comp,List.getD_eq_getElem?_getD,Option.getD_some]
  .rw [H6 (by simp [jH];exact hi),H6 (by simp;exact hi)]
 rw [<- e];unfold UO;rw [List.flatMap_map]
def AtF (w:World)(sv:Value)(x:Nat×F1)(a:Act)(W:World):Prop:=∃ q:Nat,W.heap[q]? =some (.cells (F1.vals x.2).toArray 46 (0,0)) /\
 a={ tmps:= #[sv,undef,.slice none 0 0,.pointer (some ⟨w.heap.size,0,none⟩),undef,.pointer (some ⟨q,0,none⟩),sv,.func (.func 174) #[] #[.pointer (some ⟨w.heap.size+1,0,none⟩)],.int .i64 (x.1:Int),.agg (F1.vals x.2).toArray,undef,undef,undef,undef,undef,undef,undef,undef,undef,undef,undef],defers:=[] }
def Xh (w:World)(sv:Value)(x:Nat×F1)(a:Act)(B:Nat):OwnFrom B (fun (_:Unit) W=>AtF w sv x a W):=fun _ X Y row ⟨q,hq,ha⟩ hg hrow=>by
 refine ⟨q,(hg.block q ?_ fun e=> ?_).trans hq,ha⟩
 .rcases s5 q X.heap.size with h|h
  .exact h
  .rw [Array.getElem?_eq_none h] at hq;cases hq
 .obtain ⟨_,o,ho,hc⟩:=hrow q e.symm
  rw [hq] at ho;cases ho;cases hc
set_option maxRecDepth 100000 in
set_option maxHeartbeats 4000000 in
def Cg (w:World)(sa:Option Addr)(sc:Nat)(zs:List F1)(hlen:zs.length<=1000000)(hI:Eh w.heap.size w (.slice sa zs.length sc) zs) :
  Calls Tryz.prog 62 #[.slice sa zs.length sc] w fun e w' =>∃ v,e= .returned v/\w'.ownsRow w.heap.size 46 5 v zs.length ((zs.map F1.rev).reverse.flatMap F1.vals)/\Below w.heap.size w w' :=by
 obtain ⟨i0,hi,hz0,TE,Gj⟩:=info_parts ai9;refine (callsIn_wide (n:=68)).1 ?_;refine callsIn_of_wp_marks Tryz.func62 rfl trivial ?_ rfl;simp only [Tryz.ntmps62,List.size_toArray,q6,B0,Nat.reduceAdd,Nat.reduceSub,Array.replicate_succ,Array.replicate_zero,List.push_toArray,List.append_toArray,B9,B7]
 gi_wp2_with (refine ⟨trivial,?_⟩;gi_at_call 117;refine (Xi Fence.wide 67 trivial rfl _ _ _ _).mono ?_;rintro e W2 ⟨rfl,rfl⟩)
 have bO:=Boxed.new w 39 (.slice none 0 0);have bN:=Boxed.new (w.alloc (.cells #[.slice none 0 0] 39)) 39 (.slice sa zs.length sc);rw [World.size_alloc] at bN;have hB0:Below w.heap.size w ((w.alloc (.cells #[.slice none 0 0] 39)).alloc (.cells #[.slice sa zs.length sc] 39)):=((Below.refl _ w).alloc (o5 _) _).alloc (by simp) _;have hI' :Eh w.heap.size ((w.alloc (.cells #[.slice none 0 0] 39)).alloc (.cells #[.slice sa zs.length sc] 39)) (.slice sa zs.length sc) zs:=by
  rcases hI with h|⟨b,off,cap,e,hb,hc⟩
  .exact .inl h
  .exact .inr ⟨b,off,cap,e,hb,fun j hj i u hu=>(hB0.cell (p:=⟨b,off+j * 5+i,none⟩) (by have:=hb (by omega);show b<_;omega)).trans (hc j hj i u hu)⟩
 obtain ⟨sv,hsv⟩:∃ sv,Value.slice sa zs.length sc=sv:=⟨_,rfl⟩;rw [hsv] at bN hB0 hI' ⊢;obtain ⟨W2,hW2⟩:∃ W2,((w.alloc (.cells #[.slice none 0 0] 39)).alloc (.cells #[sv] 39))=W2:=⟨_,rfl⟩;have hs2:W2.heap.size=w.heap.size+2:=by rw [<- hW2];simp
 have bO:=bO.alloc (.cells #[sv] 39);rw [hW2] at bN hB0 hI' bO ⊢;refine wpIn_rangeFunc_ownH rfl (by decide) (gf:=174) (lb:= #[.pointer (some ⟨w.heap.size+1,0,none⟩)]) rfl trivial (enters_of Tryz.func174 (by kernel_rfl) rfl)
  (KQ Fence.wide 67 trivial rfl (by decide) (w.heap.size+1) w.heap.size sv zs hlen W2 (by omega) (by omega) bN hI') Sa.trans ?hKb (Below.refl _ _) (fun _=>rfl)
  (fun pre W=>(∃ v,Boxed W w.heap.size 39 v/\W.ownsRow w.heap.size 46 5 v pre.length (UO pre)/\True)/\Below w.heap.size w W/\Boxed W (w.heap.size+1) 39 sv)
  (fun _ _ _=>False)
  (OwnFrom.and (Own.from (holdsRow_own w.heap.size w.heap.size 39 46 5 (fun pre:List (Nat×F1)=>pre.length) UO (fun _ _=>True)) _) (OwnFrom.and (ownFrom_below (o5 _) (by omega)) (Own.from (boxed_own (w.heap.size+1) 39 (fun _=>sv)) _)))
  (fun _ _ _ _ _ hs _ _=>hs)
  ⟨⟨_,bO,World.ownsRow_nil _ _ _ _,trivial⟩,hB0,bN⟩
  (AtF w sv) (fun x a' =>Xh w sv x a' _) ?assign ?body ?done ?stop
 case hKb =>
  intro W l o o' hl _ _ _;have hlt:l<W.heap.size:=by
   rename_i ho _ _;exact (Array.getElem?_eq_some_iff.1 ho).1
  exact ⟨(Below.refl _ W).grown (grownBy_putObj' W l o') (by omega) fun k e=>by cases e;omega,fun v hv=>hv.kept (grownBy_putObj' W l o') fun e=>by cases e;omega⟩
 case assign =>
  intro l pre x W K hI2 hK;unfold SK;simp only [F1.vals]
  gi_wp2
  obtain ⟨⟨v,hv,hrow,_⟩,hB,hBs⟩:=hI2;refine hK _ _ ((KeepsOthers.alloc W _).from _) ⟨(Below.refl _ W).alloc hB.size _,fun v hv=>hv.alloc _⟩ ⟨⟨v,hv.alloc _,hrow.alloc _,trivial⟩,hB.alloc hB.size _,hBs.alloc _⟩ ⟨W.heap.size,heap_alloc_new _ _,rfl⟩
 case body =>
  rintro l pre x a' W hl hr ⟨⟨v,hv,hrow,_⟩,hB,hBs⟩ ⟨q,hq,rfl⟩ hlt;have hc:=hv.cell;have q0:W.cell? ⟨q,0,none⟩=some (.int .i64 x.2.src.1):=by simp [World.cell?,hq,F1.vals]
  have q1:W.cell? ⟨q,1,none⟩=some (.int .i64 x.2.src.2):=by simp [World.cell?,hq,F1.vals]
  have q2:W.cell? ⟨q,2,none⟩=some (.int .i64 x.2.dst.1):=by simp [World.cell?,hq,F1.vals]
  have q3:W.cell? ⟨q,3,none⟩=some (.int .i64 x.2.dst.2):=by simp [World.cell?,hq,F1.vals]
  have q4:W.cell? ⟨q,4,none⟩=some (.bool x.2.dat):=by simp [World.cell?,hq,F1.vals]
  gi_wp2_with (gi_at_builtin;go_loud (refine wpListIn_append_own _ rfl _ _ 39 rfl w.heap.size 46 i0 _ 5 40 Tryz.underlying39 hi hz0 TE Gj rfl (by decide) _ _ _ rfl (hrow.alloc _) ⟨W.heap.size,0,none⟩ 1 1 (F1.vals x.2.rev) rfl rfl (Sl _ _ _ rfl) (by simp [Value.oneCell',F1.vals]) (by simp [maxLen];omega) (by omega) (by have:=hB.size;simp;omega) ?_;intro v' w1 hown' hgrow _;obtain ⟨g',cap',rfl⟩:=ownsRow_succ hown';obtain ⟨WU,hv2,WS,hk2,XF⟩:=hv.appended (by decide) hrow hB.size (o5 _) hown' hgrow;have hc1:=WU.cell;have hf1:=WU.frozen))
  have hk:∀ u,Boxed W (w.heap.size+1) 39 u->Boxed (w1.setCell ⟨w.heap.size,0,none⟩ (.slice (some ⟨g',0,none⟩) (pre.length+1) cap')) (w.heap.size+1) 39 u:=fun u hu=>((hu.alloc _).kept hgrow (hu.not_row (by decide) hrow)).other (by omega) _
  exact ⟨hk2.from _,⟨XF,hk⟩,⟨_,hv2,by simpa [UO] using WS,trivial⟩,hB.trans XF,hk _ hBs⟩
 case done =>
  rintro D ys W hD rfl ⟨⟨v,hv,hrow,_⟩,hB,_⟩ hK;have hc:=hv.cell;rw [tP,UP] at hrow
  gi_wp2
  refine ⟨by simp,.inl ⟨_,_,rfl,run_takeDeferred hK,?_⟩⟩;exact ⟨_,results_tmp rfl _ _ _,v,rfl,ownsRow_putObj hrow _ hK rfl,hB.grown (grownBy_putObj' W D _) hB.size fun k e=>by cases e;omega⟩
 case stop =>
  rintro D c pre W _ _ h _;exact h.elim
end Go.Proofs.YtibjocmpkoepoaaGreat
namespace Go.Proofs.YtibjocmpkoepoaaGreat
open Go.RowKit Go.Abs
def VE (fs:List F1):∀ (j i:Nat) (u:Value),j<fs.length->(F1.vals (fs.getD j default))[i]? =some u->(fs.flatMap F1.vals)[j * 5+i]? =some u:=by
 induction fs with
 |nil=>intro j i u h;simp at h
 |cons f fs ih =>
  intro j i u hj hu;rw [List.flatMap_cons];cases j with
  |zero =>
   rw [Nat.zero_mul,Nat.zero_add,q7 (r9 (by simpa using hu))];simpa using hu
  |succ j =>
   have hl:(F1.vals f).length=5:=rfl;rw [p7 (by rw [hl];omega),hl,show (j+1) * 5+i - 5=j * 5+i by omega];exact ih j i u (by simpa using hj) (by simpa using hu)
def Qo (fs:List F1){j:Nat}{u:Value}(h:(fs.flatMap F1.vals)[j]? =some u):∃ d,(fs.flatMap F1.enc)[j]? =some d/\uZ d=some u:=by
 have hj:j<(fs.flatMap F1.enc).length:=by
  have:=r9 h;rw [oZ] at this;rw [pe];exact this
 exact ⟨_,l5 hj,kF fs j _ u (l5 hj) h⟩
def MD (fs:List F1){j:Nat}{d:Abs.Data}(h:(fs.flatMap F1.enc)[j]? =some d):∃ u,(fs.flatMap F1.vals)[j]? =some u/\uZ d=some u:=by
 have hj:j<(fs.flatMap F1.vals).length:=by
  have:=r9 h;rw [pe] at this;rw [oZ];exact this
 exact ⟨_,l5 hj,kF fs j d _ h (l5 hj)⟩
def Ap {prom:FuncId->Bool}{l:F2}{H:q8}{w:World}{G:Gh}{I:Q9}{N:Nat->Prop}{args:List j3}{I6:Array Value}(hp:yu l H w G I N args I6)(sa:Option Addr)(sc:Nat)(fs:List F1)(hlen:fs.length<=1000000)(hI:Eh w.heap.size w (.slice sa fs.length sc) fs) :
  Calls Tryz.prog 62 #[.slice sa fs.length sc] w fun e w' =>∃ x G' I' N',e= .returned x/\jZ l H w G I N (.own 5 fs.length ((fs.map F1.rev).reverse.flatMap F1.enc)) H x w' G' I' N' :=by
 have _:=prom;refine (Cg w sa sc fs hlen hI).mono ?_;rintro e w' ⟨v,rfl,hown,hB⟩;have hl:((fs.map F1.rev).reverse).length=fs.length:=by simp
 obtain ⟨G',hG,hwf',XP⟩:=NK (I:=I) (N:=N) (cs:=(fs.map F1.rev).reverse.flatMap F1.enc) hown hB hp.wf ⟨by rw [oZ,pe],fun j c hj=>by
  obtain ⟨u,u1,u2⟩:=MD _ hj;exact ⟨u,u1,(pI u2).2 rfl⟩⟩
 exact ⟨_,G',I,N,rfl,yG hp hB hG hwf' XP⟩
def am1 (prom:FuncId->Bool):di Tryz.prog prom 62 ak7:=by
 refine ⟨by kernel_rfl,fun args H l v H1 hrun w G I N I6 hp _=> ?_⟩;unfold ak7 at hrun;split at hrun
 .rename_i x H l
  split at hrun
  .rename_i n cs hrow
   split at hrun
   .rename_i fs CJ
    split at hrun
    .rename_i hn
     cases hrun;obtain ⟨rfl,hn⟩:=hn;have hcs:=lN _ _ _ (o5 _) CJ;subst hcs;obtain ⟨y,rfl,hy⟩:=ku hp.args
     rcases IE hp.hr hrow hy with ⟨h0,_,hv⟩|⟨b,off,c,news,rfl,_,hl,hc,hd⟩
     .have hf0:fs=[]:=List.length_eq_zero_iff.1 h0
      subst hf0
      rcases hv with rfl|⟨a,rfl⟩
      .exact Ap (prom:=prom) hp none 0 [] hn (.inl ⟨⟨_,_,rfl⟩,rfl⟩)
      .exact Ap (prom:=prom) hp (some a) 0 [] hn (.inl ⟨⟨_,_,rfl⟩,rfl⟩)
     .have hnews:∀ (j:Nat) (u:Value),(fs.flatMap F1.vals)[j]? =some u->news[j]? =some u:=fun j u hu=>by
       obtain ⟨d,d1,d2⟩:=Qo fs hu;obtain ⟨u',u1,u2⟩:=hd.2 j d d1;rw [u1,(pI d2).1 u2]
      have hcell:RY w b off fs:=fun j hj i u hu=>by
       have:=hc _ _ (hnews _ _ (VE fs j i u hj hu));rw [<- Nat.add_assoc] at this;exact this
      refine Ap (prom:=prom) hp (some (ad b off)) c fs hn (.inr ⟨b,off,c,rfl,fun h0=> ?_,hcell⟩);have:=hcell 0 h0 0 _ rfl
      rcases s5 b w.heap.size with h|h
      .exact h
      .unfold World.cell? at this
       rw [Array.getElem?_eq_none h] at this;cases this
    .cases hrun
   .cases hrun
  .cases hrun
 .cases hrun
end Go.Proofs.YtibjocmpkoepoaaGreat
namespace Go.Proofs.YtibjocmpkoepoaaGreat
open Go.Abs
def ad7:qW Tryz.prog A:=A_ok (fun f p h=>by
 revert h;unfold A;simp only;split
 .rename_i h;rintro h2;cases h2;subst h;exact Yr _
 .split
  .rename_i h;rintro h2;cases h2;subst h;exact Yq _
  .split
   .rename_i h;rintro h2;cases h2;subst h;exact Yn _
   .split
    .rename_i h;rintro h2;cases h2;subst h;exact Yp _
    .split
     .rename_i h;rintro h2;cases h2;subst h;exact am2 _
     .split
      .rename_i h;rintro h2;cases h2;subst h;exact am1 _
      .split
       .rename_i h;rintro h2;cases h2;subst h;exact Yo _
       .rintro h2;cases h2)
end Go.Proofs.YtibjocmpkoepoaaGreat


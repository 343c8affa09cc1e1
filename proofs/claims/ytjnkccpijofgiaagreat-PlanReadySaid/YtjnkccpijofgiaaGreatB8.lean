/-
  A row of numbers of an object rewritten by a function of the library: what is known behind it. slices.Sort and slices.Compact as primitives.; slices.Sort, slices.Compact and slices.Grow as primitives: what the library's contracts say is what the machine takes as one step.; Primitives that make new blocks and leave the old ones alone; slices.Clone and slices.Grow as such.; Calls of the machine where all that there is stays as it is, and where one row is written.
  (Put together by a small program out of several texts; blanks left out to keep the folder small.)
-/
import Derived.Test.YtjnkccpijofgiaaGreatB5
import Derived.Sort.Grow
import Derived.Lib.SlicesCompact
import Derived.Test.YtjnkccpijofgiaaGreatB6
import Derived.Laws.OwnMore
import Derived.Test.YtjnkccpijofgiaaGreatB4
set_option linter.unusedVariables false
set_option linter.unusedSimpArgs false
namespace Go.Abs
open Go.Sort
structure Rowed (w w' :World)(blk off:Nat)(ys:List Int):Prop where
 os:w'.os=w.os
 tape:w'.tape=w.tape
 output:w'.output=w.output
 size:w.heap.size≤w'.heap.size
 other:∀ b:Nat,b<w.heap.size→b≠blk→w'.heap[b]? =w.heap[b]?
 here:∀ (c:Array Value) (e:TypeId) (f:Nat×Nat),w.heap[blk]? =some (.cells c e f)→∃ c' :Array Value,w'.heap[blk]? =some (.cells c' e f)∧c'.size=c.size ∧
  (∀ k:Nat,(k<off∨off+ys.length≤k)→c'[k]? =c[k]?)∧∀ (j:Nat) (y:Int),off+j<c.size→ys[j]? =some y→c'[off+j]? =some (.int .i64 y)
theorem rowed_grow (w:World)(n blk off:Nat)(ys:List Int)(os:Array Obj):Rowed w (grow (putRow (Value.int .i64) (Sort.ahead w n) blk off ys.toArray) os) blk off ys where
 os:=rfl
 tape:=rfl
 output:=rfl
 size:=by simp [grow,Sort.ahead]
 other b hb hne:=by
  have:b<(w.heap.modify blk (onCells (putCells (Value.int .i64) off ys.toArray))).size:=by simpa using hb
  show (w.heap.modify blk (onCells (putCells (Value.int .i64) off ys.toArray))++os)[b]? =_
  rw [Array.getElem?_append_left this,Array.getElem?_modify,if_neg (Ne.symm hne)]
 here c e f hc:=by
  have hb:blk<w.heap.size:=by
   rcases Nat.lt_or_ge blk w.heap.size with h|h
   ·exact h
   ·rw [Array.getElem?_eq_none h] at hc;cases hc
  have:blk<(w.heap.modify blk (onCells (putCells (Value.int .i64) off ys.toArray))).size:=by simpa using hb
  refine ⟨putCells (Value.int .i64) off ys.toArray c,?_,by simp [putCells],fun k hk=> ?_,fun j y hj hy=> ?_⟩
  ·show (w.heap.modify blk (onCells (putCells (Value.int .i64) off ys.toArray))++os)[blk]? =_
   rw [Array.getElem?_append_left this,Array.getElem?_modify,if_pos rfl,hc]
   rfl
  ·simp only [putCells,Array.getElem?_mapIdx]
   have:¬ (off≤k∧k<off+ys.toArray.size):=by simp;omega
   simp only [this,if_false]
   cases c[k]? <;>rfl
  ·have hl:j<ys.length:=lt_of_getElem? hy
   simp only [putCells,Array.getElem?_mapIdx]
   rw [Array.getElem?_eq_getElem hj]
   have:(off≤off+j∧off+j<off+ys.toArray.size):=by simp;omega
   simp only [Option.map_some,this,and_self,if_true]
   rw [show off+j - off=j by omega,List.getElem!_toArray,List.getElem!_eq_getElem?_getD,hy]
   rfl
def iVal (n:Int):AVal:= .d (.int .i64 n)
theorem bndL_iVal:∀ ys:List Int,bndL (ys.map iVal)=0
 |[]=>rfl
 |y::ys=>by simp only [List.map_cons,bndL,bndL_iVal ys,iVal,AVal.bnd];rfl
theorem bnd_splice (old:List AVal)(lo:Nat)(ys:List Int):bndL (splice old lo (ys.map iVal))≤bndL old:=by
 have h1:=bndL_take lo old
 have h2:=bndL_drop (lo+(ys.map iVal).length) old
 simp only [splice,bndL_append,bndL_iVal]
 omega
theorem row_post {l:Lim}{H:Heap}{w w' :World}{G:Gh}{I:Inj}{N:Nat→Prop}{args:List AVal}{vargs:Array Value}(hp:CPre l H w G I N args vargs){id lo:Nat}{old:List AVal}{ys:List Int}
  (ho:H[id]? =some (.cells old)) (hlo:lo+ys.length≤old.length) (hm:l.may id=true) (hr:Rowed w w' (I id).1 ((I id).2+lo) ys) {v:AVal} {x:Value} (hv:VR G I N w' .ret v x) :
  CPost l H w G I N v (H.set id (.cells (splice old lo (ys.map iVal)))) x w' G I N:=by
 have hO:=hp.hr id _ ho
 simp only [OR] at hO
 obtain ⟨hN,c,e,f,h1,h2,h3,h4,h5⟩:=hO
 obtain ⟨c',g1,g2,g3,g4⟩:=hr.here c e f h1
 have hlt:∀ b:Nat,G b≠ .free→b<w.heap.size:=fun b hb=>by
  rcases Nat.lt_or_ge b w.heap.size with h|h
  ·exact h
  ·exact absurd (hp.wf b h) hb
 have hext:Ext G w G w' :=by
  refine ⟨hr.os,hr.tape,hr.output,hr.size,fun b o hi=>⟨hi,?_⟩,fun b hb=>⟨rfl,?_⟩,fun b c0 e0 f0 hc0=> ?_⟩
  ·have hne:b≠(I id).1:=by rintro rfl;unfold Imm at hi;rw [h2] at hi;exact hi
   have hb:G b≠ .free:=fun h=>by unfold Imm at hi;rw [h] at hi;exact hi
   simp only [World.cell?,hr.other b (hlt b hb) hne]
  ·have hne:b≠(I id).1:=by rintro rfl;rw [h2] at hb;rcases hb with hb|⟨_,hb⟩<;>cases hb
   exact hr.other b (hlt b (fun h=>by rw [h] at hb;rcases hb with hb|⟨_,hb⟩<;>cases hb)) hne
  ·by_cases hne:b=(I id).1
   ·subst hne
    rw [h1] at hc0
    cases hc0
    exact ⟨c',g1,g2⟩
   ·refine ⟨c0,?_,rfl⟩
    rw [hr.other b ?_ hne]
    ·exact hc0
    ·rcases Nat.lt_or_ge b w.heap.size with h|h
     ·exact h
     ·rw [Array.getElem?_eq_none h] at hc0;cases hc0
 have hkeep:∀ q,Keeps q G w G w' :=fun q b n hb=>⟨hb,hr.other b (hlt b (fun h=>by rw [h] at hb;cases hb)) (by rintro rfl;rw [h2] at hb;cases hb)⟩
 have hobj:∀ (b i:Nat),i≠id→G b= .obj i→G b= .obj i∧w'.heap[b]? =w.heap[b]? :=fun b i hi hb=>⟨hb,hr.other b (hlt b (fun h=>by rw [h] at hb;cases hb)) (by rintro rfl;rw [h2] at hb;cases hb;exact hi rfl)⟩
 have hidl:id<H.length:=lt_of_getElem? ho
 have hset:∀ (i:Nat) (o' :AObj),(H.set id (.cells (splice old lo (ys.map iVal))))[i]? =some o' →∃ o:AObj,H[i]? =some o∧o'.bnd≤o.bnd:=fun i o' hi=>by
  by_cases he:i=id
  ·subst he
   rw [List.getElem?_set_self hidl] at hi
   cases hi
   exact ⟨_,ho,bnd_splice old lo ys⟩
  ·rw [List.getElem?_set_ne (fun e=>he e.symm)] at hi
   exact ⟨o',hi,Nat.le_refl _⟩
 refine ⟨hv,?_,?_,hext,fun i hi=>⟨fun b hb=>hobj b i (by rintro rfl;rw [hm] at hi;cases hi) hb,fun off=>hkeep _⟩,fun _ _ _=>rfl,fun _ h=>h,fun _ _ h=>h,fun i hi=>by simpa using hp.nsub i hi,fun i o' _ hi=>Or.inr (hset i o' hi),fun i o' hi=> ?_⟩
 ·intro i o hi
  by_cases he:i=id
  ·subst he
   rw [List.getElem?_set_self hidl] at hi
   cases hi
   simp only [OR]
   refine ⟨hN,c',e,f,g1,h2,by rw [g2];exact h3,?_,fun j a hj=> ?_⟩
   ·rw [g2]
    simp only [splice,List.length_append,List.length_take,List.length_map,List.length_drop]
    omega
   ·rcases Nat.lt_or_ge j lo with hj1|hj1
    ·have hj2:old[j]? =some a:=by
      rw [← hj,splice,List.append_assoc,List.getElem?_append_left (by simp;omega),List.getElem?_take,if_pos hj1]
     obtain ⟨u,u1,u2⟩:=h5 j a hj2
     exact ⟨u,by rw [g3 _ (by omega)];exact u1,VR.mono hext (fun _ _=>rfl) (fun _ h=>h) _ _ _ (Or.inr (hkeep _)) u2⟩
    rcases Nat.lt_or_ge j (lo+ys.length) with hj2|hj2
    ·have hj3:(ys.map iVal)[j - lo]? =some a:=by
      rw [← hj,splice,List.getElem?_append_left (by simp;omega),List.getElem?_append_right (by simp;omega)]
      congr 1
      simp
      omega
     rw [List.getElem?_map] at hj3
     cases hy:ys[j - lo]? with
     |none=>rw [hy] at hj3;cases hj3
     |some y =>
      rw [hy] at hj3
      cases hj3
      refine ⟨.int .i64 y,?_,by simp only [iVal,VR,DR]⟩
      rw [show (I i).2+j=(I i).2+lo+(j - lo) by omega]
      exact g4 _ _ (by omega) hy
    ·have hj3:old[j]? =some a:=by
      rw [← hj,splice,List.getElem?_append_right (by simp;omega),List.getElem?_drop]
      congr 1
      simp
      omega
     obtain ⟨u,u1,u2⟩:=h5 j a hj3
     exact ⟨u,by rw [g3 _ (by omega)];exact u1,VR.mono hext (fun _ _=>rfl) (fun _ h=>h) _ _ _ (Or.inr (hkeep _)) u2⟩
  ·rw [List.getElem?_set_ne (fun e=>he e.symm)] at hi
   exact OR.mono hext (fun _ _=>rfl) (fun _ h=>h) i o (fun h=>hobj _ i he h) (fun off=>hkeep _) (hp.hr i o hi)
 ·intro b hb
  exact hp.wf b (Nat.le_trans hr.size hb)
 ·obtain ⟨o,h6,h7⟩:=hset i o' hi
  obtain ⟨h8,h9⟩:=hp.disc i o h6
  exact ⟨fun h=>Nat.le_trans h7 (h8 h),fun h=>Nat.le_trans h7 (h9 h)⟩
end Go.Abs
namespace Go.Abs
open Go.Sort
theorem insI_perm (x:Int):∀ l:List Int,(insI x l).Perm (x::l)
 |[]=>List.Perm.refl _
 |y::l=>by
  simp only [insI]
  split
  ·exact List.Perm.refl _
  ·exact ((insI_perm x l).cons y).trans (List.Perm.swap x y l)
theorem sortI_perm:∀ l:List Int,(sortI l).Perm l
 |[]=>List.Perm.refl _
 |x::l=>(insI_perm x _).trans ((sortI_perm l).cons x)
theorem insI_sorted (x:Int):∀ l:List Int,l.Pairwise (·≤·)→(insI x l).Pairwise (·≤·)
 |[],_=>by simp [insI]
 |y::l,h=>by
  simp only [insI]
  rw [List.pairwise_cons] at h
  split
  ·rename_i hx
   refine List.pairwise_cons.2 ⟨fun z hz=> ?_,List.pairwise_cons.2 h⟩
   rcases List.mem_cons.1 hz with rfl|hz
   ·exact hx
   ·exact Int.le_trans hx (h.1 z hz)
  ·rename_i hx
   refine List.pairwise_cons.2 ⟨fun z hz=> ?_,insI_sorted x l h.2⟩
   rcases List.mem_cons.1 ((insI_perm x l).mem_iff.1 hz) with rfl|hz
   ·omega
   ·exact h.1 z hz
theorem sortI_sorted:∀ l:List Int,(sortI l).Pairwise (·≤·)
 |[]=>List.Pairwise.nil
 |x::l=>insI_sorted x _ (sortI_sorted l)
theorem mergeSort_sortI (l:List Int):(l.mergeSort fun x y=>decide (x≤y))=sortI l:=by
 refine List.Perm.eq_of_pairwise (le:=fun a b=>a≤b) (fun a b _ _ h1 h2=>Int.le_antisymm h1 h2) ?_ (sortI_sorted l) ((List.mergeSort_perm l _).trans (sortI_perm l).symm)
 have:=List.pairwise_mergeSort (le:=fun x y:Int=>decide (x≤y)) (fun a b c h1 h2=>by simp at h1 h2 ⊢;omega) (fun a b=>by simp;omega) l
 exact this.imp (fun h=>by simpa using h)
theorem sortI_length (l:List Int):(sortI l).length=l.length:=(sortI_perm l).length_eq
theorem dedI_snoc (a b:Int):∀ l:List Int,dedI (l++[a,b])=dedI (l++[a])++(if b=a then [] else [b])
 |[]=>by
  simp only [List.nil_append,dedI]
  by_cases h:a=b
  ·subst h;simp
  ·simp [h,Ne.symm h]
 |[x]=>by
  have ih:=dedI_snoc a b []
  simp only [List.nil_append] at ih
  simp only [List.cons_append,List.nil_append,dedI]
  simp only [dedI] at ih
  by_cases h:x=a
  ·simp only [h,if_true]
   exact ih
  ·simp only [h,if_false,ih,List.cons_append]
 |x::y::l=>by
  have ih:=dedI_snoc a b (y::l)
  simp only [List.cons_append] at ih
  simp only [List.cons_append,dedI]
  by_cases h:x=y
  ·simp only [h,if_true]
   exact ih
  ·simp only [h,if_false,ih,List.cons_append]
theorem compactUpTo_dedI (zs:List Int):∀ m,m≤zs.length→Lib.compactUpTo zs.toArray m=dedI (zs.take m)
 |0,_=>by simp [Lib.compactUpTo,dedI]
 |1,h=>by
  obtain ⟨z,r,rfl⟩:∃ z r,zs=z::r:=by
   cases zs with
   |nil=>simp at h
   |cons z r=>exact ⟨z,r,rfl⟩
  rw [Lib.compactUpTo_succ,Lib.keeps_lt_one _ 0 (by omega)]
  simp [Lib.compactUpTo,dedI]
 |m+2,h=>by
  have ih:=compactUpTo_dedI zs (m+1) (by omega)
  have e1:zs.take (m+1)=zs.take m++[zs[m]]:=by rw [List.take_append_getElem]
  have e2:zs.take (m+2)=zs.take m++[zs[m],zs[m+1]]:=by
   have:zs.take (m+1+1)=zs.take (m+1)++[zs[m+1]]:=by rw [List.take_append_getElem]
   rw [this,e1,List.append_assoc]
   rfl
  rw [Lib.compactUpTo_succ,ih,e1,e2,dedI_snoc]
  congr 1
  have g1:zs.toArray[m+1]! =zs[m+1]:=by
   have:m+1<zs.length:=by omega
   simp [this]
  have g2:zs.toArray[m+1 - 1]! =zs[m]:=by
   have:m<zs.length:=by omega
   simp [this]
  by_cases hk:zs[m+1]=zs[m]
  ·rw [Lib.keeps_neg (by omega) (by rw [g1,g2,hk]),if_pos hk]
   rfl
  ·rw [Lib.keeps_pos (by rw [g1,g2];exact hk),if_neg hk,g1]
   rfl
theorem compact_dedI (zs:List Int):Lib.compact zs=dedI zs:=by
 rw [Lib.compact,compactUpTo_dedI zs _ (Nat.le_refl _),List.take_length]
theorem dedI_length:∀ l:List Int,(dedI l).length≤l.length
 |[]=>by simp [dedI]
 |[x]=>by simp [dedI]
 |x::y::l=>by
  have:=dedI_length (y::l)
  simp only [dedI]
  split<;>simp at this ⊢<;>omega
theorem intsOf_sound:∀ {vs:List AVal} {xs:List Int},intsOf? vs=some xs→vs=xs.map iVal
 |[],xs,h=>by simp [intsOf?] at h;subst h;rfl
 |v::vs,xs,h=>by
  unfold intsOf? at h
  split at h
  ·rename_i heq;cases heq
  ·rename_i n r heq
   cases heq
   split at h
   ·rename_i ys hy
    cases h
    rw [intsOf_sound hy]
    rfl
   ·cases h
  ·cases h
theorem rd_some {H:Heap}{id lo len:Nat}{vs:List AVal}(h:rd H id lo len=some vs):∃ old,H[id]? =some (.cells old)∧lo+len≤old.length∧vs=(old.drop lo).take len:=by
 unfold rd at h
 split at h
 ·rename_i l hl
  split at h
  ·rename_i hle
   cases h
   exact ⟨l,hl,hle,rfl⟩
  ·cases h
 ·cases h
theorem holds_of {G:Gh}{I:Inj}{N:Nat→Prop}{w:World}{H:Heap}(hr:HR G I N w H){id lo len:Nat}{old:List AVal}{xs:List Int}(ho:H[id]? =some (.cells old))(hl:lo+len≤old.length)(hx:(old.drop lo).take len=xs.map iVal) :
  Holds (Value.int .i64) w (I id).1 ((I id).2+lo) xs.toArray∧(I id).1<w.heap.size∧xs.length=len:=by
 have hO:=hr id _ ho
 simp only [OR] at hO
 obtain ⟨hN,c,e,f,h1,h2,h3,h4,h5⟩:=hO
 have hlen:xs.length=len:=by
  have:=congrArg List.length hx
  simp at this
  omega
 refine ⟨fun j hj=> ?_,?_,hlen⟩
 ·have hj' :j<xs.length:=by simpa using hj
  have e1:old[lo+j]? =some (iVal xs[j]):=by
   have:=congrArg (·[j]?) hx
   simp only [List.getElem?_take,List.getElem?_drop,List.getElem?_map] at this
   rw [if_pos (by omega)] at this
   rw [this,List.getElem?_eq_getElem hj']
   rfl
  obtain ⟨v,g1,g2⟩:=h5 _ _ e1
  simp only [iVal,VR,DR] at g2
  subst g2
  constructor
  ·show w.cell? (ad (I id).1 ((I id).2+lo+j))=_
   simp only [World.cell?,h1]
   rw [Nat.add_assoc,g1]
   simp [hj']
  ·show w.frozen? (ad (I id).1 ((I id).2+lo+j))=_
   have hlt:(I id).2+lo+j<c.size:=by
    have:=h4
    omega
   have:=h3 _ hlt
   simp only [World.frozen?,h1]
   simpa using this
 ·rcases Nat.lt_or_ge (I id).1 w.heap.size with h|h
  ·exact h
  ·rw [Array.getElem?_eq_none h] at h1;cases h1
theorem wr_splice {H:Heap}{id lo:Nat}{old vs:List AVal}{H1:Heap}(ho:H[id]? =some (.cells old))(h:wr H id lo vs=some H1):H1=H.set id (.cells (splice old lo vs)):=by
 unfold wr at h
 rw [ho] at h
 simp only at h
 split at h
 ·cases h;rfl
 ·cases h
theorem same_post {l:Lim}{H:Heap}{w:World}{G:Gh}{I:Inj}{N:Nat→Prop}{args:List AVal}{vargs:Array Value}(hp:CPre l H w G I N args vargs){v:AVal}{x:Value}(hv:VR G I N w .ret v x):CPost l H w G I N v H x w G I N :=
 ⟨hv,hp.hr,hp.wf,Ext.refl _ _,Pres.refl _ _ _,fun _ _ _=>rfl,fun _ h=>h,fun _ _ h=>h,hp.nsub,fun _ o' _ ho=>Or.inr ⟨o',ho,Nat.le_refl _⟩,hp.disc⟩
theorem args_one {G:Gh}{I:Inj}{N:Nat→Prop}{w:World}{a:AVal}{vargs:Array Value}(h:VRs G I N w [a] vargs.toList):∃ x,vargs= #[x]∧VR G I N w .none a x:=by
 simp only [VRs] at h
 obtain ⟨x,xs,h1,h2,rfl⟩:=h
 refine ⟨x,?_,h2⟩
 apply Array.ext'
 rw [h1]
theorem sort_prim {P:Program}{prom:FuncId→Bool}{f:FuncId}(hcan:canCall P f=true)
  (hS:∀ (blk off cap:Nat) (zs:List Int) (w:World),Holds (Value.int .i64) w blk off zs.toArray→blk<w.heap.size→zs.length<4611686018427387904→Calls P f #[.slice (some ⟨blk,off,none⟩) zs.length cap] w fun e w' =>
   e= .returned (.tuple #[])∧∃ n os,w' =grow (putRow (Value.int .i64) (Sort.ahead w n) blk off (zs.mergeSort fun x y=>decide (x≤y)).toArray) os)
  (hE:∀ (p:Option Addr) (cap:Nat) (w:World),Calls P f #[.slice p 0 cap] w fun e w' =>e= .returned (.tuple #[])∧w' =w):PrimOK P prom f pSort:=by
 refine ⟨hcan,fun args H l v H1 hrun w G I N vargs hp _=> ?_⟩
 unfold pSort at hrun
 split at hrun
 ·rename_i id lo len H l
  split at hrun
  ·rename_i hm
   simp only [Bool.and_eq_true] at hm
   have hb:=Nat.le_of_ble_eq_true hm.2
   split at hrun
   ·rename_i vs hvs
    split at hrun
    ·rename_i xs hxs
     split at hrun
     ·rename_i H2 hw
      cases hrun
      obtain ⟨old,ho,hl,rfl⟩:=rd_some hvs
      have hx:=intsOf_sound hxs
      obtain ⟨g1,g2,g3⟩:=holds_of hp.hr ho hl hx
      have hH:=wr_splice ho hw
      subst hH
      obtain ⟨x,rfl,hv⟩:=args_one hp.args
      simp only [VR] at hv
      obtain ⟨_,cap,rfl,_⟩:=hv
      subst g3
      refine (hS _ _ cap xs w g1 g2 (by omega)).mono ?_
      rintro e w' ⟨rfl,n,os,rfl⟩
      rw [mergeSort_sortI]
      exact ⟨_,G,I,N,rfl,row_post hp (ys:=sortI xs) ho (by rw [sortI_length];exact hl) hm.1 (rowed_grow _ _ _ _ _ _) (by simp only [VR];exact ⟨#[],rfl,by simp [VRs]⟩)⟩
     ·cases hrun
    ·cases hrun
   ·cases hrun
  ·cases hrun
 ·rename_i cs H l
  cases hrun
  obtain ⟨x,rfl,hv⟩:=args_one hp.args
  simp only [VR,DR] at hv
  have key:∃ p cap,x= .slice p 0 cap:=by
   rcases hv with ⟨hv|⟨a,hv⟩,_⟩|⟨b,o,cap,hv,_⟩
   ·exact ⟨_,_,hv⟩
   ·exact ⟨_,_,hv⟩
   ·exact ⟨_,_,hv⟩
  obtain ⟨p,cap,rfl⟩:=key
  refine (hE p cap w).mono ?_
  rintro e w' ⟨rfl,rfl⟩
  exact ⟨_,G,I,N,rfl,same_post hp (by simp only [VR];exact ⟨#[],rfl,by simp [VRs]⟩)⟩
 ·cases hrun
theorem compact_prim {P:Program}{prom:FuncId→Bool}{f:FuncId}(hcan:canCall P f=true)
  (hS:∀ (blk off cap:Nat) (zs:List Int) (w:World),Holds (Value.int .i64) w blk off zs.toArray→zs.length≤9223372036854775807→zs.length≤cap→Calls P f #[.slice (some ⟨blk,off,none⟩) zs.length cap] w fun e w' =>
   e= .returned (.slice (some ⟨blk,off,none⟩) (Lib.compact zs).length cap)∧∃ q,w' =putRow (Value.int .i64) (Sort.ahead w q) blk off (Lib.compact zs++List.replicate (zs.length - (Lib.compact zs).length) 0).toArray):PrimOK P prom f pCompact:=by
 refine ⟨hcan,fun args H l v H1 hrun w G I N vargs hp _=> ?_⟩
 unfold pCompact at hrun
 split at hrun
 ·rename_i id lo len
  split at hrun
  ·rename_i hm
   simp only [Bool.and_eq_true] at hm
   have hb:=Nat.le_of_ble_eq_true hm.2
   split at hrun
   ·rename_i vs hvs
    split at hrun
    ·rename_i xs hxs
     split at hrun
     ·rename_i H2 hw
      cases hrun
      obtain ⟨old,ho,hl,rfl⟩:=rd_some hvs
      have hx:=intsOf_sound hxs
      obtain ⟨g1,g2,g3⟩:=holds_of hp.hr ho hl hx
      have hH:=wr_splice ho hw
      subst hH
      obtain ⟨x,rfl,hv⟩:=args_one hp.args
      simp only [VR] at hv
      obtain ⟨hN,cap,rfl,hcap,c,e0,f0,k1,k2⟩:=hv
      subst g3
      refine (hS _ _ cap xs w g1 (by omega) hcap).mono ?_
      rintro e w' ⟨rfl,q,rfl⟩
      rw [compact_dedI]
      have hd:=dedI_length xs
      have hR:=rowed_grow w q (I id).1 ((I id).2+lo) (dedI xs++List.replicate (xs.length - (dedI xs).length) 0) #[]
      rw [grow_empty] at hR
      obtain ⟨c',u1,u2,_⟩:=hR.here c e0 f0 k1
      refine ⟨_,G,I,N,rfl,row_post hp (ys:=dedI xs++List.replicate (xs.length - (dedI xs).length) 0) ho (by simp;omega) hm.1 hR ?_⟩
      simp only [VR]
      exact ⟨hN,cap,rfl,by omega,c',e0,f0,u1,by rw [u2];exact k2⟩
     ·cases hrun
    ·cases hrun
   ·cases hrun
  ·cases hrun
 ·cases hrun
theorem grow_prim {P:Program}{prom:FuncId→Bool}{f:FuncId}(hcan:canCall P f=true)
  (hR:∀ w:World,Calls P f #[.slice none 0 0,.int .i64 0] w fun e w' =>e= .returned (.slice none 0 0)∧w' =w)
  (hG:∀ (n:Nat) (w:World),0<n→n≤1000000→Calls P f #[.slice none 0 0,.int .i64 n] w fun e w' =>∃ (cap:Nat) (c:Array Value) (t:TypeId),e= .returned (.slice (some ⟨w.heap.size,0,none⟩) 0 cap)∧w' =w.drew.alloc (.cells c t)∧c.size=cap):PrimOK P prom f pGrow:=by
 refine ⟨hcan,fun args H l v H1 hrun w G I N vargs hp _=> ?_⟩
 unfold pGrow at hrun
 split at hrun
 ·rename_i n
  split at hrun
  ·rename_i hn
   cases hrun
   obtain ⟨m,rfl⟩:∃ m:Nat,n=m:=⟨n.toNat,by omega⟩
   have ha:=hp.args
   simp only [VRs,VR,DR] at ha
   obtain ⟨x,xs,h1,rfl,y,ys,rfl,rfl,rfl⟩:=ha
   have hv:vargs= #[.slice none 0 0,.int .i64 m]:=by
    apply Array.ext'
    rw [h1]
   subst hv
   rcases Nat.eq_zero_or_pos m with rfl|h0
   ·refine (hR w).mono ?_
    rintro e w' ⟨rfl,rfl⟩
    exact ⟨_,G,I,N,rfl,same_post hp (by simp [VR])⟩
   ·refine (hG m w h0 (by omega)).mono ?_
    rintro e w' ⟨cap,c,t,rfl,rfl,hc⟩
    have hN:New w (w.drew.alloc (.cells c t)) (.cells c t):=(New.alloc w (.cells c t)).drew (w.drawn+1)
    refine ⟨_,upd G w.heap.size (.grow 0 .ret),I,N,rfl,?_,hN.hr hp.wf _ (fun _ _=>rfl) (fun _ h=>h) hp.hr,hN.wf hp.wf _,hN.ext hp.wf _,hN.pres hp.wf _ _,fun _ _ _=>rfl,fun _ h=>h,fun _ _ h=>h,hp.nsub,fun _ o' _ ho=>Or.inr ⟨o',ho,Nat.le_refl _⟩,hp.disc⟩
    simp only [VR]
    exact ⟨rfl,Or.inr ⟨by simp,w.heap.size,0,cap,c,t,_,rfl,Nat.zero_le _,hN.new,by omega,NoFr00 _,by simp,by simp [DRs]⟩⟩
  ·cases hrun
 ·cases hrun
end Go.Abs
namespace Go.Abs
open Go.RowKit
section
variable {w w' :World} {G G' :Gh} {I:Inj} {N:Nat→Prop} {l:Lim} {H:Heap}
theorem below_ext (hB:Below w.heap.size w w')(hwf:WF G w)(hG:∀ b,b<w.heap.size→G' b=G b):Ext G w G' w' where
 os:=hB.os
 tape:=hB.tape
 output:=hB.output
 size:=hB.size
 imm b o hi:=by
  have hb:b<w.heap.size:=lt_of_label hwf (by intro e;simp [Imm,e] at hi)
  exact ⟨by unfold Imm;rw [hG b hb];exact hi,by simp only [World.cell?,hB.block b hb]⟩
 still b hb:=by
  have hlt:b<w.heap.size:=lt_of_label hwf (by intro e;rw [e] at hb;rcases hb with hb|⟨_,hb⟩<;>cases hb)
  exact ⟨hG b hlt,hB.block b hlt⟩
 shape b c e f hc:=by
  have hlt:b<w.heap.size:=by
   rcases Nat.lt_or_ge b w.heap.size with h|h
   ·exact h
   ·rw [Array.getElem?_eq_none h] at hc;cases hc
  exact ⟨c,(hB.block b hlt).trans hc,rfl⟩
theorem below_keeps (hB:Below w.heap.size w w')(hwf:WF G w)(hG:∀ b,b<w.heap.size→G' b=G b)(q:Place):Keeps q G w G' w' :=fun b n hb=>by
 have hlt:b<w.heap.size:=lt_of_label hwf (by rw [hb];simp)
 exact ⟨(hG b hlt).trans hb,hB.block b hlt⟩
theorem below_objs (hB:Below w.heap.size w w')(hwf:WF G w)(hG:∀ b,b<w.heap.size→G' b=G b)(b id:Nat)(hb:G b= .obj id):G' b= .obj id∧w'.heap[b]? =w.heap[b]? :=by
 have hlt:b<w.heap.size:=lt_of_label hwf (by rw [hb];simp)
 exact ⟨(hG b hlt).trans hb,hB.block b hlt⟩
theorem below_post {args:List AVal}{vargs:Array Value}(hp:CPre l H w G I N args vargs)(hB:Below w.heap.size w w')(hG:∀ b,b<w.heap.size→G' b=G b)(hwf' :WF G' w'){v:AVal}{x:Value}(hv:VR G' I N w' .ret v x):CPost l H w G I N v H x w' G' I N :=
 ⟨hv,fun id o ho=>OR.mono (below_ext hB hp.wf hG) (fun _ _=>rfl) (fun _ h=>h) id o (fun h=>below_objs hB hp.wf hG _ _ h) (fun _=>below_keeps hB hp.wf hG _) (hp.hr id o ho),hwf',below_ext hB hp.wf hG,
  fun id _=>⟨fun b hb=>below_objs hB hp.wf hG b id hb,fun _=>below_keeps hB hp.wf hG _⟩,fun _ _ _=>rfl,fun _ h=>h,fun _ _ h=>h,hp.nsub,fun _ o' _ ho=>Or.inr ⟨o',ho,Nat.le_refl _⟩,hp.disc⟩
def DRx (G:Gh)(w:World)(cs:List Data)(news:List Value):Prop:=news.length=cs.length∧∀ (j:Nat) (c:Data),cs[j]? =some c→∃ u,news[j]? =some u∧DR G w c u
theorem DRs.of {b:Nat}:∀ (o:Nat) (cs:List Data),(∀ (j:Nat) (c:Data),cs[j]? =some c→Imm G b (o+j)∧∃ u,w.cell? (ad b (o+j))=some u∧DR G w c u)→DRs G w b o cs
 |_,[],_=>by simp [DRs]
 |o,c::cs,h=>by
  simp only [DRs]
  obtain ⟨h1,h2⟩:=h 0 c rfl
  refine ⟨h1,h2,DRs.of (o+1) cs fun j c hj=> ?_⟩
  have:=h (j+1) c (by simpa using hj)
  rwa [show o+(j+1)=o+1+j by omega] at this
theorem DRs.at {b:Nat}:∀ (o:Nat) (cs:List Data),DRs G w b o cs→∀ (j:Nat) (c:Data),cs[j]? =some c→Imm G b (o+j)∧∃ u,w.cell? (ad b (o+j))=some u∧DR G w c u
 |_,[],_,_,_,hj=>by simp at hj
 |o,c::cs,h,j,c',hj=>by
  simp only [DRs] at h
  cases j with
  |zero=>simp at hj;subst hj;exact ⟨h.1,h.2.1⟩
  |succ j =>
   have:=DRs.at (o+1) cs h.2.2 j c' (by simpa using hj)
   rwa [show o+1+j=o+(j+1) by omega] at this
theorem DR.one {d:Data}{v:Value}(h:DR G w d v):v.oneCell' =true:=by
 cases d<;>simp only [DR] at h
 case slice len cells=>rcases h with ⟨h|⟨a,h⟩,_⟩|⟨b,o,cap,h,_⟩<;>subst h<;>rfl
 all_goals (subst h;rfl)
theorem DRx.mono {cs:List Data}{news:List Value}(h:DRx G w cs news)(hx:Ext G w G' w'):DRx G' w' cs news:=⟨h.1,fun j c hj=>by
 obtain ⟨u,h1,h2⟩:=h.2 j c hj
 exact ⟨u,h1,DR.mono hx.imm c u h2⟩⟩
theorem DRx.ones {cs:List Data}{news:List Value}(h:DRx G w cs news):∀ u ∈ news,u.oneCell' =true:=by
 intro u hu
 obtain ⟨j,hj,rfl⟩:=List.mem_iff_getElem.1 hu
 have hl:=h.1
 obtain ⟨u',h1,h2⟩:=h.2 j (cs[j]'(by omega)) (List.getElem?_eq_getElem (by omega))
 rw [List.getElem?_eq_getElem hj] at h1
 cases h1
 exact h2.one
theorem own_row {e z n:Nat}{v:Value}{news:List Value}{cs:List Data}(hown:w'.ownsRow w.heap.size e z v n news)(hB:Below w.heap.size w w')(hwf:WF G w)(hd:DRx G w cs news) :
  ∃ G',(∀ b,b<w.heap.size→G' b=G b)∧WF G' w' ∧VR G' I N w' .ret (.own z n cs) v:=by
 obtain ⟨h1,h2⟩:=hown
 have hl:cs.length=n * z:=by rw [← hd.1];exact h1
 rcases h2 with ⟨rfl,rfl⟩|⟨g,cap,cur,rfl,hg,hh,hc1,hc2,hc3,hc4⟩
 ·refine ⟨G,fun _ _=>rfl,fun b hb=>hwf b (Nat.le_trans hB.size hb),?_⟩
  simp only [VR]
  exact ⟨hl,Or.inl ⟨Or.inl trivial,trivial⟩⟩
 ·have hlt:g<w'.heap.size:=by
   rcases Nat.lt_or_ge g w'.heap.size with h|h
   ·exact h
   ·rw [Array.getElem?_eq_none h] at hh;cases hh
  have hG:∀ b,b<w.heap.size→(upd G g (.grow (0+n * z) .ret)) b=G b:=fun b hb=>upd_other (by omega)
  refine ⟨upd G g (.grow (0+n * z) .ret),hG,fun b hb=> ?_,?_⟩
  ·rw [upd_other (by omega)]
   exact hwf b (Nat.le_trans hB.size hb)
  ·have hd' :=hd.mono (below_ext hB hwf hG)
   simp only [VR]
   refine ⟨hl,Or.inr ⟨by simp,g,0,cap,cur,e,(0,0),rfl,hc1,hh,by omega,NoFr00 _,by simp,DRs.of 0 cs fun j c hj=> ?_⟩⟩
   obtain ⟨u,g1,g2⟩:=hd'.2 j c hj
   have hjl:j<n * z:=by
    rw [← hl]
    exact lt_of_getElem? hj
   refine ⟨by simp [Imm];omega,u,?_,g2⟩
   simp only [World.cell?,hh]
   rw [← hc4,List.getElem?_take,if_pos hjl] at g1
   simpa using g1
theorem rowOf_sound {z n:Nat}{cs:List Data}{x:AVal}{v:Value}(hr:HR G I N w H)(h:rowOf z H x=some (n,cs))(hv:VR G I N w .none x v) :
  (n=0∧cs=[]∧(v= .slice none 0 0∨∃ a,v= .slice (some a) 0 0))∨∃ (b off c:Nat) (news:List Value),v= .slice (some (ad b off)) n c∧n≤c∧news.length=n * z∧(∀ (j:Nat) (u:Value),news[j]? =some u→w.cell? (ad b (off+j))=some u)∧DRx G w cs news:=by
 unfold rowOf at h
 split at h
 ·rename_i n' cs'
  split at h
  ·rename_i hl
   cases h
   simp only [VR,DR] at hv
   rcases hv with ⟨hv|⟨a,hv⟩,h0,h1⟩|⟨b,o,cap,hv,hcap,hd⟩
   ·exact Or.inl ⟨h0,h1,Or.inl hv⟩
   ·exact Or.inl ⟨h0,h1,Or.inr ⟨a,hv⟩⟩
   ·obtain ⟨vs,g1,g2,g3⟩:=DRs.vals (I:=I) (N:=N) o _ hd
    have:=datas_sound _ _ _ (datas_map_d _) g3
    exact Or.inr ⟨_,_,cap,vs,hv,hcap,by rw [g1,hl],g2,g1,this.2⟩
  ·cases h
 ·rename_i id z' lo n'
  split at h
  ·rename_i hz
   subst hz
   split at h
   ·rename_i vs hvs
    split at h
    ·rename_i cs' hcs
     cases h
     simp only [VR] at hv
     obtain ⟨hN,cap,rfl,hcap,_⟩:=hv
     rcases Nat.eq_zero_or_pos (n * z') with h0|h0
     ·have hvs0:vs=[]:=by
       obtain ⟨old,_,_,rfl⟩:=rd_some hvs
       rw [h0];simp
      subst hvs0
      simp [datas?] at hcs
      subst hcs
      exact Or.inr ⟨_,_,cap,[],rfl,hcap,by simp [h0],by simp,by simp [DRx]⟩
     ·obtain ⟨_,xs,g1,g2,g3,g4⟩:=hr.rd hvs h0
      refine Or.inr ⟨_,_,cap,xs,rfl,hcap,g1,g3,?_,?_⟩
      ·rw [g1,(datas_get vs cs hcs).1,g2]
      ·intro j c hj
       obtain ⟨a,k1,k2⟩:=(datas_get vs cs hcs).2 j c hj
       have hjl:j<xs.length:=by
        have:=lt_of_getElem? k1
        omega
       refine ⟨xs[j],List.getElem?_eq_getElem hjl,?_⟩
       have hq:=g4 j a _ k1 (List.getElem?_eq_getElem hjl)
       have hq2:=hq.asD (pl' := .none)
       have ha:a.asD= .d c:=by
        cases a<;>simp [AVal.data?] at k2<;>subst k2<;>rfl
       rw [ha] at hq2
       simpa only [VR] using hq2
    ·cases h
   ·cases h
  ·cases h
 ·cases h
theorem clone_prim {P:Program}{prom:FuncId→Bool}{f:FuncId}{z e:Nat}(hcan:canCall P f=true)
  (hC:∀ (ad:Addr) (n c:Nat) (news:List Value) (w:World),news.length=n * z→n≤1000000→(∀ (j:Nat) (u:Value),news[j]? =some u→w.cell? (ad.add j)=some u)→(∀ u ∈ news,u.oneCell' =true) →
   Calls P f #[.slice (some ad) n c] w fun x w' =>∃ v',x= .returned v' ∧w'.ownsRow w.heap.size e z v' n news∧Below w.heap.size w w')
  (hN:∀ (n c:Nat) (w:World),Calls P f #[.slice none n c] w fun x w' =>x= .returned (.slice none 0 0)∧w' =w):PrimOK P prom f (pClone z):=by
 refine ⟨hcan,fun args H l v H1 hrun w G I N vargs hp _=> ?_⟩
 unfold pClone at hrun
 split at hrun
 ·rename_i x H l
  obtain ⟨u,rfl,hu⟩:=args_one hp.args
  split at hrun
  ·rename_i cs hrow
   cases hrun
   rcases rowOf_sound hp.hr hrow hu with ⟨_,rfl,rfl|⟨a,rfl⟩⟩|⟨b,off,c,news,rfl,_,hl,hc,hd⟩
   ·refine (hN 0 0 w).mono ?_
    rintro e' w' ⟨rfl,rfl⟩
    exact ⟨_,G,I,N,rfl,same_post hp (by simp [VR,DR])⟩
   ·refine (hC a 0 0 [] w (by simp) (by omega) (by simp) (by simp)).mono ?_
    rintro e' w' ⟨v',rfl,hown,hB⟩
    refine ⟨_,G,I,N,rfl,below_post hp hB (fun _ _=>rfl) (fun b hb=>hp.wf b (Nat.le_trans hB.size hb)) ?_⟩
    simp only [VR,DR]
    rcases hown.2 with ⟨rfl,_⟩|⟨g,cap,cur,rfl,_⟩
    ·exact Or.inl ⟨Or.inl rfl,trivial,trivial⟩
    ·exact Or.inr ⟨g,0,cap,rfl,Nat.zero_le _,by simp [DRs]⟩
   ·refine (hC (ad b off) 0 c news w hl (by omega) (fun j u hj=>by rw [add_ad];exact hc j u hj) hd.ones).mono ?_
    rintro e' w' ⟨v',rfl,hown,hB⟩
    refine ⟨_,G,I,N,rfl,below_post hp hB (fun _ _=>rfl) (fun b hb=>hp.wf b (Nat.le_trans hB.size hb)) ?_⟩
    simp only [VR,DR]
    rcases hown.2 with ⟨rfl,_⟩|⟨g,cap,cur,rfl,_⟩
    ·exact Or.inl ⟨Or.inl rfl,trivial,trivial⟩
    ·exact Or.inr ⟨g,0,cap,rfl,Nat.zero_le _,by simp [DRs]⟩
  ·rename_i n cs hrow
   split at hrun
   ·rename_i hn
    cases hrun
    rcases rowOf_sound hp.hr hrow hu with ⟨h0,_⟩|⟨b,off,c,news,rfl,_,hl,hc,hd⟩
    ·cases h0
    ·refine (hC (ad b off) (n+1) c news w hl (by omega) (fun j u hj=>by rw [add_ad];exact hc j u hj) hd.ones).mono ?_
     rintro e' w' ⟨v',rfl,hown,hB⟩
     obtain ⟨G',hG,hwf',hv'⟩:=own_row (I:=I) (N:=N) hown hB hp.wf hd
     exact ⟨_,G',I,N,rfl,below_post hp hB hG hwf' hv'⟩
   ·cases hrun
  ·cases hrun
 ·cases hrun
theorem growN_prim {P:Program}{prom:FuncId→Bool}{f:FuncId}{z e:Nat}(hcan:canCall P f=true)
  (hG:∀ (n:Nat) (w:World),0<n→n≤1000000→Calls P f #[.slice none 0 0,.int .i64 n] w fun x w' =>∃ (cap:Nat) (c:Array Value),x= .returned (.slice (some ⟨w.heap.size,0,none⟩) 0 cap)∧w' =w.drew.alloc (.cells c e)∧c.size=cap * z):PrimOK P prom f (pGrowN z):=by
 refine ⟨hcan,fun args H l v H1 hrun w G I N vargs hp _=> ?_⟩
 unfold pGrowN at hrun
 split at hrun
 ·rename_i n
  split at hrun
  ·rename_i hn
   cases hrun
   obtain ⟨m,rfl⟩:∃ m:Nat,n=m:=⟨n.toNat,by omega⟩
   have ha:=hp.args
   simp only [VRs,VR,DR] at ha
   obtain ⟨x,xs,h1,rfl,y,ys,rfl,rfl,rfl⟩:=ha
   have hv:vargs= #[.slice none 0 0,.int .i64 m]:=by
    apply Array.ext'
    rw [h1]
   subst hv
   refine (hG m w (by omega) (by omega)).mono ?_
   rintro e' w' ⟨cap,c,rfl,rfl,hc⟩
   have hN:New w (w.drew.alloc (.cells c e)) (.cells c e):=(New.alloc w (.cells c e)).drew (w.drawn+1)
   refine ⟨_,upd G w.heap.size (.grow 0 .ret),I,N,rfl,?_,hN.hr hp.wf _ (fun _ _=>rfl) (fun _ h=>h) hp.hr,hN.wf hp.wf _,hN.ext hp.wf _,hN.pres hp.wf _ _,fun _ _ _=>rfl,fun _ h=>h,fun _ _ h=>h,hp.nsub,fun _ o' _ ho=>Or.inr ⟨o',ho,Nat.le_refl _⟩,hp.disc⟩
   simp only [VR]
   exact ⟨by simp,Or.inr ⟨by simp,w.heap.size,0,cap,c,e,_,rfl,Nat.zero_le _,hN.new,by omega,NoFr00 _,by simp,by simp [DRs]⟩⟩
  ·cases hrun
 ·cases hrun
end
end Go.Abs
namespace Go.Abs
open Go.RowKit
theorem data_calls {P:Program}{A:Prog}(h:ProgOK P A){n:Nat}{f:FuncId}{args:List AVal}{vargs:Array Value}{w:World}{v:AVal}(hc:call A n f args [] lim0=some (v,[]))
  (hargs:VRs (G0 w) (fun _=>(0,0)) (fun _=>False) w args vargs.toList):Calls P f vargs w fun e w' =>∃ (x:Value) (G' :Gh) (I' :Inj) (N' :Nat→Prop),e= .returned x∧Below w.heap.size w w' ∧WF G' w' ∧VR G' I' N' w' .ret v x:=by
 have hpre:CPre lim0 [] w (G0 w) (fun _=>(0,0)) (fun _=>False) args vargs:=by
  refine ⟨hargs,?_,?_,?_,?_,Nat.le_refl _,Nat.le_refl _,?_⟩
  ·intro id o ho;simp at ho
  ·intro b hb;simp only [G0];rw [if_neg (by omega)]
  ·intro id hid;exact hid.elim
  ·intro id o ho;simp at ho
  ·intro b id hb
   simp only [G0] at hb
   split at hb<;>cases hb
 refine Calls.mono ((call_sound h n).1 f args [] lim0 _ _ hc w _ _ _ vargs hpre (fun _=>rfl)) ?_
 rintro e w' ⟨x,G',I',N',rfl,hp⟩
 refine ⟨x,G',I',N',rfl,⟨hp.ext.os,hp.ext.tape,hp.ext.output,hp.ext.size,fun b hb=>(hp.ext.still b (Or.inl ?_)).2⟩,hp.wf,hp.val⟩
 simp only [G0]
 rw [if_pos hb]
def GR (g:Nat)(w:World):Gh:=fun b=>if b=g then .obj 0 else if b<w.heap.size then .imm else .free
theorem row_calls {P:Program}{A:Prog}(h:ProgOK P A){n len z cap g e:Nat}{f k:FuncId}{cells cells' :List AVal}{cur:Array Value}{w:World}(hh:w.heap[g]? =some (.cells cur e (0,0)))(hcap:len≤cap)(hsz:cap * z≤cur.size)
  (hcells:∀ (i:Nat) (x:AVal),cells[i]? =some x→∃ v,cur[i]? =some v∧VR (GR g w) (fun _=>(g,0)) (·=0) w (.cell 0 i) x v) (hb:bndL cells=0)
  (hc:call A n f [.sref 0 z 0 len,.func k [] []] [.cells cells] ⟨0,0,1,0⟩=some (.tuple [],[.cells cells'])) :
  Calls P f #[.slice (some ⟨g,0,none⟩) len cap,.func (.func k) #[] #[]] w fun x w' =>x= .returned (.tuple #[])∧w.grownBy w' (some g)∧∃ (c' :Array Value) (G' :Gh) (I' :Inj) (N' :Nat→Prop),w'.heap[g]? =some (.cells c' e (0,0))∧c'.size=cur.size ∧
   ∀ (i:Nat) (x:AVal),cells'[i]? =some x→∃ v,c'[i]? =some v∧VR G' I' N' w' (.cell 0 i) x v:=by
 have hlt:g<w.heap.size:=by
  rcases Nat.lt_or_ge g w.heap.size with h|h
  ·exact h
  ·rw [Array.getElem?_eq_none h] at hh;cases hh
 have hle:cells.length≤cur.size:=by
  rcases Nat.eq_zero_or_pos cells.length with h0|h0
  ·omega
  ·obtain ⟨v,hv,_⟩:=hcells (cells.length - 1) _ (List.getElem?_eq_getElem (by omega))
   have:=(Array.getElem?_eq_some_iff.1 hv).1
   omega
 have hpre:CPre ⟨0,0,1,0⟩ [.cells cells] w (GR g w) (fun _=>(g,0)) (·=0) [.sref 0 z 0 len,.func k [] []] #[.slice (some ⟨g,0,none⟩) len cap,.func (.func k) #[] #[]]:=by
  refine ⟨?_,?_,?_,?_,?_,Nat.le_refl _,Nat.zero_le _,?_⟩
  ·simp only [VRs,VR]
   refine ⟨_,_,rfl,⟨trivial,cap,rfl,hcap,cur,e,(0,0),hh,by omega⟩,_,_,rfl,⟨#[],#[],rfl,rfl,rfl⟩,rfl⟩
  ·intro id o ho
   cases id with
   |zero =>
    simp at ho
    subst ho
    simp only [OR]
    exact ⟨trivial,cur,e,(0,0),hh,by simp [GR],NoFr00 _,by omega,fun i x hx=>by simpa using hcells i x hx⟩
   |succ id=>simp at ho
  ·intro b hb
   simp only [GR]
   rw [if_neg (by omega),if_neg (by omega)]
  ·intro id hid
   subst hid
   simp
  ·intro id o ho
   cases id with
   |zero =>
    simp at ho
    subst ho
    simp [AObj.bnd,hb]
   |succ id=>simp at ho
  ·intro b id hb
   simp only [GR] at hb
   split at hb
   ·cases hb;simp
   ·split at hb<;>cases hb
 refine Calls.mono ((call_sound h n).1 f _ _ _ _ _ hc w _ _ _ _ hpre (fun _=>rfl)) ?_
 rintro x w' ⟨x,G',I',N',rfl,hp⟩
 have hv:=hp.val
 simp only [VR,VRs] at hv
 obtain ⟨cs,rfl,hcs⟩:=hv
 have hcs0:cs= #[]:=by
  apply Array.ext'
  simpa using hcs
 subst hcs0
 obtain ⟨c',h1,h2⟩:=hp.ext.shape g cur e (0,0) hh
 refine ⟨rfl,⟨hp.ext.os,hp.ext.tape,hp.ext.output,hp.ext.size,fun b hb hne=>(hp.ext.still b (Or.inl ?_)).2⟩,c',G',I',N',h1,h2,fun i x hx=> ?_⟩
 ·simp only [GR]
  rw [if_neg (fun e=>hne (by rw [e])),if_pos hb]
 ·have hO:=hp.hr 0 (.cells cells') rfl
  simp only [OR] at hO
  obtain ⟨_,c2,e2,f2,k1,_,_,_,k5⟩:=hO
  have hI:=hp.inj 0 (by simp) rfl
  rw [hI] at k1 k5
  rw [h1] at k1
  cases k1
  obtain ⟨v,v1,v2⟩:=k5 i x hx
  exact ⟨v,by simpa using v1,v2⟩
end Go.Abs

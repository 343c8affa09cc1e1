/- Texts P2 P3 (made short by a program) -/
import Derived.Test.YtkmclibmmlgogaaGreatB6
import Derived.Sort.Grow
import Derived.Lib.SlicesCompact
set_option linter.unusedVariables false
set_option linter.unusedSimpArgs false
open Bool renaming and_eq_true → b5
open List renaming cons_append → L6, getElem?_append_left → x9, getElem?_append_right → s7, getElem?_eq_getElem → s9, getElem?_set_ne → A1, length_append → E0, mem_cons → C6, replicate → c9
open Nat renaming add_assoc → H9, le_of_ble_eq_true → o7, le_refl → n5, lt_or_ge → u9
namespace Go.y3
open Go.Sort
structure UM (w w' :World)(blk off:Nat)(ys:List Int):Prop where
 os:w'.os=w.os
 tape:w'.tape=w.tape
 output:w'.output=w.output
 size:w.heap.size<=w'.heap.size
 other:∀ b:Nat,b<w.heap.size->b≠blk->w'.heap[b]? =w.heap[b]?
 here:∀ (c:Array Value) (e:TypeId) (f:Nat×Nat),w.heap[blk]? =some (.cells c e f)->∃ c' :Array Value,w'.heap[blk]? =some (.cells c' e f)/\c'.size=c.size /\
  (∀ k:Nat,(k<off\/off+ys.length<=k)->c'[k]? =c[k]?)/\∀ (j:Nat) (y:Int),off+j<c.size->ys[j]? =some y->c'[off+j]? =some (.int .i64 y)
theorem yg (w:World)(n blk off:Nat)(ys:List Int)(os:Array Obj):UM w (grow (putRow (Value.int .i64) (Sort.ahead w n) blk off ys.toArray) os) blk off ys where
 os:=rfl
 tape:=rfl
 output:=rfl
 size:=by simp [grow,Sort.ahead]
 other b hb hne:=by
  have:b<(w.heap.modify blk (onCells (putCells (Value.int .i64) off ys.toArray))).size:=by simpa using hb
  show (w.heap.modify blk (onCells (putCells (Value.int .i64) off ys.toArray))++os)[b]? =_
  rw [Array.getElem?_append_left this,Array.getElem?_modify,if_neg (Ne.symm hne)]
 here c e f hc:=by
  have hb:blk<w.heap.size:=by
   rcases u9 blk w.heap.size with h|h
   ·exact h
   ·rw [Array.getElem?_eq_none h] at hc;cases hc
  have:blk<(w.heap.modify blk (onCells (putCells (Value.int .i64) off ys.toArray))).size:=by simpa using hb
  refine ⟨putCells (Value.int .i64) off ys.toArray c,?_,by simp [putCells],fun k hk=> ?_,fun j y hj hy=> ?_⟩
  ·show (w.heap.modify blk (onCells (putCells (Value.int .i64) off ys.toArray))++os)[blk]? =_
   rw [Array.getElem?_append_left this,Array.getElem?_modify,if_pos rfl,hc];rfl
  ·simp only [putCells,Array.getElem?_mapIdx]
   have:¬ (off<=k/\k<off+ys.toArray.size):=by simp;omega
   simp only [this,if_false];cases c[k]? <;>rfl
  ·have hl:j<ys.length:=p6 hy
   simp only [putCells,Array.getElem?_mapIdx];rw [Array.getElem?_eq_getElem hj];have:(off<=off+j/\off+j<off+ys.toArray.size):=by simp;omega
   simp only [Option.map_some,this,and_self,if_true];rw [show off+j - off=j by omega,List.getElem!_toArray,List.getElem!_eq_getElem?_getD,hy];rfl
def vm (n:Int):b6:= .d (.int .i64 n)
theorem Av:∀ ys:List Int,A4 (ys.map vm)=0
 |[]=>rfl
 |y::ys=>by simp only [List.map_cons,A4,Av ys,vm,b6.N4];rfl
theorem HL (old:List b6)(lo:Nat)(ys:List Int):A4 (splice old lo (ys.map vm))<=A4 old:=by
 have h1:=ta lo old;have h2:=sZ (lo+(ys.map vm).length) old;simp only [splice,cL,Av];omega
theorem Fy {l:G9}{H:o6}{w w' :World}{G:Gh}{I:T0}{N:Nat->Prop}{args:List b6}{O6:Array Value}(hp:Hy l H w G I N args O6){id lo:Nat}{old:List b6}{ys:List Int}
  (ho:H[id]? =some (.cells old)) (hlo:lo+ys.length<=old.length) (hm:l.may id=true) (hr:UM w w' (I id).1 ((I id).2+lo) ys) {v:b6} {x:Value} (hv:VR G I N w' .ret v x) :
  oz l H w G I N v (H.set id (.cells (splice old lo (ys.map vm)))) x w' G I N:=by
 have hO:=hp.hr id _ ho;simp only [OR] at hO;obtain ⟨hN,c,e,f,h1,h2,h3,h4,h5⟩:=hO;obtain ⟨c',g1,g2,g3,g4⟩:=hr.here c e f h1;have hlt:∀ b:Nat,G b≠ .free->b<w.heap.size:=fun b hb=>by
  rcases u9 b w.heap.size with h|h
  ·exact h
  ·exact absurd (hp.wf b h) hb
 have Ig:Ext G w G w' :=by
  refine ⟨hr.os,hr.tape,hr.output,hr.size,fun b o hi=>⟨hi,?_⟩,fun b hb=>⟨rfl,?_⟩,fun b c0 e0 f0 hc0=> ?_⟩
  ·have hne:b≠(I id).1:=by rintro rfl;unfold jq at hi;rw [h2] at hi;exact hi
   have hb:G b≠ .free:=fun h=>by unfold jq at hi;rw [h] at hi;exact hi
   simp only [World.cell?,hr.other b (hlt b hb) hne]
  ·have hne:b≠(I id).1:=by rintro rfl;rw [h2] at hb;rcases hb with hb|⟨_,hb⟩<;>cases hb
   exact hr.other b (hlt b (fun h=>by rw [h] at hb;rcases hb with hb|⟨_,hb⟩<;>cases hb)) hne
  ·by_cases hne:b=(I id).1
   ·subst hne
    rw [h1] at hc0;cases hc0;exact ⟨c',g1,g2⟩
   ·refine ⟨c0,?_,rfl⟩
    rw [hr.other b ?_ hne]
    ·exact hc0
    ·rcases u9 b w.heap.size with h|h
     ·exact h
     ·rw [Array.getElem?_eq_none h] at hc0;cases hc0
 have hkeep:∀ q,aR q G w G w' :=fun q b n hb=>⟨hb,hr.other b (hlt b (fun h=>by rw [h] at hb;cases hb)) (by rintro rfl;rw [h2] at hb;cases hb)⟩
 have Ts:∀ (b i:Nat),i≠id->G b= .obj i->G b= .obj i/\w'.heap[b]? =w.heap[b]? :=fun b i hi hb=>⟨hb,hr.other b (hlt b (fun h=>by rw [h] at hb;cases hb)) (by rintro rfl;rw [h2] at hb;cases hb;exact hi rfl)⟩
 have Tn:id<H.length:=p6 ho;have tw:∀ (i:Nat) (o' :y7),(H.set id (.cells (splice old lo (ys.map vm))))[i]? =some o' ->∃ o:y7,H[i]? =some o/\o'.N4<=o.N4:=fun i o' hi=>by
  by_cases he:i=id
  ·subst he
   rw [List.getElem?_set_self Tn] at hi;cases hi;exact ⟨_,ho,HL old lo ys⟩
  ·rw [A1 (fun e=>he e.symm)] at hi
   exact ⟨o',hi,n5 _⟩
 refine ⟨hv,?_,?_,Ig,fun i hi=>⟨fun b hb=>Ts b i (by rintro rfl;rw [hm] at hi;cases hi) hb,fun off=>hkeep _⟩,fun _ _ _=>rfl,fun _ h=>h,fun _ _ h=>h,fun i hi=>by simpa using hp.cE i hi,fun i o' _ hi=>Or.inr (tw i o' hi),fun i o' hi=> ?_⟩
 ·intro i o hi
  by_cases he:i=id
  ·subst he
   rw [List.getElem?_set_self Tn] at hi;cases hi;simp only [OR];refine ⟨hN,c',e,f,g1,h2,by rw [g2];exact h3,?_,fun j a hj=> ?_⟩
   ·rw [g2]
    simp only [splice,E0,List.length_take,List.length_map,List.length_drop];omega
   ·rcases u9 j lo with To|To
    ·have hj2:old[j]? =some a:=by
      rw [<- hj,splice,List.append_assoc,x9 (by simp;omega),List.getElem?_take,if_pos To]
     obtain ⟨u,u1,u2⟩:=h5 j a hj2;exact ⟨u,by rw [g3 _ (by omega)];exact u1,VR.mono Ig (fun _ _=>rfl) (fun _ h=>h) _ _ _ (Or.inr (hkeep _)) u2⟩
    rcases u9 j (lo+ys.length) with hj2|hj2
    ·have WN:(ys.map vm)[j - lo]? =some a:=by
      rw [<- hj,splice,x9 (by simp;omega),s7 (by simp;omega)]
      congr 1
      simp;omega
     rw [List.getElem?_map] at WN;cases hy:ys[j - lo]? with
     |none=>rw [hy] at WN;cases WN
     |some y =>
      rw [hy] at WN;cases WN;refine ⟨.int .i64 y,?_,by simp only [vm,VR,DR]⟩;rw [show (I i).2+j=(I i).2+lo+(j - lo) by omega];exact g4 _ _ (by omega) hy
    ·have WN:old[j]? =some a:=by
      rw [<- hj,splice,s7 (by simp;omega),List.getElem?_drop]
      congr 1
      simp;omega
     obtain ⟨u,u1,u2⟩:=h5 j a WN;exact ⟨u,by rw [g3 _ (by omega)];exact u1,VR.mono Ig (fun _ _=>rfl) (fun _ h=>h) _ _ _ (Or.inr (hkeep _)) u2⟩
  ·rw [A1 (fun e=>he e.symm)] at hi
   exact OR.mono Ig (fun _ _=>rfl) (fun _ h=>h) i o (fun h=>Ts _ i he h) (fun off=>hkeep _) (hp.hr i o hi)
 ·intro b hb
  exact hp.wf b (Nat.le_trans hr.size hb)
 ·obtain ⟨o,h6,h7⟩:=tw i o' hi
  obtain ⟨h8,h9⟩:=hp.U8 i o h6;exact ⟨fun h=>Nat.le_trans h7 (h8 h),fun h=>Nat.le_trans h7 (h9 h)⟩
theorem tA (x:Int):∀ l:List Int,(iu x l).Perm (x::l)
 |[]=>List.Perm.refl _
 |y::l=>by
  simp only [iu];split
  ·exact List.Perm.refl _
  ·exact ((tA x l).cons y).trans (List.Perm.swap x y l)
theorem qf:∀ l:List Int,(Q6 l).Perm l
 |[]=>List.Perm.refl _
 |x::l=>(tA x _).trans ((qf l).cons x)
theorem uq (x:Int):∀ l:List Int,l.Pairwise (·<=·)->(iu x l).Pairwise (·<=·)
 |[],_=>by simp [iu]
 |y::l,h=>by
  simp only [iu];rw [List.pairwise_cons] at h;split
  ·rename_i hx
   refine List.pairwise_cons.2 ⟨fun z hz=> ?_,List.pairwise_cons.2 h⟩
   rcases C6.1 hz with rfl|hz
   ·exact hx
   ·exact Int.le_trans hx (h.1 z hz)
  ·rename_i hx
   refine List.pairwise_cons.2 ⟨fun z hz=> ?_,uq x l h.2⟩
   rcases C6.1 ((tA x l).mem_iff.1 hz) with rfl|hz
   ·omega
   ·exact h.1 z hz
theorem rQ:∀ l:List Int,(Q6 l).Pairwise (·<=·)
 |[]=>List.Pairwise.nil
 |x::l=>uq x _ (rQ l)
theorem vp (l:List Int):(l.mergeSort fun x y=>decide (x<=y))=Q6 l:=by
 refine List.Perm.eq_of_pairwise (le:=fun a b=>a<=b) (fun a b _ _ h1 h2=>Int.le_antisymm h1 h2) ?_ (rQ l) ((List.mergeSort_perm l _).trans (qf l).symm);have:=List.pairwise_mergeSort (le:=fun x y:Int=>decide (x<=y)) (fun a b c h1 h2=>by simp at h1 h2 ⊢;omega) (fun a b=>by simp;omega) l;exact this.imp (fun h=>by simpa using h)
theorem Dt (l:List Int):(Q6 l).length=l.length:=(qf l).length_eq
theorem tg (a b:Int):∀ l:List Int,Q4 (l++[a,b])=Q4 (l++[a])++(if b=a then [] else [b])
 |[]=>by
  simp only [List.nil_append,Q4]
  by_cases h:a=b
  ·subst h;simp
  ·simp [h,Ne.symm h]
 |[x]=>by
  have ih:=tg a b [];simp only [List.nil_append] at ih;simp only [L6,List.nil_append,Q4];simp only [Q4] at ih
  by_cases h:x=a
  ·simp only [h,if_true]
   exact ih
  ·simp only [h,if_false,ih,L6]
 |x::y::l=>by
  have ih:=tg a b (y::l);simp only [L6] at ih;simp only [L6,Q4]
  by_cases h:x=y
  ·simp only [h,if_true]
   exact ih
  ·simp only [h,if_false,ih,L6]
theorem jA (zs:List Int):∀ m,m<=zs.length->Lib.compactUpTo zs.toArray m=Q4 (zs.take m)
 |0,_=>by simp [Lib.compactUpTo,Q4]
 |1,h=>by
  obtain ⟨z,r,rfl⟩:∃ z r,zs=z::r:=by
   cases zs with
   |nil=>simp at h
   |cons z r=>exact ⟨z,r,rfl⟩
  rw [Lib.compactUpTo_succ,Lib.keeps_lt_one _ 0 (by omega)];simp [Lib.compactUpTo,Q4]
 |m+2,h=>by
  have ih:=jA zs (m+1) (by omega);have e1:zs.take (m+1)=zs.take m++[zs[m]]:=by rw [List.take_append_getElem]
  have e2:zs.take (m+2)=zs.take m++[zs[m],zs[m+1]]:=by
   have:zs.take (m+1+1)=zs.take (m+1)++[zs[m+1]]:=by rw [List.take_append_getElem]
   rw [this,e1,List.append_assoc];rfl
  rw [Lib.compactUpTo_succ,ih,e1,e2,tg]
  congr 1
  have g1:zs.toArray[m+1]! =zs[m+1]:=by
   have:m+1<zs.length:=by omega
   simp [this]
  have g2:zs.toArray[m+1 - 1]! =zs[m]:=by
   have:m<zs.length:=by omega
   simp [this]
  by_cases hk:zs[m+1]=zs[m]
  ·rw [Lib.keeps_neg (by omega) (by rw [g1,g2,hk]),if_pos hk]
   rfl
  ·rw [Lib.keeps_pos (by rw [g1,g2];exact hk),if_neg hk,g1]
   rfl
theorem Cs (zs:List Int):Lib.compact zs=Q4 zs:=by
 rw [Lib.compact,jA zs _ (n5 _),List.take_length]
theorem uh:∀ l:List Int,(Q4 l).length<=l.length
 |[]=>by simp [Q4]
 |[x]=>by simp [Q4]
 |x::y::l=>by
  have:=uh (y::l);simp only [Q4];split<;>simp at this ⊢<;>omega
theorem kM:∀ {vs:List b6} {xs:List Int},iH vs=some xs->vs=xs.map vm
 |[],xs,h=>by simp [iH] at h;subst h;rfl
 |v::vs,xs,h=>by
  unfold iH at h;split at h
  ·rename_i heq;cases heq
  ·rename_i n r heq
   cases heq;split at h
   ·rename_i ys hy
    cases h;rw [kM hy];rfl
   ·cases h
  ·cases h
theorem rd_some {H:o6}{id lo len:Nat}{vs:List b6}(h:rd H id lo len=some vs):∃ old,H[id]? =some (.cells old)/\lo+len<=old.length/\vs=(old.drop lo).take len:=by
 unfold rd at h;split at h
 ·rename_i l hl
  split at h
  ·rename_i hle
   cases h;exact ⟨l,hl,hle,rfl⟩
  ·cases h
 ·cases h
theorem holds_of {G:Gh}{I:T0}{N:Nat->Prop}{w:World}{H:o6}(hr:HR G I N w H){id lo len:Nat}{old:List b6}{xs:List Int}(ho:H[id]? =some (.cells old))(hl:lo+len<=old.length)(hx:(old.drop lo).take len=xs.map vm) :
  Holds (Value.int .i64) w (I id).1 ((I id).2+lo) xs.toArray/\(I id).1<w.heap.size/\xs.length=len:=by
 have hO:=hr id _ ho;simp only [OR] at hO;obtain ⟨hN,c,e,f,h1,h2,h3,h4,h5⟩:=hO;have hlen:xs.length=len:=by
  have:=congrArg List.length hx;simp at this;omega
 refine ⟨fun j hj=> ?_,?_,hlen⟩
 ·have hj' :j<xs.length:=by simpa using hj
  have e1:old[lo+j]? =some (vm xs[j]):=by
   have:=congrArg (·[j]?) hx;simp only [List.getElem?_take,List.getElem?_drop,List.getElem?_map] at this;rw [if_pos (by omega)] at this;rw [this,s9 hj'];rfl
  obtain ⟨v,g1,g2⟩:=h5 _ _ e1;simp only [vm,VR,DR] at g2;subst g2;constructor
  ·show w.cell? (ad (I id).1 ((I id).2+lo+j))=_
   simp only [World.cell?,h1];rw [H9,g1];simp [hj']
  ·show w.frozen? (ad (I id).1 ((I id).2+lo+j))=_
   have hlt:(I id).2+lo+j<c.size:=by
    have:=h4;omega
   have:=h3 _ hlt;simp only [World.frozen?,h1];simpa using this
 ·rcases u9 (I id).1 w.heap.size with h|h
  ·exact h
  ·rw [Array.getElem?_eq_none h] at h1;cases h1
theorem Bs {H:o6}{id lo:Nat}{old vs:List b6}{H1:o6}(ho:H[id]? =some (.cells old))(h:wr H id lo vs=some H1):H1=H.set id (.cells (splice old lo vs)):=by
 unfold wr at h;rw [ho] at h;simp only at h;split at h
 ·cases h;rfl
 ·cases h
theorem Bc {l:G9}{H:o6}{w:World}{G:Gh}{I:T0}{N:Nat->Prop}{args:List b6}{O6:Array Value}(hp:Hy l H w G I N args O6){v:b6}{x:Value}(hv:VR G I N w .ret v x):oz l H w G I N v H x w G I N :=
 ⟨hv,hp.hr,hp.wf,Ext.refl _ _,jw.refl _ _ _,fun _ _ _=>rfl,fun _ h=>h,fun _ _ h=>h,hp.cE,fun _ o' _ ho=>Or.inr ⟨o',ho,n5 _⟩,hp.U8⟩
theorem wF {G:Gh}{I:T0}{N:Nat->Prop}{w:World}{a:b6}{O6:Array Value}(h:I7 G I N w [a] O6.toList):∃ x,O6= #[x]/\VR G I N w .none a x:=by
 simp only [I7] at h;obtain ⟨x,xs,h1,h2,rfl⟩:=h;refine ⟨x,?_,h2⟩;apply Array.ext';rw [h1]
theorem Nx {P:Program}{prom:FuncId->Bool}{f:FuncId}(hcan:U2 P f=true)
  (hS:∀ (blk off cap:Nat) (zs:List Int) (w:World),Holds (Value.int .i64) w blk off zs.toArray->blk<w.heap.size->zs.length<4611686018427387904->Calls P f #[.slice (some ⟨blk,off,none⟩) zs.length cap] w fun e w' =>
   e= .returned (.tuple #[])/\∃ n os,w' =grow (putRow (Value.int .i64) (Sort.ahead w n) blk off (zs.mergeSort fun x y=>decide (x<=y)).toArray) os)
  (hE:∀ (p:Option Addr) (cap:Nat) (w:World),Calls P f #[.slice p 0 cap] w fun e w' =>e= .returned (.tuple #[])/\w' =w):ku P prom f xY:=by
 refine ⟨hcan,fun args H l v H1 hrun w G I N O6 hp _=> ?_⟩;unfold xY at hrun;split at hrun
 ·rename_i id lo len H l
  split at hrun
  ·rename_i hm
   simp only [b5] at hm;have hb:=o7 hm.2;split at hrun
   ·rename_i vs hvs
    split at hrun
    ·rename_i xs hxs
     split at hrun
     ·rename_i H2 hw
      cases hrun;obtain ⟨old,ho,hl,rfl⟩:=rd_some hvs;have hx:=kM hxs;obtain ⟨g1,g2,g3⟩:=holds_of hp.hr ho hl hx;have hH:=Bs ho hw;subst hH;obtain ⟨x,rfl,hv⟩:=wF hp.args;simp only [VR] at hv;obtain ⟨_,cap,rfl,_⟩:=hv;subst g3;refine (hS _ _ cap xs w g1 g2 (by omega)).mono ?_;rintro e w' ⟨rfl,n,os,rfl⟩;rw [vp];exact ⟨_,G,I,N,rfl,Fy hp (ys:=Q6 xs) ho (by rw [Dt];exact hl) hm.1 (yg _ _ _ _ _ _) (by simp only [VR];exact ⟨#[],rfl,by simp [I7]⟩)⟩
     ·cases hrun
    ·cases hrun
   ·cases hrun
  ·cases hrun
 ·rename_i cs H l
  cases hrun;obtain ⟨x,rfl,hv⟩:=wF hp.args;simp only [VR,DR] at hv;have key:∃ p cap,x= .slice p 0 cap:=by
   rcases hv with ⟨hv|⟨a,hv⟩,_⟩|⟨b,o,cap,hv,_⟩
   ·exact ⟨_,_,hv⟩
   ·exact ⟨_,_,hv⟩
   ·exact ⟨_,_,hv⟩
  obtain ⟨p,cap,rfl⟩:=key;refine (hE p cap w).mono ?_;rintro e w' ⟨rfl,rfl⟩;exact ⟨_,G,I,N,rfl,Bc hp (by simp only [VR];exact ⟨#[],rfl,by simp [I7]⟩)⟩
 ·cases hrun
theorem Ct {P:Program}{prom:FuncId->Bool}{f:FuncId}(hcan:U2 P f=true)
  (hS:∀ (blk off cap:Nat) (zs:List Int) (w:World),Holds (Value.int .i64) w blk off zs.toArray->zs.length<=9223372036854775807->zs.length<=cap->Calls P f #[.slice (some ⟨blk,off,none⟩) zs.length cap] w fun e w' =>
   e= .returned (.slice (some ⟨blk,off,none⟩) (Lib.compact zs).length cap)/\∃ q,w' =putRow (Value.int .i64) (Sort.ahead w q) blk off (Lib.compact zs++c9 (zs.length - (Lib.compact zs).length) 0).toArray):ku P prom f gQ:=by
 refine ⟨hcan,fun args H l v H1 hrun w G I N O6 hp _=> ?_⟩;unfold gQ at hrun;split at hrun
 ·rename_i id lo len
  split at hrun
  ·rename_i hm
   simp only [b5] at hm;have hb:=o7 hm.2;split at hrun
   ·rename_i vs hvs
    split at hrun
    ·rename_i xs hxs
     split at hrun
     ·rename_i H2 hw
      cases hrun;obtain ⟨old,ho,hl,rfl⟩:=rd_some hvs;have hx:=kM hxs;obtain ⟨g1,g2,g3⟩:=holds_of hp.hr ho hl hx;have hH:=Bs ho hw;subst hH;obtain ⟨x,rfl,hv⟩:=wF hp.args;simp only [VR] at hv;obtain ⟨hN,cap,rfl,hcap,c,e0,f0,k1,k2⟩:=hv;subst g3;refine (hS _ _ cap xs w g1 (by omega) hcap).mono ?_;rintro e w' ⟨rfl,q,rfl⟩;rw [Cs];have hd:=uh xs;have hR:=yg w q (I id).1 ((I id).2+lo) (Q4 xs++c9 (xs.length - (Q4 xs).length) 0) #[];rw [grow_empty] at hR;obtain ⟨c',u1,u2,_⟩:=hR.here c e0 f0 k1;refine ⟨_,G,I,N,rfl,Fy hp (ys:=Q4 xs++c9 (xs.length - (Q4 xs).length) 0) ho (by simp;omega) hm.1 hR ?_⟩;simp only [VR];exact ⟨hN,cap,rfl,by omega,c',e0,f0,u1,by rw [u2];exact k2⟩
     ·cases hrun
    ·cases hrun
   ·cases hrun
  ·cases hrun
 ·cases hrun
theorem ML {P:Program}{prom:FuncId->Bool}{f:FuncId}(hcan:U2 P f=true)
  (hR:∀ w:World,Calls P f #[.slice none 0 0,.int .i64 0] w fun e w' =>e= .returned (.slice none 0 0)/\w' =w)
  (hG:∀ (n:Nat) (w:World),0<n->n<=1000000->Calls P f #[.slice none 0 0,.int .i64 n] w fun e w' =>∃ (cap:Nat) (c:Array Value) (t:TypeId),e= .returned (.slice (some ⟨w.heap.size,0,none⟩) 0 cap)/\w' =w.drew.alloc (.cells c t)/\c.size=cap):ku P prom f xX:=by
 refine ⟨hcan,fun args H l v H1 hrun w G I N O6 hp _=> ?_⟩;unfold xX at hrun;split at hrun
 ·rename_i n
  split at hrun
  ·rename_i hn
   cases hrun;obtain ⟨m,rfl⟩:∃ m:Nat,n=m:=⟨n.toNat,by omega⟩;have ha:=hp.args;simp only [I7,VR,DR] at ha;obtain ⟨x,xs,h1,rfl,y,ys,rfl,rfl,rfl⟩:=ha;have hv:O6= #[.slice none 0 0,.int .i64 m]:=by
    apply Array.ext';rw [h1]
   subst hv
   rcases Nat.eq_zero_or_pos m with rfl|h0
   ·refine (hR w).mono ?_
    rintro e w' ⟨rfl,rfl⟩;exact ⟨_,G,I,N,rfl,Bc hp (by simp [VR])⟩
   ·refine (hG m w h0 (by omega)).mono ?_
    rintro e w' ⟨cap,c,t,rfl,rfl,hc⟩;have hN:jr w (w.drew.alloc (.cells c t)) (.cells c t):=(jr.alloc w (.cells c t)).drew (w.drawn+1);refine ⟨_,lu G w.heap.size (.grow 0 .ret),I,N,rfl,?_,hN.hr hp.wf _ (fun _ _=>rfl) (fun _ h=>h) hp.hr,hN.wf hp.wf _,hN.ext hp.wf _,hN.eE hp.wf _ _,fun _ _ _=>rfl,fun _ h=>h,fun _ _ h=>h,hp.cE,fun _ o' _ ho=>Or.inr ⟨o',ho,n5 _⟩,hp.U8⟩;simp only [VR];exact ⟨rfl,Or.inr ⟨by simp,w.heap.size,0,cap,c,t,_,rfl,Nat.zero_le _,hN.new,by omega,sW _,by simp,by simp [fH]⟩⟩
  ·cases hrun
 ·cases hrun
end Go.y3


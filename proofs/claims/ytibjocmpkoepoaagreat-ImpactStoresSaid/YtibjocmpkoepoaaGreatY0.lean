import Derived.Sort.Grow
import Derived.Deep.Draws
import Derived.Lib.SlicesCompact
import Derived.Shelf.GgSortFunc.RowK
import Derived.Test.YtibjocmpkoepoaaGreatAbs
import Derived.Test.YtibjocmpkoepoaaGreatShelf
import Derived.Sort.MapsRangeIn
import Derived.Maps.AppendAt
import Derived.Maps.RangeRun
import Derived.OwnWalkIn
import Derived.TacticsInMore
import Derived.RegionIn
import Derived.LoopNIn
import Derived.LoopIn
import Derived.Laws.OwnMore
import Derived.Lib.Walk
import Derived.Lib.SliceRun
import Derived.Lib.AppendZerosOnto
set_option linter.all false
open Bool renaming and_eq_true→c9,true→W,false→F
open List renaming append_assoc→F5,cons_append→x4,drop_of_length_le→n5,getElem?_append_left→y7,getElem?_append_right→x7,getElem?_eq_getElem→o3,getElem?_set_ne→x5,getElem?_set_self→E6,length_append→j9,length_cons→n9,length_map→A3,length_nil→y4,length_take→L1,map_cons→G7,mem_cons→K2,nil_append→y5,pairwise_cons→F2,replicate→c8,take_length→D3,length→O
open Nat renaming add_assoc→M6,le_of_ble_eq_true→j5,le_refl→k9,le_trans→o5,lt_or_ge→y8,reduceAdd→K5,zero_le→s8
open Option renaming some→J,none→K
namespace Go.z6
open Go.Sort
def PB {w w' :World}(h1:w'.os=w.os)(h2:w'.tape=w.tape)(h3:w'.output=w.output)(h4:w.heap.size<=w'.heap.size)(h5:∀b,b<w.heap.size->w'.heap[b]? =w.heap[b]?)(h6:w.drawn<=w'.drawn):∃q os,w' =grow (w.drewN q) os:=by
 refine ⟨w'.drawn - w.drawn,w'.heap.extract w.heap.size w'.heap.size,?_⟩;obtain ⟨hp,tp,dr,os,out⟩:=w';have e:w.heap++hp.extract w.heap.size hp.size=hp:=by
  grind
 simp_all [grow,World.drewN]
section
variable [D6]
def FG (hD:D6.on){P:Program}{A:Prog}(h:oa P A){n:Nat}{f:FuncId}{args:List c7}{J2:Array Value}{w:World}{v:c7}(hc:call A n f args [] N9=J (v,[]))
  (hargs:I6 (G0 w) (λ_=>(0,0)) (λ_=>False) w args J2.toList):Calls P f J2 w λe w' =>∃(x:Value) (G' :Gh) (I' :P3) (N' :Nat->Prop),e= .returned x/\VR G' I' N' w' .ret v x/\∃q os,w' =grow (w.drewN q) os:=by
 have hpre:yh N9 [] w (G0 w) (λ_=>(0,0)) (λ_=>False) args J2:=by
  refine ⟨hargs,?_,?_,?_,?_,k9 _,k9 _,?_,λ_ b n pl hb=>by grind [G0]⟩
  .intro id o ho;simp at ho
  .intro b hb;simp_all [G0,if_neg]
  .simp_all
  .intro id o ho;simp at ho
  grind [G0]
 refine Calls.mono ((oh h n).1 f args [] N9 _ _ hc w _ _ _ J2 hpre (λ_=>rfl)) ?_;rintro e w' ⟨x,G',I',N',rfl,hp⟩;refine ⟨x,G',I',N',rfl,hp.val,PB hp.ext.os hp.ext.tape hp.ext.output hp.ext.size (λb hb=>(hp.ext.still b (Or.inl ?_)).2) (hp.ext.drawn hD)⟩;simp_all [G0,if_pos]
end
end Go.z6
namespace Go.z6
open Go.Sort
structure KX (w w' :World)(blk off:Nat)(us:List Value):Prop where
 os:w'.os=w.os
 tape:w'.tape=w.tape
 output:w'.output=w.output
 size:w.heap.size<=w'.heap.size
 other:∀b:Nat,b<w.heap.size->b≠blk->w'.heap[b]? =w.heap[b]?
 here:∀(c:Array Value) (e:TypeId) (f:Nat×Nat),w.heap[blk]? =J (.cells c e f)->∃c' :Array Value,w'.heap[blk]? =J (.cells c' e f)/\c'.size=c.size /\
  (∀k:Nat,(k<off\/off+O us<=k)->c'[k]? =c[k]?)/\∀(j:Nat) (u:Value),off+j<c.size->us[j]? =J u->c'[off+j]? =J u
def jW {α:Type} [Inhabited α] (enc:α->Value)(w:World)(n blk off:Nat)(ys:List α)(os:Array Obj):KX w (grow (putRow enc (Sort.ahead w n) blk off ys.toArray) os) blk off (ys.map enc) where
 os:=rfl
 tape:=rfl
 output:=rfl
 size:=M
 other b hb hne:=by
  have:b<(w.heap.modify blk (onCells (putCells enc off ys.toArray))).size:=M
  show (w.heap.modify blk (onCells (putCells enc off ys.toArray))++os)[b]? =_
  grind
 here c e f hc:=by
  have hb:blk<w.heap.size:=by
   grind
  have:blk<(w.heap.modify blk (onCells (putCells enc off ys.toArray))).size:=M
  refine ⟨putCells enc off ys.toArray c,?_,by simp [putCells],λk hk=>?_,λj u hj hu=>?_⟩
  .show (w.heap.modify blk (onCells (putCells enc off ys.toArray))++os)[blk]? =_
   rw [Array.getElem?_append_left this,Array.getElem?_modify,if_pos rfl,hc];rfl
  .grind [putCells]
  .grind [putCells]
def FZ (n:Int):c7:= .d (.int .i64 n)
theorem ze:∀ys:List Int,A2 (ys.map FZ)=0
 |[]=>rfl
 |y::ys=>by simp [G7,A2,ze ys,FZ];rfl
def Fw (old:List c7)(lo:Nat)(az:List c7)(h:A2 az=0):A2 (splice old lo az)<=A2 old:=by
 grind [mL,mK,splice,eD]
def Ah {l:G9}{H:k8}{w w' :World}{G:Gh}{I:P3}{N:Nat->Prop}{args:List c7}{J2:Array Value}(hp:yh l H w G I N args J2){id lo:Nat}{old az:List c7}{us:List Value}(uj:O az=O us)(hab:A2 az=0)(hau:∀(j:Nat) (a:c7) (u:Value),az[j]? =J a->us[j]? =J u->∀G I N w p,VR G I N w p a u)
  (ho:H[id]? =J (.cells old)) (hlo:lo+O us<=O old) (hm:l.may id=W) (hr:KX w w' (I id).1 ((I id).2+lo) us) {v:c7} {x:Value} (hv:VR G I N w' .ret v x) :
  kz l H w G I N v (H.set id (.cells (splice old lo az))) x w' G I N:=by
 have hO:=hp.hr id _ ho;simp only [OR] at hO;obtain ⟨hN,c,e,f,h1,h2,h3,h4,h5⟩:=hO;obtain ⟨c',g1,g2,g3,g4⟩:=hr.here c e f h1;have hlt:∀b:Nat,G b≠ .free->b<w.heap.size:=λb hb=>by
  rcases y8 b w.heap.size with h|h
  .exact h
  .exact absurd (hp.wf b h) hb
 have FV:Ext G w G w' :=by
  refine ⟨hr.os,hr.tape,hr.output,λh=>h.elim,hr.size,λb o hi=>⟨hi,?_⟩,λb hb=>⟨rfl,?_⟩,λb c0 e0 f0 hc0=>?_⟩
  .have hne:b≠(I id).1:=by grind [fE]
   have hb:G b≠ .free:=λh=>by simp_all [fE]
   simp only [World.cell?,hr.other b (hlt b hb) hne]
  .have hne:b≠(I id).1:=by grind
   exact hr.other b (hlt b (λh=>M)) hne
  .by_cases hne:b=(I id).1
   .simp_all
   .rw [hr.other b ?_ hne]
    all_goals grind
 have hkeep:∀q,Y8 q G w G w' :=λq b n hb=>⟨hb,hr.other b (hlt b (λh=>M)) (by grind)⟩
 have Jt:∀(b i:Nat),i≠id->G b= .obj i->G b= .obj i/\w'.heap[b]? =w.heap[b]? :=λb i hi hb=>⟨hb,hr.other b (hlt b (λh=>M)) (by grind)⟩
 have PI:id<O H:=y9 ho;have nC:∀(i:Nat) (o' :x6),(H.set id (.cells (splice old lo az)))[i]? =J o' ->∃o:x6,H[i]? =J o/\o'.H7<=o.H7:=λi o' hi=>by
  by_cases he:i=id
  .subst he
   rw [E6 PI] at hi;cases hi;exact ⟨_,ho,Fw old lo az hab⟩
  grind
 refine ⟨hv,?_,?_,FV,λi hi=>⟨λb hb=>Jt b i (by grind) hb,λoff=>hkeep _⟩,λ_ _ _=>rfl,λ_ h=>h,λ_ _ h=>h,λi hi=>by simpa using hp.Z8 i hi,λi o' _ hi=>Or.inr (nC i o' hi),λi o' hi=>?_⟩
 .intro i o hi
  by_cases he:i=id
  .subst he
   rw [E6 PI] at hi;cases hi;simp only [OR];refine ⟨hN,c',e,f,g1,h2,M,?_,λj a hj=>?_⟩
   .grind [splice,j9,L1,A3,List.length_drop]
   .rcases y8 j lo with hj1|hj1
    .have hj2:old[j]? =J a:=by
      rw [<- hj,splice,F5,y7 D,List.getElem?_take,if_pos hj1]
     obtain ⟨u,u1,u2⟩:=h5 j a hj2;exact ⟨u,by rw [g3 _ V];exact u1,VR.mono FV (λ_ _=>rfl) (λ_ h=>h) _ _ _ (Or.inr (hkeep _)) u2⟩
    rcases y8 j (lo+O us) with hj2|hj2
    .have hj3:az[j - lo]? =J a:=by
      rw [<- hj,splice,y7 D,x7 D]
      congr 1
      simp;omega
     have hj4:j - lo<O us:=V
     refine ⟨us[j - lo],?_,hau _ _ _ hj3 (o3 hj4) _ _ _ _ _⟩;rw [show (I i).2+j=(I i).2+lo+(j - lo) by omega];exact g4 _ _ V (o3 hj4)
    .have hj3:old[j]? =J a:=by
      rw [<- hj,splice,x7 D,List.getElem?_drop]
      congr 1
      simp;omega
     obtain ⟨u,u1,u2⟩:=h5 j a hj3;exact ⟨u,by rw [g3 _ V];exact u1,VR.mono FV (λ_ _=>rfl) (λ_ h=>h) _ _ _ (Or.inr (hkeep _)) u2⟩
  .rw [x5 (λe=>he e.symm)] at hi
   exact OR.mono FV (λ_ _=>rfl) (λ_ h=>h) i o (λh=>Jt _ i he h) (λoff=>hkeep _) (hp.hr i o hi)
 .intro b hb
  exact hp.wf b (o5 hr.size hb)
 .obtain ⟨o,h6,h7⟩:=nC i o' hi
  obtain ⟨h8,h9⟩:=hp.R8 i o h6;exact ⟨λh=>o5 h7 (h8 h),λh=>o5 h7 (h9 h)⟩
def Et {l:G9}{H:k8}{w w' :World}{G:Gh}{I:P3}{N:Nat->Prop}{args:List c7}{J2:Array Value}(hp:yh l H w G I N args J2){id lo:Nat}{old:List c7}{ys:List Int}
  (ho:H[id]? =J (.cells old)) (hlo:lo+O ys<=O old) (hm:l.may id=W) (hr:KX w w' (I id).1 ((I id).2+lo) (ys.map (.int .i64))) {v:c7} {x:Value} (hv:VR G I N w' .ret v x) :
  kz l H w G I N v (H.set id (.cells (splice old lo (ys.map FZ)))) x w' G I N :=
 Ah hp (us:=ys.map (.int .i64)) U (ze ys) (λj a u ha hu G I N w p=>by
  rw [List.getElem?_map,Option.map_eq_some_iff] at ha hu;obtain ⟨y,hy,rfl⟩:=ha;obtain ⟨z,hz,rfl⟩:=hu;rw [hy] at hz;cases hz;simp [FZ,VR,DR]) ho (by simpa using hlo) hm hr hv
theorem rO (x:Int):∀l:List Int,(oG x l).Perm (x::l)
 |[]=>List.Perm.refl _
 |y::l=>by
  simp [oG];split
  .rfl
  .exact ((rO x l).cons y).trans (List.Perm.swap x y l)
theorem oS:∀l:List Int,(Y5 l).Perm l
 |[]=>List.Perm.refl _
 |x::l=>(rO x _).trans ((oS l).cons x)
theorem tv (x:Int):∀l:List Int,l.Pairwise (·<=·)->(oG x l).Pairwise (·<=·)
 |[],_=>by simp [oG]
 |y::l,h=>by
  simp [oG];rw [F2] at h;split
  .grind [F2,Int.le_trans]
  .refine F2.2 ⟨λz hz=>?_,tv x l h.2⟩
   grind [rO]
theorem qN:∀l:List Int,(Y5 l).Pairwise (·<=·)
 |[]=>List.Pairwise.nil
 |x::l=>tv x _ (qN l)
def ur (l:List Int):(l.mergeSort λx y=>decide (x<=y))=Y5 l:=by
 grind [List.Perm.eq_of_pairwise,Int.le_antisymm,qN,List.mergeSort_perm,trans,oS,List.pairwise_mergeSort,decide]
theorem BM (l:List Int):O (Y5 l)=O l:=(oS l).length_eq
theorem zv (a b:Int):∀l:List Int,V8 (l++[a,b])=V8 (l++[a])++(if b=a then [] else [b])
 |[]=>by
  grind [V8]
 |[x]=>by
  grind [V8]
 |x::y::l=>by
  have ih:=zv a b (y::l)
  grind [V8]
theorem iS (zs:List Int):∀m,m<=O zs->Lib.compactUpTo zs.toArray m=V8 (zs.take m)
 |0,_=>by rfl
 |1,h=>by
  obtain ⟨z,r,rfl⟩:∃z r,zs=z::r:=by
   cases zs with
   |nil=>simp at h
   |cons z r=>simp_all
  rfl
 |m+2,h=>by
  have ih:=iS zs (m+1) V;have e1:zs.take (m+1)=zs.take m++[zs[m]]:=M
  have e2:zs.take (m+2)=zs.take m++[zs[m],zs[m+1]]:=by
   grind [List.take_append_getElem,F5]
  rw [Lib.compactUpTo_succ,ih,e1,e2,zv];have g1:zs.toArray[m+1]! =zs[m+1]:=by
   grind
  have g2:zs.toArray[m+1 - 1]! =zs[m]:=by
   grind
  by_cases hk:zs[m+1]=zs[m]
  .rw [Lib.keeps_neg V V,if_pos hk]
   rfl
  .rw [Lib.keeps_pos V,if_neg hk,g1]
   rfl
def AR (zs:List Int):Lib.compact zs=V8 zs:=by
 rw [Lib.compact,iS zs _ (k9 _),D3]
theorem sW:∀l:List Int,O (V8 l)<=O l
 |[]=>by simp [V8]
 |[x]=>by simp [V8]
 |x::y::l=>by
  have:=sW (y::l)
  grind [V8]
theorem jP:∀{vs:List c7} {xs:List Int},gT vs=J xs->vs=xs.map FZ
 |[],xs,h=>by simp_all [gT]
 |v::vs,xs,h=>by
  unfold gT at h;split at h
  .simp_all
  next n r heq=>
   cases heq;split at h
   next ys hy=>
    cases h;rw [jP hy];rfl
   .cases h
  .cases h
def rd_some {H:k8}{id lo len:Nat}{vs:List c7}(h:rd H id lo len=J vs):∃old,H[id]? =J (.cells old)/\lo+len<=O old/\vs=(old.drop lo).take len:=by
 grind [rd]
def holds_of {G:Gh}{I:P3}{N:Nat->Prop}{w:World}{H:k8}(hr:HR G I N w H){id lo len:Nat}{old:List c7}{xs:List Int}(ho:H[id]? =J (.cells old))(hl:lo+len<=O old)(hx:(old.drop lo).take len=xs.map FZ) :
  Holds (Value.int .i64) w (I id).1 ((I id).2+lo) xs.toArray/\(I id).1<w.heap.size/\O xs=len:=by
 have hO:=hr id _ ho;obtain ⟨hN,c,e,f,h1,h2,h3,h4,h5⟩:=hO;have hlen:O xs=len:=by
  have:=congrArg List.length hx
  grind
 refine ⟨λj hj=>?_,?_,hlen⟩
 .have hj' :j<O xs:=V
  have e1:old[lo+j]? =J (FZ xs[j]):=by
   have:=congrArg (·[j]?) hx
   grind
  obtain ⟨v,g1,g2⟩:=h5 _ _ e1;subst g2;constructor
  .simp_all [ad,World.cell?,M6]
  .have hlt:(I id).2+lo+j<c.size:=by
    omega
   have:=h3 _ hlt;simp_all [World.frozen?]
 grind
def sD {H:k8}{id lo:Nat}{old vs:List c7}{H1:k8}(ho:H[id]? =J (.cells old))(h:wr H id lo vs=J H1):H1=H.set id (.cells (splice old lo vs)):=by
 simp_all [wr]
def mX {l:G9}{H:k8}{w:World}{G:Gh}{I:P3}{N:Nat->Prop}{args:List c7}{J2:Array Value}(hp:yh l H w G I N args J2){v:c7}{x:Value}(hv:VR G I N w .ret v x):kz l H w G I N v H x w G I N :=
 ⟨hv,hp.hr,hp.wf,Ext.refl _ _,iM.refl _ _ _,λ_ _ _=>rfl,λ_ h=>h,λ_ _ h=>h,hp.Z8,λ_ o' _ ho=>Or.inr ⟨o',ho,k9 _⟩,hp.R8⟩
def kU {G:Gh}{I:P3}{N:Nat->Prop}{w:World}{a:c7}{J2:Array Value}(h:I6 G I N w [a] J2.toList):∃x,J2= #[x]/\VR G I N w .none a x:=by
 grind [I6,Array.ext']
def Km {P:Program}{prom:FuncId->Bool}{f:FuncId}(hcan:R3 P f=W)
  (hS:∀(blk off cap:Nat) (zs:List Int) (w:World),Holds (Value.int .i64) w blk off zs.toArray->blk<w.heap.size->O zs<4611686018427387904->Calls P f #[.slice (J ⟨blk,off,K⟩) (O zs) cap] w λe w' =>
   e= .returned (.tuple #[])/\∃n os,w' =grow (putRow (Value.int .i64) (Sort.ahead w n) blk off (zs.mergeSort λx y=>decide (x<=y)).toArray) os)
  (hE:∀(p:Option Addr) (cap:Nat) (w:World),Calls P f #[.slice p 0 cap] w λe w' =>e= .returned (.tuple #[])/\w' =w):cK P prom f Ac:=by
 refine ⟨hcan,λargs H l v H1 hrun w G I N J2 hp _=>?_⟩;unfold Ac at hrun;split at hrun
 .split at hrun
  next hm=>
   simp only [c9] at hm;have hb:=j5 hm.2;split at hrun
   next vs hvs=>
    split at hrun
    next xs hxs=>
     split at hrun
     next H2 hw=>
      cases hrun;obtain ⟨old,ho,hl,rfl⟩:=rd_some hvs;have hx:=jP hxs;obtain ⟨g1,g2,g3⟩:=holds_of hp.hr ho hl hx;have hH:=sD ho hw;subst hH;obtain ⟨x,rfl,hv⟩:=kU hp.args;obtain ⟨_,cap,rfl,_⟩:=hv;subst g3;refine (hS _ _ cap xs w g1 g2 V).mono ?_;rintro e w' ⟨rfl,n,os,rfl⟩;rw [ur];exact ⟨_,G,I,N,rfl,Et hp (ys:=Y5 xs) ho (by grind [BM]) hm.1 (jW _ _ _ _ _ _ _) (by simp_all [VR,I6])⟩
     .cases hrun
    .cases hrun
   .cases hrun
  .cases hrun
 .cases hrun
  obtain ⟨x,rfl,hv⟩:=kU hp.args;simp [VR,DR] at hv;have key:∃p cap,x= .slice p 0 cap:=by
   grind
  obtain ⟨p,cap,rfl⟩:=key;refine (hE p cap w).mono ?_;rintro e w' ⟨rfl,rfl⟩;exact ⟨_,G,I,N,rfl,mX hp (by simp_all [VR,I6])⟩
 .cases hrun
def AS {P:Program}{prom:FuncId->Bool}{f:FuncId}(hcan:R3 P f=W)
  (hS:∀(blk off cap:Nat) (zs:List Int) (w:World),Holds (Value.int .i64) w blk off zs.toArray->O zs<=9223372036854775807->O zs<=cap->Calls P f #[.slice (J ⟨blk,off,K⟩) (O zs) cap] w λe w' =>
   e= .returned (.slice (J ⟨blk,off,K⟩) (O (Lib.compact zs)) cap)/\∃q,w' =putRow (Value.int .i64) (Sort.ahead w q) blk off (Lib.compact zs++c8 (O zs - O (Lib.compact zs)) 0).toArray):cK P prom f jm:=by
 refine ⟨hcan,λargs H l v H1 hrun w G I N J2 hp _=>?_⟩;unfold jm at hrun;split at hrun
 next id lo len=>
  split at hrun
  next hm=>
   simp only [c9] at hm;have hb:=j5 hm.2;split at hrun
   next vs hvs=>
    split at hrun
    next xs hxs=>
     split at hrun
     next H2 hw=>
      cases hrun;obtain ⟨old,ho,hl,rfl⟩:=rd_some hvs;have hx:=jP hxs;obtain ⟨g1,g2,g3⟩:=holds_of hp.hr ho hl hx;have hH:=sD ho hw;subst hH;obtain ⟨x,rfl,hv⟩:=kU hp.args;obtain ⟨hN,cap,rfl,hcap,c,e0,f0,k1,k2⟩:=hv;subst g3;refine (hS _ _ cap xs w g1 V hcap).mono ?_;rintro e w' ⟨rfl,q,rfl⟩;rw [AR];have hd:=sW xs;have hR:=jW (Value.int .i64) w q (I id).1 ((I id).2+lo) (V8 xs++c8 (O xs - O (V8 xs)) 0) #[];obtain ⟨c',u1,u2,_⟩:=hR.here c e0 f0 k1;refine ⟨_,G,I,N,rfl,Et hp (ys:=V8 xs++c8 (O xs - O (V8 xs)) 0) ho D hm.1 hR ?_⟩;simp_all [VR]<;>omega
     .cases hrun
    .cases hrun
   .cases hrun
  .cases hrun
 .cases hrun
def Jp {P:Program}{prom:FuncId->Bool}{f:FuncId}(hcan:R3 P f=W)
  (hR:∀w:World,Calls P f #[.slice K 0 0,.int .i64 0] w λe w' =>e= .returned (.slice K 0 0)/\w' =w)
  (hG:∀(n:Nat) (w:World),0<n->n<=1000000->Calls P f #[.slice K 0 0,.int .i64 n] w λe w' =>∃(cap:Nat) (c:Array Value) (t:TypeId),e= .returned (.slice (J ⟨w.heap.size,0,K⟩) 0 cap)/\w' =w.drew.alloc (.cells c t)/\c.size=cap):cK P prom f Ab:=by
 refine ⟨hcan,λargs H l v H1 hrun w G I N J2 hp _=>?_⟩;unfold Ab at hrun;split at hrun
 next n=>
  split at hrun
  .cases hrun
   obtain ⟨m,rfl⟩:∃m:Nat,n=m:=⟨n.toNat,V⟩;have ha:=hp.args;simp [I6,VR,DR] at ha;have hv:J2= #[.slice K 0 0,.int .i64 m]:=by
    grind
   subst hv
   rcases Nat.eq_zero_or_pos m with rfl|h0
   .refine (hR w).mono ?_
    rintro e w' ⟨rfl,rfl⟩;exact ⟨_,G,I,N,rfl,mX hp (by simp [VR])⟩
   .refine (hG m w h0 V).mono ?_
    rintro e w' ⟨cap,c,t,rfl,rfl,hc⟩;have hN:fZ w (w.drew.alloc (.cells c t)) (.cells c t):=(fZ.alloc w (.cells c t)).drew (w.drawn+1) (Nat.le_succ _);refine ⟨_,dF G w.heap.size (.grow 0 .ret),I,N,rfl,?_,hN.hr hp.wf _ (λ_ _=>rfl) (λ_ h=>h) hp.hr,hN.wf hp.wf _,hN.ext hp.wf _,hN.bu hp.wf _ _,λ_ _ _=>rfl,λ_ h=>h,λ_ _ h=>h,hp.Z8,λ_ o' _ ho=>Or.inr ⟨o',ho,k9 _⟩,hp.R8⟩;exact ⟨rfl,Or.inr ⟨U,w.heap.size,0,cap,c,t,_,rfl,s8 _,hN.new,V,jx _,U,by simp [dx]⟩⟩
  .cases hrun
 .cases hrun
def jK {α:Type} [Inhabited α] (enc:α->List Value)(k:Nat)(hk:∀x,O (enc x)=k)(l:List α):flatK enc k l.toArray=(l.flatMap enc).toArray:=by
 have hl:∀l:List α,O (l.flatMap enc)=O l * k:=λl=>by
  induction l with
  |nil=>simp
  |cons a l ih=>grind
 have key:∀(l:List α) (t:Nat),t<O l * k->(l.flatMap enc)[t]! =(enc l[t / k]!)[t % k]! :=λl=>by
  induction l with
  |nil=>simp_all
  |cons a l ih =>
   intro t h;rw [n9,Nat.add_mul,Nat.one_mul] at h;have k0:0<k:=by
    grind
   rcases y8 t k with h1|h1
   .simp_all [Nat.div_eq_of_lt,Nat.mod_eq_of_lt,List.getElem!_eq_getElem?_getD,y7]
   .obtain ⟨s,rfl⟩:∃s,t=s+k:=⟨t - k,V⟩
    simp_all [Nat.add_div_right,Nat.add_mod_right,List.getElem!_eq_getElem?_getD,x7,Nat.add_sub_cancel]
 refine ext_get! (by simp [hl]) λt ht=>?_
 have ht' :t<O l * k:=M
 grind [get_flatK]
def BB:Data->Option Value
 | .int k n=>J (.int k n)
 | .bool b=>J (.bool b)
 |_=>K
theorem Af {d:Data}{u v:Value}{G:Gh}{w:World}(h:BB d=J u):DR G w d v↔v=u:=by
 cases d<;>simp [BB,reduceCtorEq,Option.some.injEq] at h<;>subst h<;>simp [DR]
def Ju {G:Gh}{I:P3}{N:Nat->Prop}{w:World}{H:k8}(hr:HR G I N w H){id lo len:Nat}{old:List c7}{ds:List Data}{us:List Value}(ho:H[id]? =J (.cells old))(hl:lo+len<=O old)(hx:(old.drop lo).take len=ds.map .d)
  (hu:O ds=O us) (hd:∀(j:Nat) (d:Data) (u:Value),ds[j]? =J d->us[j]? =J u->BB d=J u):Holds _root_.id w (I id).1 ((I id).2+lo) us.toArray/\(I id).1<w.heap.size/\O ds=len:=by
 have hO:=hr id _ ho;obtain ⟨hN,c,e,f,h1,h2,h3,h4,h5⟩:=hO;have hlen:O ds=len:=by
  have:=congrArg List.length hx
  grind
 refine ⟨λj hj=>?_,?_,hlen⟩
 .have hj0:j<O us:=V
  have hj' :j<O ds:=V
  have e1:old[lo+j]? =J (.d ds[j]):=by
   have:=congrArg (·[j]?) hx;simp_all
  obtain ⟨v,g1,g2⟩:=h5 _ _ e1;have g2:=(Af (hd j _ us[j] (o3 hj') (o3 hj0))).1 g2;constructor
  .simp_all [ad,World.cell?,M6]
  .have hlt:(I id).2+lo+j<c.size:=by
    omega
   have:=h3 _ hlt;simp_all [World.frozen?]
 grind
def D8.vals (f:D8):List Value:=[.int .i64 f.src.1,.int .i64 f.src.2,.int .i64 f.dst.1,.int .i64 f.dst.2,.bool f.dat]
theorem qh:∀(n:Nat) (cs:List Data) (fs:List D8),O cs<=n->oD cs=J fs->cs=fs.flatMap D8.enc
 |_,[],fs,_,h=>by cases h;rfl
 |0,c::cs,fs,hn,h=>by simp at hn
 |n+1,c::cs,fs,hn,h=>by
  unfold oD at h;split at h
  .simp_all
  next a b c' d t r heq=>
   cases heq;split at h
   next l hl=>
    cases h;rw [List.flatMap_cons,<- qh n r l (by grind) hl];rfl
   .cases h
  .cases h
theorem Bd (fs:List D8):O (fs.flatMap D8.enc)=O fs * 5:=by
 induction fs with
 |nil=>rfl
 |cons a l ih=>grind [j9,n9,D8.enc]
theorem Bc (fs:List D8):O (fs.flatMap D8.vals)=O fs * 5:=by
 induction fs with
 |nil=>rfl
 |cons a l ih=>grind [j9,n9,D8.vals]
theorem rI:∀(fs:List D8) (j:Nat) (d:Data) (u:Value),(fs.flatMap D8.enc)[j]? =J d->(fs.flatMap D8.vals)[j]? =J u->BB d=J u
 |[],j,d,u,h,_=>by simp at h
 |f::fs,j,d,u,h,h2=>by
  rw [List.flatMap_cons] at h h2
  rcases y8 j 5 with hj|hj
  .rw [y7 (by simp_all [D8.enc])] at h
   rw [y7 (by simp_all [D8.vals])] at h2
   match j,hj with
   |0,_=>cases h;cases h2;rfl
   |1,_=>cases h;cases h2;rfl
   |2,_=>cases h;cases h2;rfl
   |3,_=>cases h;cases h2;rfl
   |4,_=>cases h;cases h2;rfl
  .rw [x7 (by simp_all [D8.enc])] at h
   rw [x7 (by simp_all [D8.vals])] at h2;exact rI fs _ d u h h2
theorem Hs:∀{vs:List c7} {cs:List Data},cs.all Data.flat=W->J3 vs=J cs->vs=cs.map .d
 |[],cs,_,h=>by cases h;rfl
 |v::vs,cs,hf,h=>by
  unfold J3 at h;split at h
  .split at h
   next xs hxs=>
    cases h;simp only [List.all_cons,c9] at hf;rw [G7,<- Hs hf.2 hxs];simp_all [c7.data?,reduceCtorEq,Data.flat]<;>grind
   .cases h
  .cases h
theorem Db:∀fs:List D8,(fs.flatMap D8.enc).all Data.flat=W
 |[]=>rfl
 |f::fs=>by rw [List.flatMap_cons,List.all_append,Db fs];rfl
theorem vk:∀l:List Data,A2 (l.map .d)=0
 |[]=>rfl
 |a::l=>by simp [A2,c7.H7,vk l]
def GA {P:Program}{prom:FuncId->Bool}{f g:FuncId}(hcan:R3 P f=W)
  (hS:∀(blk off cap:Nat) (fs:List D8) (w:World),HoldsK D8.vals 5 w blk off fs.toArray->blk<w.heap.size->O fs<4611686018427387904->Calls P f #[.slice (J ⟨blk,off,K⟩) (O fs) cap,.func (.func g) #[] #[]] w λe w' =>
   e= .returned (.tuple #[])/\∃n os,w' =grow (putRowK D8.vals 5 (Sort.ahead w n) blk off (Y4 fs).toArray) os)
  (hE:∀(p:Option Addr) (cap:Nat) (fv:Value) (w:World),Calls P f #[.slice p 0 cap,fv] w λe w' =>e= .returned (.tuple #[])/\w' =w):cK P prom f (si g):=by
 refine ⟨hcan,λargs H l v H1 hrun w G I N J2 hp _=>?_⟩;have two:∀{a:c7} {g' :FuncId},I6 G I N w [a,.func g' [] []] J2.toList->∃x,J2= #[x,.func (.func g') #[] #[]]/\VR G I N w .none a x:=λ{a g'} h=>by
  grind [I6,VR,Array.ext']
 unfold si at hrun;split at hrun
 next H l id lo len g'=>
  split at hrun
  next hm=>
   obtain ⟨rfl,hm,hn⟩:=hm;split at hrun
   next vs hvs=>
    split at hrun
    next cs hcs=>
     split at hrun
     next fs BY=>
      split at hrun
      next H2 hw=>
       cases hrun;obtain ⟨old,ho,hl,rfl⟩:=rd_some hvs;have hc:=qh _ _ _ (k9 _) BY;subst hc;have hx:=Hs (Db fs) hcs;obtain ⟨g1,g2,g3⟩:=Ju hp.hr (us:=fs.flatMap D8.vals) ho hl hx (by rw [Bd,Bc]) (rI fs);have hH:=sD ho hw;subst hH;obtain ⟨x,rfl,hv⟩:=two hp.args;simp only [VR] at hv;obtain ⟨_,cap,rfl,_⟩:=hv;have hlen:O fs=len:=by
        grind [Bd]
       subst hlen;refine (hS _ _ cap fs w (by simp_all [HoldsK,jK,D8.vals]) g2 V).mono ?_;rintro e w' ⟨rfl,n,os,rfl⟩;unfold putRowK;rw [jK D8.vals 5 (λ_=>rfl)];have hR:=jW _root_.id w n (I id).1 ((I id).2+lo) ((Y4 fs).flatMap D8.vals) os;rw [List.map_id] at hR;refine ⟨_,G,I,N,rfl,Ah hp (us:=(Y4 fs).flatMap D8.vals) (by rw [A3,Bd,Bc]) (vk _) (λj a u ha hu G I N w p=>?_) ho (by grind [Bc,mY]) hm hR (by simp_all [VR,I6])⟩
       grind [Option.map_eq_some_iff,VR,Af,rI]
      .cases hrun
     .cases hrun
    .cases hrun
   .cases hrun
  .cases hrun
 next H l cs g'=>
  split at hrun
  next hg=>
   subst hg;cases hrun;obtain ⟨x,rfl,hv⟩:=two hp.args;simp only [VR,DR] at hv;have key:∃p cap,x= .slice p 0 cap:=by
    grind
   obtain ⟨p,cap,rfl⟩:=key;refine (hE p cap _ w).mono ?_;rintro e w' ⟨rfl,rfl⟩;exact ⟨_,G,I,N,rfl,mX hp (by simp_all [VR,I6])⟩
  .cases hrun
 .cases hrun
end Go.z6
namespace Go.Proofs.YtibjocmpkoepoaaGreat
open Go.z6 Go.z6.S
attribute [local irreducible] Rx Ry Rn Ex Pf
def A0:z6.Prog:=⟨Wn,Ga,MT,λ_=>K⟩
def VO [D6]:oa Tryz.prog A0:=⟨KR,λf p h=>(by cases h),λf af _ h=>VP f af h⟩
def YZ (a:Int):Pf A0 136 [.d (Z a)] (.d (.bool F)):=by
 refine Pf.gr 1 ?_;exact ⟨_,rfl,by simp [j4,o6]⟩
def q83 (a b:Int):Pf A0 83 [.d (Z a),.d (Z b)] (.d (Z (aV a b))):=by
 refine Pf.go 3 ?_;have p1:=YZ a;have p2:=YZ b;refine gc (And.intro p1 p2) ?_;refine tb (F) (λh1=>?_) (λh1=>?_)
 .cases h1
 refine gr ?_;refine tb (F) (λh2=>?_) (λh2=>?_)
 .cases h2
 refine gr ?_;refine tb (D0 a b) (λh3=>?_) (λh3=>?_)
 .have:=A5 h3
  refine gr ?_;have e:aV a b= -1:=by unfold aV;rw [if_pos this]
  rw [e]
  first|exact ⟨_,rfl,rfl⟩|(simp [j4];done)
 have:=A9 h3;refine gr ?_;refine tb (D0 b a) (λh4=>?_) (λh4=>?_)
 .have:=A5 h4
  refine gr ?_;have e:aV a b=1:=by unfold aV;rw [if_neg V,if_pos this]
  rw [e]
  first|exact ⟨_,rfl,rfl⟩|(simp [j4];done)
 have:=A9 h4;refine gr ?_;have e:aV a b=0:=by unfold aV;rw [if_neg V,if_neg V]
 rw [e]
 first|exact ⟨_,rfl,rfl⟩|(simp [j4];done)
def Qz:List Int->Int
 |[]=>0
 |a::l=>if s7 a 0 then Qz l else a
def q82 (l:List Int)(hl:O l<=1000000):Pf A0 82 [.d (ints l)] (.d (Z (Qz l))):=by
 refine Pf.gr 6 ?_;refine Ex.J1 (λk T H=>∃(i:Nat),T=[.any,.any,.d (Z 0),.any,.d (ints l),.d (Z (O l)),.d (Z i)]/\H=[]/\i+k=O l/\Qz l=Qz (l.drop i)) ?_ (k:=O l) ⟨0,rfl,rfl,U,rfl⟩;rintro k _ _ ⟨i,rfl,rfl,hk,ho⟩;refine Ex.seq ?_;refine tl i (O l) (λh3=>?_) (λh3=>?_)
 .rw [C5 V,Qz] at ho
  refine gr ?_;refine tb (!s7 (Y l i) 0) (λh4=>?_) (λh4=>?_)
  .refine gr ?_
   rw [if_neg (by simpa using h4)] at ho;rw [ho]
   first|exact ⟨_,rfl,rfl⟩|(simp [j4];done)
  .refine gr ?_
   rw [if_pos (by simpa using h4)] at ho;exact kk ⟨i+1,rfl,rfl,V,ho⟩
 .rw [n5 V] at ho
  rw [ho];refine gr ?_
  first|exact ⟨_,rfl,rfl⟩|(simp [j4];done)
def JU (p:C8):c7:= .agg [.d (Z p.1),.d (Z p.2)]
def NJ (a b:C8):Pf A0 118 [JU a,JU b] (.d (Z (pI a b))):=by
 refine Pf.go 3 ?_;unfold JU;have p1:=q83 a.1 b.1;have p2:=q83 a.2 b.2;have p3:=q82 [aV a.1 b.1,aV a.2 b.2] U;have e:pI a b=Qz [aV a.1 b.1,aV a.2 b.2]:=by
  unfold pI;simp only [Qz,o6]
  by_cases h:aV a.1 b.1=0
  .by_cases h2:aV a.2 b.2=0<;>simp [h,h2]
  .simp [h]
 rw [e]
 repeat' (first|refine mN p1 ?_|refine mN p2 ?_|refine mN p3 ?_|refine Lg [Z (aV a.1 b.1),Z (aV a.2 b.2)] ?_|refine gx ?_|fail)
 first|exact ⟨_,rfl,rfl⟩|(simp [j4];done)
def aC0 (a b:Bool):Pf A0 165 [.d (.bool a),.d (.bool b)] (.d (Z (OI a b))):=by
 refine Pf.go 1 ?_;cases a<;>cases b
 all_goals
  repeat' (first|refine gy ?_|refine ft (λht=>?_) λht=>?_|refine ⟨_,rfl,?_⟩|fail)
  all_goals first|rfl|(exfalso;revert ht;decide)|(rename_i h;exfalso;revert h;decide)
def LU (f:D8):c7:= .agg [.d (Z f.src.1),.d (Z f.src.2),.d (Z f.dst.1),.d (Z f.dst.2),.d (.bool f.dat)]
def aB9 (a b:D8):Pf A0 164 [LU a,LU b] (.d (Z (CC a b))):=by
 refine Pf.go 3 ?_;unfold LU;have p1:=NJ a.src b.src;have p2:=NJ a.dst b.dst;have p3:=aC0 a.dat b.dat;have p4:=q82 [pI a.src b.src,pI a.dst b.dst,OI a.dat b.dat] U;have e:CC a b=Qz [pI a.src b.src,pI a.dst b.dst,OI a.dat b.dat]:=by
  unfold CC;simp only [Qz,o6]
  by_cases h:pI a.src b.src=0
  .by_cases h2:pI a.dst b.dst=0
   .by_cases h3:OI a.dat b.dat=0<;>simp [h,h2,h3]
   .simp [h,h2]
  .simp [h]
 rw [e];unfold JU at p1 p2
 repeat' (first|refine mN p1 ?_|refine mN p2 ?_|refine mN p3 ?_|refine mN p4 ?_|refine Xx ?_|refine Lg [Z (pI a.src b.src),Z (pI a.dst b.dst),Z (OI a.dat b.dat)] ?_|refine gx ?_|fail)
 first|exact ⟨_,rfl,rfl⟩|(simp [j4];done)
end Go.Proofs.YtibjocmpkoepoaaGreat
namespace Go.z6
def CD (a b:C8):pI a b=0↔a.1=b.1/\a.2=b.2:=by
 unfold pI aV;split<;>(repeat' split)<;>omega
def bn (b:Bool):Int:=if b then 0 else 1
def SZ (a b:Bool):OI a b<0↔bn a<bn b:=by cases a<;>cases b<;>decide
def rA (a b:D8):CC a b<0↔(a.src.1<b.src.1\/(a.src.1=b.src.1/\(a.src.2<b.src.2\/(a.src.2=b.src.2/\(a.dst.1<b.dst.1\/(a.dst.1=b.dst.1/\(a.dst.2<b.dst.2\/(a.dst.2=b.dst.2/\bn a.dat<bn b.dat)))))))):=by
 have h1:=dJ a.src b.src;have h2:=CD a.src b.src;have h3:=dJ a.dst b.dst;have h4:=CD a.dst b.dst;have h5:=SZ a.dat b.dat;unfold CC;split
 .rw [h1];omega
 .split
  .rw [h3];omega
  .rw [h5];omega
def SX {a b:Bool}(h:bn a=bn b):a=b:=by cases a<;>cases b<;>first|rfl|(exact absurd h (by decide))
end Go.z6
namespace Go.Proofs.YtibjocmpkoepoaaGreat
open Go.z6 Go.Sort Go.Proofs
def aD1:SWO (ltOf pI) where
 irrefl x:=by simp only [ltOf,decide_eq_false_iff_not,dJ];omega
 trans x y z h1 h2:=by simp only [ltOf,decide_eq_true_eq,dJ] at *;omega
 ntrans x y z h1 h2:=by simp only [ltOf,decide_eq_false_iff_not,dJ] at *;omega
def Zq (x y:C8)(h1:ltOf pI x y=F)(h2:ltOf pI y x=F):x=y:=by
 simp only [ltOf,decide_eq_false_iff_not,dJ] at *
 exact Prod.ext V V
def aD0:SWO (ltOf CC) where
 irrefl x:=by simp only [ltOf,decide_eq_false_iff_not,rA];omega
 trans x y z h1 h2:=by simp only [ltOf,decide_eq_true_eq,rA] at *;omega
 ntrans x y z h1 h2:=by simp only [ltOf,decide_eq_false_iff_not,rA] at *;omega
def Zp (x y:D8)(h1:ltOf CC x y=F)(h2:ltOf CC y x=F):x=y:=by
 simp only [ltOf,decide_eq_false_iff_not,rA] at *
 obtain ⟨⟨a,b⟩,⟨c,d⟩,e⟩:=x;obtain ⟨⟨a',b'⟩,⟨c',d'⟩,e'⟩:=y;simp only at h1 h2;obtain rfl:a=a' :=V
 obtain rfl:b=b' :=V
 obtain rfl:c=c' :=V
 obtain rfl:d=d' :=V
 obtain rfl:e=e' :=SX V;rfl
def C8.vals (p:C8):List Value:=[.int .i64 p.1,.int .i64 p.2]
def Oz {G:Gh}{I:P3}{N:Nat->Prop}{w:World}(f:D8):VR G I N w .none (LU f) (.agg (D8.vals f).toArray):=by
 simp only [LU,VR];exact ⟨_,rfl,by simp only [D8.vals,I6,VR,DR];exact ⟨_,_,rfl,rfl,_,_,rfl,rfl,_,_,rfl,rfl,_,_,rfl,rfl,_,_,rfl,rfl,rfl⟩⟩
def OA {G:Gh}{I:P3}{N:Nat->Prop}{w:World}(f:C8):VR G I N w .none (JU f) (.agg (C8.vals f).toArray):=by
 simp only [JU,VR];exact ⟨_,rfl,by simp only [C8.vals,I6,VR,DR];exact ⟨_,_,rfl,rfl,_,_,rfl,rfl,rfl⟩⟩
def Lq {f:FuncId}{a b:c7}{x y:Value}{n:Int}(h:Pf A0 f [a,b] (.d (Z n)))(hv:∀w,I6 (G0 w) (λ_=>(0,0)) (λ_=>False) w [a,b] [x,y])(w:World) :
  Calls Tryz.prog f #[x,y] w λe w' =>e= .returned (.int .i64 n)/\∃q os,w' =grow (w.drewN q) os:=by
 obtain ⟨N,hN⟩:=h;refine (@FG ⟨True⟩ trivial Tryz.prog A0 (@VO ⟨True⟩) N f [a,b] #[x,y] w _ (hN N (k9 _)) (hv w)).mono ?_;rintro e w' ⟨v,G',I',N',rfl,hv,hw⟩;simp only [VR,DR] at hv;subst hv;exact ⟨rfl,hw⟩
def al4 (blk off size:Nat)(w:World):CmpLays Tryz.prog 164 #[] D8.vals 5 CC blk off size w:=λm os dk _ x y =>
 Lq (aB9 x y) (λw=>by simp only [I6];exact ⟨_,_,rfl,Oz x,_,_,rfl,Oz y,rfl⟩) _
def al5 (blk off size:Nat)(w:World):CmpLays Tryz.prog 118 #[] C8.vals 2 pI blk off size w:=λm os dk _ x y =>
 Lq (NJ x y) (λw=>by simp only [I6];exact ⟨_,_,rfl,OA x,_,_,rfl,OA y,rfl⟩) _
theorem Rb (blk off cap:Nat)(fs:List D8)(w:World)(h1:HoldsK D8.vals 5 w blk off fs.toArray)(h2:blk<w.heap.size)(h3:O fs<4611686018427387904):Calls Tryz.prog 163 #[.slice (J ⟨blk,off,K⟩) (O fs) cap,.func (.func 164) #[] #[]] w λe w' =>
   e= .returned (.tuple #[])/\∃n os,w' =grow (putRowK D8.vals 5 (Sort.ahead w n) blk off (Y4 fs).toArray) os:=by
 have eg:∀args w,(callFunc 164 args).run Tryz.prog w= .ok (.enter 164 args) w:=enters_of Tryz.func164 (by kernel_rfl) rfl;rw [Y4,<- tT (λa b c h1 h2=>by rw [rA] at *;omega) (λa b h=>by rw [rA] at *;omega) (λa b h1 h2=>Zp a b (by simpa [ltOf] using h2) (by simpa [ltOf] using h1)) fs];exact AnyQ.slices_SortFunc_total Tryz.sortQ 5 (λw=>by kernel_rfl) (λw=>by kernel_rfl) D8.vals (λ_=>rfl) (λx v hv=>by simp [D8.vals] at hv;rcases hv with rfl|rfl|rfl|rfl|rfl<;>rfl) CC aD0 164 #[] blk off cap fs.toArray w eg (al4 blk off _ w) h1 h2 h3 Zp
theorem Rc (blk off cap:Nat)(ps:List C8)(w:World)(h1:HoldsK C8.vals 2 w blk off ps.toArray)(h2:blk<w.heap.size)(h3:O ps<4611686018427387904):Calls Tryz.prog 89 #[.slice (J ⟨blk,off,K⟩) (O ps) cap,.func (.func 118) #[] #[]] w λe w' =>
   e= .returned (.tuple #[])/\∃n os,w' =grow (putRowK C8.vals 2 (Sort.ahead w n) blk off (sortP ps).toArray) os:=by
 have eg:∀args w,(callFunc 118 args).run Tryz.prog w= .ok (.enter 118 args) w:=enters_of Tryz.func118 (by kernel_rfl) rfl;rw [Go.z6.sortP,<- tT (λa b c h1 h2=>by rw [dJ] at *;omega) (λa b h=>by rw [dJ] at *;omega) (λa b h1 h2=>Zq a b (by simpa [ltOf] using h2) (by simpa [ltOf] using h1)) ps];exact AnyQ.slices_SortFunc_total Tryz.sortP 2 (λw=>by kernel_rfl) (λw=>by kernel_rfl) C8.vals (λ_=>rfl) (λx v hv=>by simp [C8.vals] at hv;rcases hv with rfl|rfl<;>rfl) pI aD1 118 #[] blk off cap ps.toArray w eg (al5 blk off _ w) h1 h2 h3 Zq
theorem QG (prom:FuncId->Bool):cK Tryz.prog prom 163 (si 164) :=
 GA (by kernel_rfl) Rb λp cap fv w=>AnyF.slices_SortFunc_none (P:=Tryz.prog) (ρ:=Tryz.sortQ_ren) { Tryz.sortQ with } p cap fv w
end Go.Proofs.YtibjocmpkoepoaaGreat
namespace Go.Proofs.YtibjocmpkoepoaaGreat
open Go.RowKit Go.Maps
def pv (p:Int×Int):Value:= .agg #[.int .i64 p.1,.int .i64 p.2]
def Zt:Value->Int×Int
 | .agg cs=>match cs.toList with
  |[.int _ a,.int _ b]=>(a,b)
  |_=>(0,0)
 |_=>(0,0)
def Rm (p:Int×Int):Zt (pv p)=p:=rfl
def yH:List (Int×Int)->List Value
 |[]=>[]
 |p::r=> .int .i64 p.1:: .int .i64 p.2::yH r
theorem CZ (p:Int×Int):∀l:List (Int×Int),yH (l++[p])=yH l++[.int .i64 p.1,.int .i64 p.2]
 |[]=>rfl
 |q::l=>by simp [x4,yH,CZ p l]
theorem dQ:∀l:List (Int×Int),O (yH l)=O l * 2
 |[]=>rfl
 |q::l=>by simp [yH,n9,dQ l];omega
def uV (es:Array MapEntry)(seen:Array Nat)(tp:List (Int×Int)):Prop:=∃tk:List MapEntry,tk.map (·.key)=tp.map pv/\(tk++(leftOf es seen).toList).Perm es.toList
def uV.start (es:Array MapEntry):uV es #[] []:=⟨[],rfl,by
 grind [leftOf,Array.toList_filter,List.filter_eq_self,List.Perm.refl]⟩
theorem zU (es:Array MapEntry)(seen:Array Nat)(b:Nat):(leftOf es (seen.push b)).toList=(leftOf es seen).toList.filter (λx=>x.born != b):=by
 grind [leftOf,Array.toList_filter,List.filter_filter,List.filter_congr,Array.contains_push,bne,Bool.and_comm]
theorem Eg:∀(l:List MapEntry) (e:MapEntry),e∈l->(l.map (·.born)).Nodup->(e::l.filter (λx=>x.born != e.born)).Perm l
 |[],_,h,_=>by cases h
 |x::l,e,h,hn=>by
  simp [G7,List.nodup_cons] at hn
  rcases K2.1 h with rfl|h
  .have:l.filter (λx=>x.born != e.born)=l:=by
    simp_all
   simp [this]
  .have hx:x.born≠e.born:=by
    grind
   have hx' :(x.born != e.born)=W:=M
   rw [List.filter_cons,if_pos hx'];exact (List.Perm.swap x e _).trans ((Eg l e h hn.2).cons x)
def uV.step {es:Array MapEntry}{seen:Array Nat}{tp:List (Int×Int)}(h:uV es seen tp)(hn:(es.toList.map (·.born)).Nodup){e:MapEntry}(he:e∈(leftOf es seen).toList){p:Int×Int}(hk:e.key=pv p) :
  uV es (seen.push e.born) (tp++[p])/\(leftOf es (seen.push e.born)).size<(leftOf es seen).size:=by
 obtain ⟨tk,h1,h2⟩:=h;have hn' :((leftOf es seen).toList.map (·.born)).Nodup:=by
  grind
 have hp:=Eg _ e he hn';refine ⟨⟨tk++[e],by simp [h1,hk],?_⟩,?_⟩
 .rw [zU,F5]
  exact (List.Perm.append_left tk hp).trans h2
 .have:=hp.length_eq
  grind [zU,n9,Array.length_toList]
def uV.done {es:Array MapEntry}{seen:Array Nat}{tp:List (Int×Int)}(h:uV es seen tp)(h0:(leftOf es seen).size=0){ks:List (Int×Int)}(hk:es.toList.map (·.key)=ks.map pv):tp.Perm ks:=by
 obtain ⟨tk,h1,h2⟩:=h;have e0:(leftOf es seen).toList=[]:=by
  simp_all
 rw [e0,List.append_nil] at h2;have h3:=h2.map (·.key);have h4:=h3.map Zt;simp_all [List.map_map,Function.comp_def,Rm]
theorem uV.len {es:Array MapEntry}{seen:Array Nat}{tp:List (Int×Int)}(h:uV es seen tp):O tp+(leftOf es seen).size=es.size:=by
 obtain ⟨tk,h1,h2⟩:=h;have e1:=congrArg List.length h1;have e2:=h2.length_eq
 grind
def Li (w:World)(x y:Value)(t:TypeId){k:Nat}(hk:k=w.heap.size):∀j u,[x,y][j]? =J u->(w.alloc (.cells #[x,y] t)).cell? ((⟨k,0,K⟩:Addr).add j)=J u:=by
 intro j u hj;subst hk;have e:∀i,(w.alloc (.cells #[x,y] t)).cell? ⟨w.heap.size,i,K⟩= #[x,y][i]? :=λi=>by
  simp_all
 match j,hj with
 |0,hj=>exact (e 0).trans hj
 |1,hj=>exact (e 1).trans hj
def Sd (w:World)(r:Nat):Nat:=match w.heap[r]? with
 |some (.mapIter (J bm) _ seen _)=>(match w.heap[bm]? with
  |some (.map es _)=>(leftOf es seen).size
  |_=>0)
 |_=>0
section
variable {d7:Fence} {n:Nat} {P:Program} (w:World) {ops:Array Oper} {rest:List Oper} {o:Oper} {a:Act} {Q:Exit->Act->World->Prop}
def oU (hg:o.guard=K)(m:Operand)(t:TypeId)(hop:o.op=Op.range t m)(k e:TypeId)(ht:P.underlying t=J (.map k e))(b:Nat)(es:Array MapEntry)(dD:Nat)(hm:a.eval m= .map (J b))(hb:w.heap[b]? =J (.map es dD))
  (hK:wpListIn d7 n P ops Q rest (a.put o.dst (.pointer (J ⟨w.heap.size,0,K⟩))) (w.alloc (.mapIter (J b) dD #[] dD))) :
  wpListIn d7 n P ops Q (o::rest) a w:=by
 refine wpListIn_plain hg λK' ZC =>?_
 have hrun:=run_range_map w t k e b es dD ht hb;refine ⟨?_,?_⟩
 .simp [Oper.about,hop]
 .rw [Oper.semAt_plain d7 _ _ M]
  simp [execOp,hop,hm,hrun];exact ZC _ _ hK
def qS (hg:o.guard=K)(it:Operand)(hop:o.op=Op.next it F)(b r:Nat)(es:Array MapEntry)(dD:Nat)(seen:Array Nat)(hit:a.eval it= .pointer (J ⟨r,0,K⟩))
  (hr:w.heap[r]? =J (.mapIter (J b) dD seen dD)) (hb:w.heap[b]? =J (.map es dD)) (hold:∀x∈es.toList,x.born<dD) (hn:(es.toList.map (·.born)).Nodup) (hkeys:∀e∈es.toList,∃p,e.key=pv p) (hbr:b≠r)
  (hDone:(leftOf es seen).size=0->wpListIn d7 n P ops Q rest (a.put o.dst (.tuple #[.bool F])) w)
  (hMore:∀(e:MapEntry) (p:Int×Int) (v:Value) (w' :World),e∈(leftOf es seen).toList->e.key=pv p->w.grownBy w' (J r)->w'.heap.size=w.heap.size->w'.heap[r]? =J (.mapIter (J b) dD (seen.push e.born) dD)->w'.heap[b]? =J (.map es dD) ->
   (Instr.entry (.pointer (J ⟨r,0,K⟩))).run P w' = .ok (.tuple #[pv p,v]) w' ->wpListIn d7 n P ops Q rest (a.put o.dst (.tuple #[.bool W,pv p,v])) w') :
  wpListIn d7 n P ops Q (o::rest) a w:=by
 refine wpListIn_plain hg λK' ZC =>?_
 refine ⟨by simp [Oper.about,hop],?_⟩;rw [Oper.semAt_plain d7 _ _ M]
 rcases run_next_at (P:=P) w o.type r b dD dD seen es dD hr hb hold (k9 _) with ⟨h0,hrun⟩|⟨e,he,w1,hw1,hrun⟩
 .simp [execOp,hop,hit,hrun]
  exact ZC _ _ (hDone h0)
 .have OL:e∈es.toList:=by
   have:e∈(Array.filter (λe=> !seen.contains e.born) es).toList:=he;simp_all
  obtain ⟨p,hp⟩:=hkeys e OL;simp [execOp,hop,hit,hrun];have hsz:(ChangeMaps.setBlock w1 r (.mapIter (J b) dD (seen.push e.born) dD)).heap.size=w.heap.size:=by
   rcases hw1 with rfl|rfl<;>simp [ChangeMaps.setBlock]
  have hlt:r<w.heap.size:=by
   grind
  have hr' :(ChangeMaps.setBlock w1 r (.mapIter (J b) dD (seen.push e.born) dD)).heap[r]? =J (.mapIter (J b) dD (seen.push e.born) dD):=by
   simp_all [ChangeMaps.setBlock]
  have Jv:∀k,k≠r->(ChangeMaps.setBlock w1 r (.mapIter (J b) dD (seen.push e.born) dD)).heap[k]? =w.heap[k]? :=by
   intro k hk
   rcases hw1 with rfl|rfl
   .grind [ChangeMaps.setBlock]
   .simp [ChangeMaps.setBlock,Ne.symm hk]
    rfl
  have hb' :=(Jv b hbr).trans hb;have TB:=run_entry_at (P:=P) _ r b dD seen es dD e hr' hb' OL hn;rw [hp] at TB ⊢;refine ZC _ _ (hMore e p e.val _ he hp ⟨?_,?_,?_,Nat.le_of_eq hsz.symm,λk _ hk=>Jv k (λe=>hk (by rw [e]))⟩ hsz hr' hb' TB)
  all_goals (rcases hw1 with rfl|rfl<;>rfl)
end
theorem TV:(Tryz.prog.info? 44).map (λi=>(i.zero,i.size,i.bytes))=J (J (.agg #[.int .i64 0,.int .i64 0]),2,16):=by kernel_rfl
set_option maxRecDepth 100000 in
set_option maxHeartbeats 2000000 in
def tU (bm:Nat)(es:Array MapEntry)(dD:Nat)(ks srt:List (Int×Int))(w:World)(hb:w.heap[bm]? =J (.map es dD))(hold:∀x∈es.toList,x.born<dD)(hn:(es.toList.map (·.born)).Nodup)(hk:es.toList.map (·.key)=ks.map pv)(hlen:O ks<=1000000)
  (hsort:∀(v:Value) (ps:List (Int×Int)) (d6:World),d6.ownsRow w.heap.size 44 2 v (O ps) (yH ps)->ps.Perm ks->Calls Tryz.prog 89 #[v,.func (.func 118) #[] #[]] d6 λe W' =>
   e= .returned (.tuple #[])/\W'.ownsRow w.heap.size 44 2 v (O ps) (yH srt)/\d6.grownBy W' v.ownBlock) :
  Calls Tryz.prog 63 #[.map (J bm)] w λe w' =>∃v,e= .returned v/\w'.ownsRow w.heap.size 44 2 v (O ks) (yH srt)/\Below w.heap.size w w' :=by
 obtain ⟨i0,hi,hz0,PW,Dq⟩:=info_parts TV;have hbl:bm<w.heap.size:=by
  grind
 have hkeys:∀e∈es.toList,∃p,e.key=pv p:=by
  intro e he;have:e.key∈ks.map pv:=by grind
  grind
 have aY1:es.size=O ks:=by
  have:=congrArg List.length hk
  grind
 refine (callsIn_wide (n:=68)).1 ?_;refine callsIn_of_wp Tryz.func63 rfl trivial ?_ rfl;simp only [Tryz.ntmps63,List.size_toArray,n9,y4,K5,Nat.reduceSub,Array.replicate_succ,Array.replicate_zero,List.push_toArray,List.append_toArray,y5,x4]
 gi_wp2_with (first
  |(gi_at_range;refine oU _ rfl _ 124 rfl 44 4 Tryz.underlying124 bm es dD rfl hb ?_)
  |gi_in)
 go_frame
 gi_loopw [3] (λv wr=>∃(seen:Array Nat) (tp:List (Int×Int)),wr.heap[w.heap.size]? =J (.mapIter (J bm) dD seen dD)/\wr.heap[bm]? =J (.map es dD)/\uV es seen tp/\wr.ownsRow w.heap.size 44 2 v (O tp) (yH tp)/\Below w.heap.size w wr)
  (λ_ wr=>Sd wr w.heap.size)
 case atStart =>
  exact ⟨#[],[],heap_alloc_new _ _,(Below.heap_alloc _ _ _ hbl).trans hb,uV.start es,World.ownsRow_nil _ _ _ _,(Below.refl _ _).alloc (k9 _) _⟩
 case round =>
  obtain ⟨seen,tp,hr,hbb,hC,hrow,ZK⟩:=hrel
  gi_wp2_with (first
   |(gi_at_next;refine qS _ rfl _ rfl bm w.heap.size es dD seen rfl hr hbb hold hn hkeys V ?_ ?_)
   |gi_in)
  .intro h0
   have Dn:=hC.done (by rw [h0];rfl) hk;have hc:=hsort _ tp _ hrow Dn;clear h0
   gi_wp2_with (refine ⟨trivial,?_⟩;gi_at_call 89;refine ((callsIn_wide).2 hc).mono ?_;rintro e w' ⟨rfl,WZ,hg'⟩)
   refine ⟨rfl,_,results_tmp rfl _ _ _,u3,rfl,?_,ZK.grown hg' ZK.size (λj hj=>(hrow.lt j hj).1)⟩;rw [<- Dn.length_eq];exact WZ
  .intro e p1 p2 v' w2 he hp hg2 hs2 Jx Tt TB
   have zI:=hrow.kept hg2 (by
    by_cases h:u3.ownBlock=K
    .simp_all
    .refine Or.inr λe1=>?_
     rcases hrow.2 with ⟨rfl,_⟩|⟨g,cap,cur,rfl,_,hgg,_⟩
     all_goals simp_all [Value.ownBlock,Option.some.injEq])
   have ba3:=hg2.size;have hstep:=hC.step hn (Array.mem_toList_iff.2 he) (p:=(p1,p2)) hp;have aI6:O tp+1<=1000000:=by
    have:=hC.len;omega
   have aq0:Below w.heap.size w w2:=ZK.grown hg2 ZK.size (λj hj=>M);clear hs2;simp only [pv] at TB ⊢
   gi_wp2_with (gi_at_builtin;go_loud (refine wpListIn_append_own _ rfl _ _ 49 rfl w.heap.size 44 i0 _ 2 16 Tryz.underlying49 hi hz0 PW Dq rfl (by decide) _ _ _ rfl ((zI.alloc _).alloc _) ⟨w2.heap.size+1,0,K⟩ 1 1 [.int .i64 p1,.int .i64 p2] rfl rfl (Li _ _ _ _ U) (by simp [Value.oneCell']) (by grind [maxLen]) V (by simp_all<;>grind) ?_;intro v3 w3 hown' hg3 aJ0;go_frame))
   have hg4:World.grownBy _ w3 u3.ownBlock:=hg3;have hkeep:∀(b:Nat) (o:Obj),w2.heap[b]? =J o->(∀c t f,o≠Obj.cells c t f)->w3.heap[b]? =J o:=by
    intro b o fe hno;have hlt:b<w2.heap.size:=by
     grind
    rw [hg4.block b D (λe1=>by
     rcases zI.2 with ⟨rfl,_⟩|⟨g,cap,cur,rfl,_,hgg,_⟩
     all_goals simp_all [Value.ownBlock,Option.some.injEq]),Below.heap_alloc _ _ _ D,Below.heap_alloc _ _ _ hlt]
    exact fe
   have hr3:=hkeep _ _ Jx U;have hb3:=hkeep _ _ Tt U;have aq1:Below w.heap.size w w3:=((aq0.alloc (by grind) _).alloc (by simp_all<;>grind) _).grown hg4 (by simp_all<;>grind) (λj hj=>(zI.lt j hj).1)
   go_roundw
   case rel=>exact ⟨_,_,hr3,hb3,hstep.1,by simp_all [CZ,j9],aq1⟩
   simp_all [measure,Sd]
#print axioms tU
end Go.Proofs.YtibjocmpkoepoaaGreat
namespace Go.z6
open Go.RowKit
section
variable {w w' :World} {G G' :Gh} {I:P3} {N:Nat->Prop} {l:G9} {H:k8}
def qY (hB:Below w.heap.size w w')(hwf:WF G w)(hG:∀b,b<w.heap.size->G' b=G b):Ext G w G' w' where
 os:=hB.os
 tape:=hB.tape
 output:=hB.output
 size:=hB.size
 iA b o hi:=by
  have hb:b<w.heap.size:=Z0 hwf (by grind [fE]);exact ⟨by simp_all [fE],by simp [World.cell?,hB.block b hb]⟩
 still b hb:=by
  have hlt:b<w.heap.size:=Z0 hwf (by grind);exact ⟨hG b hlt,hB.block b hlt⟩
 shape b c e f hc:=by
  have hlt:b<w.heap.size:=by
   grind
  exact ⟨c,(hB.block b hlt).trans hc,rfl⟩
 drawn h:=h.elim
def sJ (hB:Below w.heap.size w w')(hwf:WF G w)(hG:∀b,b<w.heap.size->G' b=G b)(q:Place):Y8 q G w G' w' :=λb n hb=>by
 have hlt:b<w.heap.size:=Z0 hwf (by rw [hb];simp);exact ⟨(hG b hlt).trans hb,hB.block b hlt⟩
def vh (hB:Below w.heap.size w w')(hwf:WF G w)(hG:∀b,b<w.heap.size->G' b=G b)(b id:Nat)(hb:G b= .obj id):G' b= .obj id/\w'.heap[b]? =w.heap[b]? :=by
 have hlt:b<w.heap.size:=Z0 hwf (by rw [hb];simp);exact ⟨(hG b hlt).trans hb,hB.block b hlt⟩
def Fu {args:List c7}{J2:Array Value}(hp:yh l H w G I N args J2)(hB:Below w.heap.size w w')(hG:∀b,b<w.heap.size->G' b=G b)(hwf' :WF G' w'){v:c7}{x:Value}(hv:VR G' I N w' .ret v x):kz l H w G I N v H x w' G' I N :=
 ⟨hv,λid o ho=>OR.mono (qY hB hp.wf hG) (λ_ _=>rfl) (λ_ h=>h) id o (λh=>vh hB hp.wf hG _ _ h) (λ_=>sJ hB hp.wf hG _) (hp.hr id o ho),hwf',qY hB hp.wf hG,
  λid _=>⟨λb hb=>vh hB hp.wf hG b id hb,λ_=>sJ hB hp.wf hG _⟩,λ_ _ _=>rfl,λ_ h=>h,λ_ _ h=>h,hp.Z8,λ_ o' _ ho=>Or.inr ⟨o',ho,k9 _⟩,hp.R8⟩
def Vg (G:Gh)(w:World)(cs:List Data)(news:List Value):Prop:=O news=O cs/\∀(j:Nat) (c:Data),cs[j]? =J c->∃u,news[j]? =J u/\DR G w c u
theorem dx.of {b:Nat}:∀(o:Nat) (cs:List Data),(∀(j:Nat) (c:Data),cs[j]? =J c->fE G b (o+j)/\∃u,w.cell? (ad b (o+j))=J u/\DR G w c u)->dx G w b o cs
 |_,[],_=>by simp [dx]
 |o,c::cs,h=>by
  obtain ⟨h1,h2⟩:=h 0 c rfl;refine ⟨h1,h2,dx.of (o+1) cs λj c hj=>?_⟩;have:=h (j+1) c (by simpa using hj)
  rwa [show o+(j+1)=o+1+j by omega] at this
def DR.one {d:Data}{v:Value}(h:DR G w d v):v.oneCell' =W:=by
 cases d<;>simp [DR] at h
 case slice len cells=>rcases h with ⟨h|⟨a,h⟩,_⟩|⟨b,o,cap,h,_⟩<;>subst h<;>rfl
 all_goals (subst h;rfl)
theorem Vg.mono {cs:List Data}{news:List Value}(h:Vg G w cs news)(hx:Ext G w G' w'):Vg G' w' cs news:=⟨h.1,λj c hj=>by
 obtain ⟨u,h1,h2⟩:=h.2 j c hj;exact ⟨u,h1,DR.mono hx.iA c u h2⟩⟩
def Vg.DZ {cs:List Data}{news:List Value}(h:Vg G w cs news):∀u∈news,u.oneCell' =W:=by
 intro u hu;obtain ⟨j,hj,rfl⟩:=List.mem_iff_getElem.1 hu;have hl:=h.1;obtain ⟨u',h1,h2⟩:=h.2 j (cs[j]' V) (o3 V);rw [o3 hj] at h1;cases h1;exact h2.one
def QA {e z n:Nat}{v:Value}{news:List Value}{cs:List Data}(hown:w'.ownsRow w.heap.size e z v n news)(hB:Below w.heap.size w w')(hwf:WF G w)(hd:Vg G w cs news) :
  ∃G',(∀b,b<w.heap.size->G' b=G b)/\WF G' w' /\VR G' I N w' .ret (.own z n cs) v:=by
 obtain ⟨h1,h2⟩:=hown;have hl:O cs=n * z:=by rw [<- hd.1];exact h1
 rcases h2 with ⟨rfl,rfl⟩|⟨g,cap,cur,rfl,hg,hh,hc1,qm,RL,hc4⟩
 .refine ⟨G,λ_ _=>rfl,λb hb=>hwf b (o5 hB.size hb),?_⟩
  simp_all [VR,trivial]
 .have hlt:g<w'.heap.size:=by
   grind
  have hG:∀b,b<w.heap.size->(dF G g (.grow (0+n * z) .ret)) b=G b:=λb hb=>H6 V
  refine ⟨dF G g (.grow (0+n * z) .ret),hG,λb hb=>?_,?_⟩
  .rw [H6 V]
   exact hwf b (o5 hB.size hb)
  .have hd' :=hd.mono (qY hB hwf hG)
   refine ⟨hl,Or.inr ⟨U,g,0,cap,cur,e,(0,0),rfl,hc1,hh,V,jx _,U,dx.of 0 cs λj c hj=>?_⟩⟩;obtain ⟨u,g1,g2⟩:=hd'.2 j c hj;simp_all [fE,World.cell?]<;>grind
def FQ {P:Program}{prom:FuncId->Bool}{f:FuncId}{z e:Nat}(hcan:R3 P f=W)
  (hG:∀(n:Nat) (w:World),0<n->n<=1000000->Calls P f #[.slice K 0 0,.int .i64 n] w λx w' =>∃(cap:Nat) (c:Array Value),x= .returned (.slice (J ⟨w.heap.size,0,K⟩) 0 cap)/\w' =w.drew.alloc (.cells c e)/\c.size=cap * z):cK P prom f (rY z):=by
 refine ⟨hcan,λargs H l v H1 hrun w G I N J2 hp _=>?_⟩;unfold rY at hrun;split at hrun
 next n=>
  split at hrun
  .cases hrun
   obtain ⟨m,rfl⟩:∃m:Nat,n=m:=⟨n.toNat,V⟩;have ha:=hp.args;simp [I6,VR,DR] at ha;have hv:J2= #[.slice K 0 0,.int .i64 m]:=by
    grind
   subst hv;refine (hG m w V V).mono ?_;rintro e' w' ⟨cap,c,rfl,rfl,hc⟩;have hN:fZ w (w.drew.alloc (.cells c e)) (.cells c e):=(fZ.alloc w (.cells c e)).drew (w.drawn+1) (Nat.le_succ _);refine ⟨_,dF G w.heap.size (.grow 0 .ret),I,N,rfl,?_,hN.hr hp.wf _ (λ_ _=>rfl) (λ_ h=>h) hp.hr,hN.wf hp.wf _,hN.ext hp.wf _,hN.bu hp.wf _ _,λ_ _ _=>rfl,λ_ h=>h,λ_ _ h=>h,hp.Z8,λ_ o' _ ho=>Or.inr ⟨o',ho,k9 _⟩,hp.R8⟩;exact ⟨U,Or.inr ⟨U,w.heap.size,0,cap,c,e,_,rfl,s8 _,hN.new,V,jx _,U,by simp [dx]⟩⟩
  .cases hrun
 .cases hrun
end
end Go.z6
namespace Go.Proofs.YtibjocmpkoepoaaGreat
open Go.RowKit Go.Maps Go.z6 Go.Sort Go.Proofs
theorem vX:∀ps:List (Int×Int),yH ps=ps.flatMap C8.vals
 |[]=>rfl
 |(a,b)::r=>by rw [yH,vX r];rfl
theorem Ae:∀(ps:List (Int×Int)) (i:Nat) (d:z6.Data),(bJ ps)[i]? =J d->∃u,(yH ps)[i]? =J u/\∀G w,DR G w d u
 |[],i,d,h=>by simp [bJ] at h
 |(a,b)::r,0,d,h=>by simp [bJ] at h;subst h;exact ⟨_,rfl,λG w=>by simp [DR]⟩
 |(a,b)::r,1,d,h=>by simp [bJ] at h;subst h;exact ⟨_,rfl,λG w=>by simp [DR]⟩
 |(a,b)::r,i+2,d,h=>by
  simp only [bJ,List.getElem?_cons_succ] at h;simpa only [yH,List.getElem?_cons_succ] using Ae r i d h
theorem lY:∀l:List (Int×Int),O (bJ l)=O l * 2
 |[]=>rfl
 |q::l=>by simp only [bJ,n9,lY l];omega
theorem Ih {G:Gh}{I:P3}{N:Nat->Prop}{w:World}:∀(es:List (Key×c7)) (ks:List (Int×Int)) (arr:List MapEntry),oJ es=J ks->ER G I N w es arr->arr.map (·.key)=ks.map pv
 |[],ks,arr,h,hE=>by
  simp [oJ] at h;simp [ER] at hE;subst h hE;rfl
 |(k,v)::r,ks,arr,h,hE=>by
  simp only [ER] at hE;obtain ⟨e,es',rfl,h1,_,h3⟩:=hE;unfold oJ at h;split at h
  .rename_i heq;cases heq
  next a b v' r' heq=>
   cases heq;split at h
   next l hl=>
    cases h;rw [G7,Ih _ l es' hl h3,h1];rfl
   .cases h
  .cases h
def NX (m:Nat)(v:Value)(ps:List C8)(d6:World)(hlen:O ps<=1000000)(hrow:d6.ownsRow m 44 2 v (O ps) (yH ps)):Calls Tryz.prog 89 #[v,.func (.func 118) #[] #[]] d6 λe W' =>
   e= .returned (.tuple #[])/\W'.ownsRow m 44 2 v (O ps) (yH (sortP ps))/\d6.grownBy W' v.ownBlock:=by
 obtain ⟨hl,⟨rfl,h0⟩|⟨g,cap,cur,rfl,hg,hh,hc1,qm,RL,hc4⟩⟩:=hrow
 .have hp0:ps=[]:=List.length_eq_zero_iff.1 h0
  subst hp0;have h:=AnyF.slices_SortFunc_none (P:=Tryz.prog) (ρ:=Tryz.sortP_ren) { Tryz.sortP with } K 0 (.func (.func 118) #[] #[]) d6;refine h.mono ?_;rintro e W' ⟨rfl,rfl⟩;exact ⟨rfl,by rw [show sortP []=([]:List C8) from rfl];exact World.ownsRow_nil _ _ _ _,World.grownBy.refl _ _⟩
 .have hlt:g<d6.heap.size:=by
   rcases y8 g d6.heap.size with h|h
   .exact h
   .rw [Array.getElem?_eq_none h] at hh;cases hh
  have hsz:O (sortP ps)=O ps:=Y6 ps;have hcell:∀j,j<O ps * 2->cur[j]? =(yH ps)[j]? :=λj hj=>by
   rw [<- hc4,List.getElem?_take,if_pos hj];simp
  refine (Rc g 0 cap ps d6 ?_ hlt V).mono ?_
  .unfold HoldsK
   rw [jK C8.vals 2 (λ_=>rfl),<- vX];intro j hj;have hj' :j<O (yH ps):=by simpa using hj
   have hj2:j<O ps * 2:=by rw [<- dQ];exact hj'
   constructor
   .show d6.cell? ⟨g,0+j,K⟩=_
    simp only [World.cell?,hh,Nat.zero_add];rw [hcell j hj2];simp [hj']
   .show d6.frozen? ⟨g,0+j,K⟩=_
    simp only [World.frozen?,hh];simp
  .rintro e W' ⟨rfl,n,os,rfl⟩
   have hR:=jW _root_.id d6 n g 0 (yH (sortP ps)) os;rw [List.map_id] at hR;unfold putRowK;rw [jK C8.vals 2 (λ_=>rfl),<- vX];obtain ⟨W',hW⟩:∃W',grow (putRow _root_.id (Sort.ahead d6 n) g 0 (yH (sortP ps)).toArray) os=W' :=⟨_,rfl⟩;rw [hW] at hR ⊢;obtain ⟨c',g1,g2,g3,g4⟩:=hR.here cur 44 (0,0) hh;refine ⟨rfl,⟨by rw [dQ,hsz],.inr ⟨g,cap,c',rfl,hg,g1,hc1,qm,V,?_⟩⟩,⟨hR.os,hR.tape,hR.output,hR.size,λk hk hne=>hR.other k hk (λe=>hne (by rw [e];rfl))⟩⟩;apply List.ext_getElem?;intro j;rw [List.getElem?_take];split
   next hj=>
    have hj' :j<O (yH (sortP ps)):=by rw [dQ,hsz];exact hj
    have:=g4 j _ V (o3 hj');rw [Nat.zero_add] at this;rw [o3 hj',<- this];simp
   next hj=>
    rw [List.getElem?_eq_none];rw [dQ,hsz];omega
theorem UB (prom:FuncId->Bool):cK Tryz.prog prom 63 uP:=by
 refine ⟨by kernel_rfl,λargs H l v H1 hrun w G I N J2 hp _=>?_⟩;unfold uP at hrun;split at hrun
 next id=>
  split at hrun
  next es OL=>
   split at hrun
   next ks hks=>
    split at hrun
    next hlen=>
     cases hrun;obtain ⟨x,rfl,hv⟩:=kU hp.args;simp only [VR] at hv;obtain ⟨hN,rfl⟩:=hv;have hO:=hp.hr id _ OL;simp only [OR] at hO;obtain ⟨_,arr,dD,h1,_,hE,hB⟩:=hO;have hk:=Ih es ks arr.toList hks hE;refine (tU (I id).1 arr dD ks (sortP ks) w h1 hB.old hB.nodup hk hlen ?_).mono ?_
     .intro v ps d6 hown Dn
      have:=Dn.length_eq;rw [<- nR Dn];exact NX _ v ps d6 V hown
     .rintro e w' ⟨v,rfl,hown,hBl⟩
      obtain ⟨G',hG,hwf',PU⟩:=QA (I:=I) (N:=N) (cs:=bJ (sortP ks)) hown hBl hp.wf ⟨by rw [dQ,lY],λj c hj=>by
       obtain ⟨u,u1,u2⟩:=Ae (sortP ks) j c hj;exact ⟨u,u1,u2 _ _⟩⟩
      exact ⟨_,G',I,N,rfl,Fu hp hBl hG hwf' PU⟩
    .cases hrun
   .cases hrun
  .cases hrun
 .cases hrun
end Go.Proofs.YtibjocmpkoepoaaGreat
namespace Go.Proofs.YtibjocmpkoepoaaGreat
open Go.RowKit Go.Lib
theorem Mv:(Tryz.prog.info? 44).map (λi=>(i.zero,i.size,i.bytes))=J (J (.agg #[.int .i64 0,.int .i64 0]),2,16):=by kernel_rfl
set_option maxRecDepth 100000 in
set_option maxHeartbeats 4000000 in
def Pz (n:Nat)(w:World)(h0:0<n)(hn:n<=1000000):Calls Tryz.prog 226 #[.slice K 0 0,.int .i64 n] w λe w' =>∃(cap:Nat) (c:Array Value),e= .returned (.slice (J ⟨w.heap.size,0,K⟩) 0 cap)/\w' =w.drew.alloc (.cells c 44)/\c.size=cap * 2:=by
 obtain ⟨i0,hi,hz0,PW,Dq⟩:=info_parts Mv;have h1:¬ ((n:Int)<0):=V
 have h2:wrap64 ((0:Int) - 0)=0:=by unfold wrap64;omega
 have h3:wrap64 ((n:Int) - 0)=(n:Int):=by unfold wrap64;omega
 have h4:(n:Int)>0:=V
 have hGn:0+n<=grownCap w (0+n) 0 44:=grownCap_ge w _ _ _;have Mr:∀ty,(Builtin.append_ #[49,3] ty #[.slice K 0 0,.int .i64 (n:Int)]).run Tryz.prog w =
   .ok (.slice (J ⟨w.heap.size,0,K⟩) (0+n) (grownCap w (0+n) 0 44)) (w.drew.alloc (.cells ((#[]:Array Value)++Builtin.zeroCells (.agg #[.int .i64 0,.int .i64 0]:Value).cells n++Builtin.zeroCells (.agg #[.int .i64 0,.int .i64 0]:Value).cells (grownCap w (0+n) 0 44 - (0+n))) 44)):=λty=>by
  have h:=Lib.run_append_grow_zeros w 49 3 ty 44 i0 (.agg #[.int .i64 0,.int .i64 0]) .i64 .i64 Tryz.underlying49 Tryz.underlying3 hi hz0 K 0 0 [] (run_firstCells_none w.drew i0.size 0 0 0) n h0 V V V (by rw [Dq];omega) (growslice_fits V (by rw [Dq];omega));exact h
 have To:grownCap w (0+n) 0 44<=9223372036854775807:=by
  have:=grownCap_le_maxLen w (0+n) 0 44 (by unfold maxLen;omega);unfold maxLen at this;omega
 obtain ⟨G,hG⟩:∃G,G=grownCap w (0+n) 0 44:=⟨_,rfl⟩;rw [<- hG] at Mr hGn To;have hsz:((#[]:Array Value)++Builtin.zeroCells (.agg #[.int .i64 0,.int .i64 0]:Value).cells n++Builtin.zeroCells (.agg #[.int .i64 0,.int .i64 0]:Value).cells (G - (0+n))).size=G * 2:=by
  simp only [Array.size_append,size_zeroCells,Value.cells,List.size_toArray,n9,y4];omega
 obtain ⟨c0,hc0⟩:∃c0,c0=((#[]:Array Value)++Builtin.zeroCells (.agg #[.int .i64 0,.int .i64 0]:Value).cells n++Builtin.zeroCells (.agg #[.int .i64 0,.int .i64 0]:Value).cells (G - (0+n))):=⟨_,rfl⟩;rw [<- hc0] at Mr hsz;clear hG hc0 hi hz0 PW Dq
 go_enter Tryz.func226,Tryz.ntmps226
 go_wp2_with (at_builtin;refine Lib.wpList_append_run _ rfl _ _ _ _ rfl _ _ rfl rfl _ _ (Mr _) ?_)
 all_goals (go_ret;exact ⟨G,rfl,c0,rfl,by first|exact hsz|omega⟩)
theorem Mw:(Tryz.prog.info? 3).map (λi=>(i.zero,i.size,i.bytes))=J (J (.int .i64 0),1,8):=by kernel_rfl
set_option maxRecDepth 100000 in
set_option maxHeartbeats 4000000 in
def PA (n:Nat)(w:World)(h0:0<n)(hn:n<=1000000):Calls Tryz.prog 279 #[.slice K 0 0,.int .i64 n] w λe w' =>∃(cap:Nat) (c:Array Value),e= .returned (.slice (J ⟨w.heap.size,0,K⟩) 0 cap)/\w' =w.drew.alloc (.cells c 3)/\c.size=cap * 1:=by
 obtain ⟨i0,hi,hz0,PW,Dq⟩:=info_parts Mw;have h1:¬ ((n:Int)<0):=V
 have h2:wrap64 ((0:Int) - 0)=0:=by unfold wrap64;omega
 have h3:wrap64 ((n:Int) - 0)=(n:Int):=by unfold wrap64;omega
 have h4:(n:Int)>0:=V
 have hGn:0+n<=grownCap w (0+n) 0 3:=grownCap_ge w _ _ _;have Mr:∀ty,(Builtin.append_ #[22,3] ty #[.slice K 0 0,.int .i64 (n:Int)]).run Tryz.prog w =
   .ok (.slice (J ⟨w.heap.size,0,K⟩) (0+n) (grownCap w (0+n) 0 3)) (w.drew.alloc (.cells ((#[]:Array Value)++Builtin.zeroCells (.int .i64 0:Value).cells n++Builtin.zeroCells (.int .i64 0:Value).cells (grownCap w (0+n) 0 3 - (0+n))) 3)):=λty=>by
  have h:=Lib.run_append_grow_zeros w 22 3 ty 3 i0 (.int .i64 0) .i64 .i64 Tryz.underlying22 Tryz.underlying3 hi hz0 K 0 0 [] (run_firstCells_none w.drew i0.size 0 0 0) n h0 V V V (by rw [Dq];omega) (growslice_fits V (by rw [Dq];omega));exact h
 have To:grownCap w (0+n) 0 3<=9223372036854775807:=by
  have:=grownCap_le_maxLen w (0+n) 0 3 (by unfold maxLen;omega);unfold maxLen at this;omega
 obtain ⟨G,hG⟩:∃G,G=grownCap w (0+n) 0 3:=⟨_,rfl⟩;rw [<- hG] at Mr hGn To;have hsz:((#[]:Array Value)++Builtin.zeroCells (.int .i64 0:Value).cells n++Builtin.zeroCells (.int .i64 0:Value).cells (G - (0+n))).size=G * 1:=by
  simp only [Array.size_append,size_zeroCells,Value.cells,List.size_toArray,n9,y4];omega
 obtain ⟨c0,hc0⟩:∃c0,c0=((#[]:Array Value)++Builtin.zeroCells (.int .i64 0:Value).cells n++Builtin.zeroCells (.int .i64 0:Value).cells (G - (0+n))):=⟨_,rfl⟩;rw [<- hc0] at Mr hsz;clear hG hc0 hi hz0 PW Dq
 go_enter Tryz.func279,Tryz.ntmps279
 go_wp2_with (at_builtin;refine Lib.wpList_append_run _ rfl _ _ _ _ rfl _ _ rfl rfl _ _ (Mr _) ?_)
 all_goals (go_ret;exact ⟨G,rfl,c0,rfl,by first|exact hsz|omega⟩)
end Go.Proofs.YtibjocmpkoepoaaGreat
namespace Go.Proofs.YtibjocmpkoepoaaGreat
open Go.z6 Go.Sort Go.Proofs
def Jo (w:World):Calls Tryz.prog 279 #[.slice K 0 0,.int .i64 0] w λe w' =>e= .returned (.slice K 0 0)/\w' =w:=by
 go_wp2
 all_goals (go_ret;simp_all)
theorem QH (prom:FuncId->Bool):cK Tryz.prog prom 226 (rY 2):=FQ (by kernel_rfl) Pz
theorem QJ (prom:FuncId->Bool):cK Tryz.prog prom 279 Ab:=Jp (by kernel_rfl) Jo λn w h0 hn=>(PA n w h0 hn).mono λe w' ⟨cap,c,h1,h2,h3⟩=>⟨cap,c,_,h1,h2,V⟩
theorem QI (prom:FuncId->Bool):cK Tryz.prog prom 263 Ac :=
 Km (by kernel_rfl) (λblk off cap zs w h1 h2 h3=>Any.slices_Sort_int Tryz.lays189 blk off cap zs w h1 h2 h3) (λp cap w=>Any.slices_Sort_int_none Tryz.lays189 p cap w)
theorem FD (prom:FuncId->Bool):cK Tryz.prog prom 134 jm :=
 AS (by kernel_rfl) (λblk off cap zs w h1 h2 h3=>Any.slices_Compact_int Tryz.lays20 blk off cap zs w h1 h2 h3)
def Lu (p:Option Addr)(cap:Nat)(w:World):Calls Tryz.prog 134 #[.slice p 0 cap] w λe w' =>e= .returned (.slice p 0 cap)/\w' =w:=by
 go_wp2
 all_goals (go_ret;simp_all)
theorem QF (prom:FuncId->Bool):cK Tryz.prog prom 134 rX:=by
 refine ⟨by kernel_rfl,λargs H l v H1 hrun w G I N J2 hp h0=>?_⟩;unfold rX at hrun;split at hrun
 .cases hrun
  obtain ⟨x,rfl,hv⟩:=kU hp.args;simp [VR,DR] at hv;have key:∃p cap,x= .slice p 0 cap:=by
   grind
  obtain ⟨p,cap,rfl⟩:=key;refine (Lu p cap w).mono ?_;rintro e w' ⟨rfl,rfl⟩;exact ⟨_,G,I,N,rfl,mX hp (by grind [VR,DR,dx])⟩
 .exact (FD prom).2 _ _ _ _ _ hrun w G I N J2 hp h0
end Go.Proofs.YtibjocmpkoepoaaGreat
namespace Go.Proofs.YtibjocmpkoepoaaGreat
open Go.z6
set_option maxHeartbeats 1000000 in
def SK:oa Tryz.prog A:=aa4 (λf p h=>by
 revert h;unfold A;simp only;split
 .rename_i h;rintro h2;cases h2;subst h;exact QJ _
 .split
  .rename_i h;rintro h2;cases h2;subst h;exact QI _
  .split
   .rename_i h;rintro h2;cases h2;subst h;exact QF _
   .split
    .rename_i h;rintro h2;cases h2;subst h;exact QH _
    .split
     .rename_i h;rintro h2;cases h2;subst h;exact UB _
     .split
      .rename_i h;rintro h2;cases h2;subst h;exact QG _
      .rintro h2;cases h2)
end Go.Proofs.YtibjocmpkoepoaaGreat


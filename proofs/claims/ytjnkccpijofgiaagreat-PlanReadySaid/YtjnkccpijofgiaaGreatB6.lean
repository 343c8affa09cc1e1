/-
  Open runs: the rules in short form, their side conditions closed by default. The results of a region so far are kept latest first.; Functions that the machine takes as one step at the plan's program: slices.Grow of the nil slice, slices.Clone, lineage.sorted of a small set, plan.Heights.; More fuel, the same result: a run of the kernel's is a run with every greater fuel.; Two programs that differ in their primitives alone: where those of the first are calls of the second, its calls are calls of the second.; Open runs: further rules.; Open runs: further rules.; Open runs: further rules.; Open runs: further rules.; Open runs: further rules.; Open runs: further rules.; Open runs: further rules.; Open runs: further rules.; Open runs: calls that are shown objects; maps.; Open runs: slices in cells of objects.; Open runs: function values that are shown objects.; Open runs: a region that draws its order and makes one object.; Open runs: a region that draws its order and makes one object: the rules.; Open runs: further rules.; Open runs: elements in a region that draws its order and makes one object.; Open runs: maps made, slices of objects, loops over objects that are not written out.; Open runs: calls whose objects stay.; Open runs: appends to objects, calls of primitives.; Open runs: one step by whichever rule fits.; Open runs: cells of an object from the middle.; Open runs: a region that draws its order and makes some objects.; Open runs: slices over objects, read and written one cell at a time; sums as they wrap.
  (Put together by a small program out of several texts; blanks left out to keep the folder small.)
-/
import Derived.Test.YtjnkccpijofgiaaGreatB5
import Derived.Test.YtjnkccpijofgiaaGreatB4
set_option linter.unusedVariables false
set_option linter.unusedSimpArgs false
namespace Go.Abs
section
variable {A:Prog} {l:Lim} {b:Nat}
variable {dr:Bool} {ais ops:List AIns} {T:List AVal} {H:Heap} {n:Nat} {rl:List AVal} {tch:List Touch} {Q:List AVal→Heap→List AVal→Prop}
theorem Ex.testB {ops:List AIns}{draw:Bool}{c:Opd}{d e:ACode}{T:List AVal}{H:Heap}{Q:AExit→St→Prop}(t:Bool)
  (h:Rn A l b ops draw T H fun T' H' L=>T' =T∧H' =H∧∃ t',rho T' L c= .d (.bool t')∧t' =t)
  (h2:t=true→Ex A l b d ⟨T,H⟩ Q) (h3:t=false→Ex A l b e ⟨T,H⟩ Q):Ex A l b (.test ops draw c d e) ⟨T,H⟩ Q:=by
 obtain ⟨r,N,⟨e1,e2,t',e3,rfl⟩,h⟩:=h
 subst e1
 subst e2
 exact Ex.test ⟨r,N,⟨t',e3,h2,h3⟩,h⟩
theorem Ex.testT {ops:List AIns}{draw:Bool}{c:Opd}{d e:ACode}{T:List AVal}{H:Heap}{Q:AExit→St→Prop}(t:Bool)(T2:List AVal)(H2:Heap)
  (h:Rn A l b ops draw T H fun T' H' L=>T' =T2∧H' =H2∧∃ t',rho T' L c= .d (.bool t')∧t' =t)
  (h2:t=true→Ex A l b d ⟨T2,H2⟩ Q) (h3:t=false→Ex A l b e ⟨T2,H2⟩ Q):Ex A l b (.test ops draw c d e) ⟨T,H⟩ Q:=by
 obtain ⟨r,N,⟨e1,e2,t',e3,rfl⟩,h⟩:=h
 subst e1
 subst e2
 exact Ex.test ⟨r,N,⟨t',e3,h2,h3⟩,h⟩
theorem Ex.regionB {ops:List AIns}{draw:Bool}{T:List AVal}(T2:List AVal){H:Heap}{Q:AExit→St→Prop}
  (h:Rn A l b ops draw T H fun T' H' _=>T' =T2∧H' =H) (h2:Q .normal ⟨T2,H⟩):Ex A l b (.region ops draw) ⟨T,H⟩ Q:=by
 obtain ⟨r,N,⟨e1,e2⟩,h⟩:=h
 subst e1
 subst e2
 exact Ex.region ⟨r,N,h2,h⟩
theorem Ex.nT {c:ACode}{T T2:List AVal}{H:Heap}{Q:AExit→St→Prop}(h:Ex A l b c ⟨T2,H⟩ Q)(hT:T=T2:=by simp only [maskT]<;>rfl):Ex A l b c ⟨T,H⟩ Q:=hT ▸ h
theorem Pf.run {f:FuncId}{af:AFunc}{args:List AVal}{v:AVal}(T:List AVal)(hp:A.prim f=none)(hf:A.fn f=some af)(hn:args.length=af.nparams)
  (hT:args++List.replicate (af.names.length - args.length) .any=T) (h:Ex A lim0 0 af.body ⟨T,[]⟩ fun x s=>∃ w,finRun af 0 (some (x,s))=some (w,[])∧w=v):Pf A f args v :=
 Pf.of_ex T hp hf hn hT (h.mono fun _ _ ⟨_,h1,h2⟩=>h2 ▸ h1)
theorem set_same {α:Type}:∀ {l:List α} {j:Nat} {v:α},l[j]? =some v→l.set j v=l
 |[],_,_,_=>rfl
 |a::l,0,v,h=>by simp at h;simp [h]
 |a::l,j+1,v,h=>by simp at h;simp [set_same h]
theorem Rx.skippedT {pre:List AVal}{op:AOp}{j:Nat}{want:Bool}{u:List Nat}(h:pre[j]? =some (.tuple []))(hk:killing ⟨T,H,pre++ .any::List.replicate ops.length .any,tch⟩ op=false)(ha:op.isAlloc=false)
  (h2:Rx A l b dr ais ops T H (pre++[.tuple []]) tch Q):Rx A l b dr ais (⟨op,none,some (j,want),u⟩::ops) T H pre tch Q:=by
 refine Rx.step (N1:=0) (rs:=[]) hk ha (fun n _=> ?_) (fun rs=>by simp [hitsObj]) h2
 simp only [stepA,wantedA,mid_at h,put,set_mid,toSlotX,toSlot]
instance:Inhabited Trm:=⟨⟨0,0,0,[],0⟩⟩
instance:Inhabited Col:=⟨⟨[],0,[],[],[],0,0⟩⟩
instance:Inhabited Tab:=⟨⟨[],[],0,0⟩⟩
instance:Inhabited Itm:=⟨⟨[],[]⟩⟩
instance:Inhabited Agr:=⟨⟨[],0,[]⟩⟩
instance:Inhabited Vw:=⟨⟨[],0,[],[],[],[],[],false,[]⟩⟩
instance:Inhabited Idx:=⟨⟨[],[],0⟩⟩
instance:Inhabited Skt:=⟨⟨[],[],0,0,0,0⟩⟩
instance:Inhabited Cch:=⟨⟨[],[],0,0⟩⟩
instance:Inhabited Rls:=⟨⟨[],[],0⟩⟩
instance:Inhabited Stm:=⟨⟨[],[]⟩⟩
instance:Inhabited Bkp:=⟨⟨[],[],0⟩⟩
@[irreducible] def nth {α:Type} [Inhabited α] (l:List α) (i:Nat):α:=l[i]?.getD default
theorem nth_eq {α:Type} [Inhabited α] {l:List α}{i:Nat}(h:i<l.length):nth l i=l[i]:=by simp [nth,h]
theorem nth_zero {α:Type} [Inhabited α] (a:α)(l:List α):nth (a::l) 0=a:=by simp [nth]
theorem nth_succ {α:Type} [Inhabited α] (a:α)(l:List α)(i:Nat):nth (a::l) (i+1)=nth l i:=by simp [nth]
theorem nth_mem {α:Type} [Inhabited α] {l:List α}{i:Nat}(h:i<l.length):nth l i ∈ l:=by rw [nth_eq h];exact List.getElem_mem h
theorem drop_nth {α:Type} [Inhabited α] {l:List α}{i:Nat}(h:i<l.length):l.drop i=nth l i::l.drop (i+1):=by rw [nth_eq h];exact List.drop_eq_getElem_cons h
theorem take_nth {α:Type} [Inhabited α] {l:List α}{i:Nat}(h:i<l.length):l.take (i+1)=l.take i++[nth l i]:=by rw [nth_eq h,List.take_append_getElem]
theorem take_drop_nth {α:Type} [Inhabited α] {l:List α}{i j:Nat}(h:j<i)(hi:i≤l.length):(l.take i).drop j=nth l j::(l.take i).drop (j+1):=by
 rw [drop_nth (by simp;omega),nth_eq (by simp;omega),nth_eq (by omega)]
 simp
@[irreducible] def ltB (a b:Int):Bool:=decide (a<b)
@[irreducible] def leB (a b:Int):Bool:=decide (a≤b)
@[irreducible] def eqB (a b:Int):Bool:=a==b
@[irreducible] def seB (a b:List UInt8):Bool:=a==b
theorem ltB_eq (a b:Int):ltB a b=decide (a<b):=by unfold ltB;rfl
theorem leB_eq (a b:Int):leB a b=decide (a≤b):=by unfold leB;rfl
theorem eqB_eq (a b:Int):eqB a b=(a==b):=by unfold eqB;rfl
theorem seB_eq (a b:List UInt8):seB a b=(a==b):=by unfold seB;rfl
theorem ltB_t {a b:Int}(h:ltB a b=true):a<b:=by simpa [ltB_eq] using h
theorem ltB_f {a b:Int}(h:ltB a b=false):b≤a:=by simpa [ltB_eq] using h
theorem leB_t {a b:Int}(h:leB a b=true):a≤b:=by simpa [leB_eq] using h
theorem leB_f {a b:Int}(h:leB a b=false):b<a:=by simpa [leB_eq] using h
theorem eqB_t {a b:Int}(h:eqB a b=true):a=b:=by simpa [eqB_eq] using h
theorem eqB_f {a b:Int}(h:eqB a b=false):a≠b:=by simpa [eqB_eq] using h
theorem seB_t {a b:List UInt8}(h:seB a b=true):a=b:=by simpa [seB_eq] using h
theorem seB_f {a b:List UInt8}(h:seB a b=false):a≠b:=by simpa [seB_eq] using h
def withinB (n a b:Int):Bool:=leB a n&&leB n b
def Ry (A:Prog)(l:Lim)(b:Nat)(dr:Bool)(ais ops:List AIns)(T:List AVal)(H:Heap)(n:Nat)(rl:List AVal)(tch:List Touch)(Q:List AVal→Heap→List AVal→Prop):Prop :=
 rl.length=n→Rx A l b dr ais ops T H rl.reverse tch Q
def lk (n:Nat)(rl:List AVal)(j:Nat):Option AVal:=match Nat.ble (j+1) n with
 |true=>rl[n - (j+1)]?
 |false=>none
theorem lk_rev (hn:rl.length=n)(j:Nat):rl.reverse[j]? =lk n rl j:=by
 subst hn
 unfold lk
 split
 ·rename_i h
  have h1:j+1≤rl.length:=Nat.le_of_ble_eq_true h
  rw [List.getElem?_reverse (by omega)]
  congr 1
  omega
 ·rename_i h
  have h1:¬ j+1≤rl.length:=fun h2=>by rw [Nat.ble_eq_true_of_le h2] at h;cases h
  rw [List.getElem?_eq_none (by simp;omega)]
def opw (T:List AVal)(n:Nat)(rl:List AVal):Opd→Option AVal
 | .slot s=>T[s]?
 | .loc j=>lk n rl j
 | .const v=>some v
def Oq (T:List AVal)(n:Nat)(rl:List AVal)(x:Opd)(v:AVal):Prop:=opw T n rl x=some v∧v.asD=v
theorem Oq.op {x:Opd}{v:AVal}(h:Oq T n rl x v)(hn:rl.length=n):Op T rl.reverse x v:=by
 obtain ⟨h1,h2⟩:=h
 refine ⟨?_,h2⟩
 cases x with
 |slot s=>exact h1
 |loc j=>simp only [opv,lk_rev hn];exact h1
 |const u=>exact h1
def rq (T:List AVal)(n:Nat)(rl:List AVal):Opd→AVal
 | .const v=>v.cst
 |x=>((opw T n rl x).getD .any).asD
theorem Oq.rq {x:Opd}{v:AVal}(h:Oq T n rl x v):Abs.rq T n rl x=v:=by
 obtain ⟨h1,h2⟩:=h
 cases x with
 |const u=>simp only [opw,Option.some.injEq] at h1;subst h1;simp [Abs.rq,cst_of h2]
 |_=>simp [Abs.rq,h1,h2]
theorem rq_rho (hn:rl.length=n)(m:Nat)(x:Opd):Abs.rho T (rl.reverse++ .any::List.replicate m .any) x=rq T n rl x:=by
 cases x with
 |slot s=>simp [Abs.rho,rq,opw]
 |const v=>simp [Abs.rho,rq,opw]
 |loc j =>
  simp only [Abs.rho,rq,opw,← lk_rev hn,List.getD_eq_getElem?_getD]
  rcases Nat.lt_or_ge j rl.reverse.length with h|h
  ·rw [List.getElem?_append_left h]
  ·rw [List.getElem?_append_right h,List.getElem?_eq_none h]
   congr 1
   cases hk:j - rl.reverse.length with
   |zero=>rfl
   |succ k =>
    simp only [List.getElem?_cons_succ,List.getElem?_replicate]
    split<;>rfl
theorem Ry.to {v:AVal}(h:Ry A l b dr ais ops T H (n+1) (v::rl) tch Q)(hn:rl.length=n):Rx A l b dr ais ops T H (rl.reverse++[v]) tch Q:=by
 have:=h (by simp [hn])
 simpa using this
theorem Rn.text {T:List AVal}{H:Heap}(h:Ry A l b false ops ops T H 0 [] [] Q):Rn A l b ops false T H Q:=Rn.of_text (h rfl)
theorem Rn.draw {T:List AVal}{H:Heap}(h:Ry A l b true ops ops T H 0 [] [] Q)(hp:drawsPlain ops=true:=by rfl):Rn A l b ops true T H Q:=Rn.of_draw hp (h rfl)
theorem Ry.pure {op:AOp}{u:List Nat}{v:AVal}{rs:List Nat}(hE:op.isEff=false)(hp:pureOp (rq T n rl) H op=some (v,rs))
  (h2:Ry A l b dr ais ops T H (n+1) (v::rl) tch Q):Ry A l b dr ais (⟨op,none,none,u⟩::ops) T H n rl tch Q:=fun hn=>by
 refine Rx.pure (rs:=rs) hE (fun m=> ?_) (h2.to hn)
 rw [show Abs.rho T (rl.reverse++ .any::List.replicate m .any)=rq T n rl from funext fun x=>rq_rho hn m x]
 exact hp
theorem Ry.pureTo {op:AOp}{u:List Nat}{v:AVal}{rs:List Nat}{s:Nat}(hE:op.isEff=false)(hp:pureOp (rq T n rl) H op=some (v,rs))(hv:v.asD=v)(hm:op.isAlloc=false)(hs:T[s]?.isSome=true)
  (h2:Ry A l b dr ais ops (T.set s v) H (n+1) (v::rl) (.slot s::tch) Q):Ry A l b dr ais (⟨op,some s,none,u⟩::ops) T H n rl tch Q:=fun hn=>by
 have hs:s<T.length:=by
  rcases Nat.lt_or_ge s T.length with h|h
  ·exact h
  ·rw [List.getElem?_eq_none h] at hs;cases hs
 have hmv:∀ x,op≠ .mov x:=by
  rintro x rfl
  simp [pureOp] at hp
 refine Rx.step (N1:=0) (rs:=rs) ?_ hm (fun m _=> ?_) (slot_hits s tch) (h2.to hn)
 ·cases op<;>first|rfl|(simp [AOp.isEff] at hE)
 ·have h3:stepW (EnvN A m l b) ais none rl.reverse.length op ⟨T,H,rl.reverse++ .any::List.replicate ops.length .any,tch⟩=some (⟨T,H,rl.reverse++v::List.replicate ops.length .any,tch⟩,rs):=by
   have h4:pureOp (Abs.rho T (rl.reverse++ .any::List.replicate ops.length .any)) H op=some (v,rs):=by
    rw [show Abs.rho T (rl.reverse++ .any::List.replicate ops.length .any)=rq T n rl from funext fun x=>rq_rho hn _ x]
    exact hp
   cases op<;>first
    |exact absurd rfl (hmv _)
    |(simp only [stepW,hE,Bool.false_eq_true,if_false,h4,put,set_mid];done)
    |(simp [AOp.isEff] at hE;done)
  have h5:Abs.xfer ⟨T,H,rl.reverse++v::List.replicate ops.length .any,tch⟩ (.loc rl.reverse.length)=(v,⟨T,H,rl.reverse++v::List.replicate ops.length .any,tch⟩):=by
   simp only [Abs.xfer,List.getElem?_append_right (Nat.le_refl _),Nat.sub_self,List.getElem?_cons_zero]
   split
   ·rename_i heq
    cases heq
    simp [AVal.asD] at hv
   ·rename_i heq
    cases heq
    simp [AVal.asD] at hv
   ·simp [Abs.rho,hv]
  simp only [stepA,wantedA,h3,toSlotX,toSlot,hs,if_true,h5]
theorem Ry.fork {j:Nat}{w:Bool}(h:lk n rl j=some (.d (.bool w)))(hj:Nat.ble (j+1) n=true)(h1:w=true→Ry A l b dr ais ops T H n (rl.set (n - (j+1)) (.d (.bool true))) tch Q)
  (h2:w=false→Ry A l b dr ais ops T H n (rl.set (n - (j+1)) (.d (.bool false))) tch Q):Ry A l b dr ais ops T H n rl tch Q:=by
 simp only [lk,hj] at h
 cases w with
 |true=>have:=h1 rfl;rwa [set_same h] at this
 |false=>have:=h2 rfl;rwa [set_same h] at this
theorem cmp_i {o:BinOp}{k:IntKind}{c d:Int}{t:Bool}(h:isShift o=false)(h2:binInt o k c d=some (.bool t)):binData o (.int k c) (.int k d)=some (.bool t):=by
 simp [binData,h,h2]
theorem take_flat {α:Type}{enc:α→List Data}{sz:Nat}(hs:∀ a,(enc a).length=sz):∀ (l:List α) (i:Nat),(l.flatMap enc).take (i * sz)=(l.take i).flatMap enc
 |[],i=>by simp
 |a::l,0=>by simp
 |a::l,i+1=>by
  have h1:=take_flat hs l i
  simp only [List.flatMap_cons,List.take_succ_cons]
  rw [List.take_append,hs a,Nat.succ_mul,Nat.add_sub_cancel,h1]
  rw [List.take_of_length_le (by rw [hs a];omega)]
theorem flat_len {α:Type}{enc:α→List Data}{sz:Nat}(hs:∀ a,(enc a).length=sz):∀ (l:List α),(l.flatMap enc).length=l.length * sz
 |[]=>by simp
 |a::l=>by simp [hs a,flat_len hs l,Nat.succ_mul,Nat.add_comm]
theorem drop_flat {α:Type}{enc:α→List Data}{sz:Nat}(hs:∀ a,(enc a).length=sz):∀ (l:List α) (i:Nat),(l.flatMap enc).drop (i * sz)=(l.drop i).flatMap enc
 |[],i=>by simp
 |a::l,0=>by simp
 |a::l,i+1=>by
  have h1:=drop_flat hs l i
  simp only [List.flatMap_cons,List.drop_succ_cons]
  rw [List.drop_append,hs a,Nat.succ_mul,Nat.add_sub_cancel,h1]
  rw [List.drop_eq_nil_of_le (by rw [hs a];omega)]
  rfl
theorem sliceV_enc {α:Type}{enc:α→List Data}{sz:Nat}(hs:∀ a,(enc a).length=sz)(l:List α)(lo hi:Nat)(h1:lo≤hi)(h2:hi≤l.length) :
  Data.slice ((hi:Int) - lo).toNat (((l.flatMap enc).take (hi * sz)).drop (lo * sz))=encL enc ((l.take hi).drop lo):=by
 rw [take_flat hs,drop_flat hs,encL]
 congr 1
 simp
 omega
def ownL {α:Type}(sz:Nat)(enc:α→List Data)(xs:List α):AVal:= .own sz xs.length (xs.flatMap enc)
theorem rev_set {j:Nat}(hn:rl.length=n)(hb:Nat.ble (j+1) n=true)(v:AVal):rl.reverse.set j v=(rl.set (n - (j+1)) v).reverse:=by
 have hb' :j+1≤rl.length:=by rw [hn];exact Nat.le_of_ble_eq_true hb
 apply List.ext_getElem?
 intro i
 rcases Nat.lt_or_ge i rl.length with hi|hi
 ·have e1:(rl.set (n - (j+1)) v).reverse[i]? =(rl.set (n - (j+1)) v)[(rl.set (n - (j+1)) v).length - 1 - i]? :=List.getElem?_reverse (by simp;omega)
  have e2:rl.reverse[i]? =rl[rl.length - 1 - i]? :=List.getElem?_reverse (by omega)
  rw [List.getElem?_set,e2,e1,List.getElem?_set]
  simp only [List.length_reverse,List.length_set]
  subst hn
  by_cases hji:j=i
  ·subst hji
   rw [if_pos rfl,if_pos (by omega),if_pos (by omega),if_pos (by omega)]
  ·rw [if_neg hji,if_neg (by omega)]
 ·rw [List.getElem?_eq_none (by simp;omega),List.getElem?_eq_none (by simp;omega)]
theorem Rx.appendL {pre:List AVal}{j sz bytes:Nat}{y:Opd}{u:List Nat}{len m:Nat}{cells new:List Data}{vy:AVal}{cs:List AVal}
  (hj:pre[j]? =some (.own sz len cells)) (hy:∀ m,Abs.rho T (pre++ .any::List.replicate m .any) y=vy) (hc:sliceCells H sz vy=some (m,cs)) (hd:datas? cs=some new) (hr:roomFor (len+m) bytes=true) (h0:0<sz)
  (h2:Rx A l b dr ais ops T H (pre.set j (.d (.slice len cells))++[.own sz (len+m) (cells++new)]) tch Q):Rx A l b dr ais (⟨.append sz bytes false (.loc j) y,none,none,u⟩::ops) T H pre tch Q:=by
 have hjl:j<pre.length:=by
  rcases Nat.lt_or_ge j pre.length with hj' |hj'
  ·exact hj'
  ·rw [List.getElem?_eq_none hj'] at hj;cases hj
 have hL:∀ r:List AVal,(pre++ .any::r)[j]? =some (.own sz len cells):=fun r=>by rw [List.getElem?_append_left hjl,hj]
 have hrho:Abs.rho T (pre++ .any::List.replicate ops.length .any) (.loc j)= .d (.slice len cells):=by simp [Abs.rho,hL,AVal.asD]
 have hl:(pre.set j (.d (.slice len cells))).length=pre.length:=by simp
 have h3:∀ (a:AVal) (r:List AVal),(pre++a::r).set j (.d (.slice len cells))=pre.set j (.d (.slice len cells))++a::r:=fun a r=>List.set_append_left _ _ hjl
 have h4:∀ (a v:AVal) (r:List AVal),(pre.set j (.d (.slice len cells))++a::r).set pre.length v=pre.set j (.d (.slice len cells))++v::r:=fun a v r=>by rw [← hl];exact set_mid _ _ _ _
 refine Rx.stepG (N1:=0) (rs:=[]) hl (by simp only [killing,hrho]) rfl (fun n _=> ?_) (fun rs=>by simp [hitsObj]) h2
 simp only [stepA,wantedA,stepW,AOp.isEff,if_true,effOp,hrho,appendOwn,hy,hc,hd,Bool.false_eq_true,if_false,takeOwn,hL,hr,h0,and_self,put,h3,h4,toSlotX,toSlot]
theorem datas_map:∀ l:List Data,datas? (l.map .d)=some l
 |[]=>rfl
 |a::l=>by simp [datas?,AVal.data?,datas_map l]
theorem Ry.appS {j s sz bytes:Nat}{y:Opd}{u u' :List Nat}{d' :Option Nat}{g' :Option (Nat×Bool)}{n' len m:Nat}{cs' cells new:List Data}
  (hj:lk n rl j=some (.d (.slice n' cs'))) (ha:ais[j]? =some ⟨.mov (.slot s),d',g',u'⟩) (ht:tch.any (Touch.slotHit s)=false) (hT:T[s]? =some (.own sz len cells))
  (hy:rq T n rl y= .d (.slice m new)) (hl:new.length=m * sz) (hr:roomFor (len+m) bytes=true) (h0:0<sz)
  (h2:Ry A l b dr ais ops (T.set s (.d (.slice len cells))) H (n+1) (.own sz (len+m) (cells++new)::rl) (.slot s::tch) Q):Ry A l b dr ais (⟨.append sz bytes false (.loc j) y,none,none,u⟩::ops) T H n rl tch Q:=fun hn =>
 Rx.append (vy:= .d (.slice m new)) (by rw [lk_rev hn];exact hj) ha ht hT (fun k=>by rw [rq_rho hn];exact hy) (by simp only [sliceCells,hl,if_true]) (datas_map new) hr h0 (h2.to hn)
theorem Ry.appL {j sz bytes:Nat}{y:Opd}{u:List Nat}{len m:Nat}{cells new:List Data}(hj:lk n rl j=some (.own sz len cells))(hb:Nat.ble (j+1) n=true)
  (hy:rq T n rl y= .d (.slice m new)) (hl:new.length=m * sz) (hr:roomFor (len+m) bytes=true) (h0:0<sz)
  (h2:Ry A l b dr ais ops T H (n+1) (.own sz (len+m) (cells++new)::rl.set (n - (j+1)) (.d (.slice len cells))) tch Q):Ry A l b dr ais (⟨.append sz bytes false (.loc j) y,none,none,u⟩::ops) T H n rl tch Q:=fun hn=>by
 refine Rx.appendL (vy:= .d (.slice m new)) (by rw [lk_rev hn];exact hj) (fun k=>by rw [rq_rho hn];exact hy) (by simp only [sliceCells,hl,if_true]) (datas_map new) hr h0 ?_
 have h3:=h2.to (by simp [hn])
 rw [rev_set hn hb]
 exact h3
namespace S
theorem nl (h:Q T H rl.reverse):Ry A l b dr ais [] T H n rl tch Q:=fun _=>Rx.nil h
theorem mv {x:Opd}{v:AVal}{u:List Nat}(h2:Ry A l b dr ais ops T H (n+1) (v::rl) tch Q)(hx:Oq T n rl x (v):=by exact ⟨rfl,rfl⟩) :
  Ry A l b dr ais (⟨.mov x,none,none,u⟩::ops) T H n rl tch Q:=fun hn=>Rx.mov (hx.op hn) (h2.to hn)
theorem mt {x:Opd}{v:AVal}{s:Nat}{T2:List AVal}{u:List Nat}(hx:Oq T n rl x (v):=by exact ⟨rfl,rfl⟩)(hs:T[s]?.isSome=true:=by rfl)(hT:T.set s v=T2:=by simp only [List.set_cons_zero,List.set_cons_succ]<;>rfl)(h2:Ry A l b dr ais ops T2 H (n+1) (v::rl) (.slot s::tch) Q) :
  Ry A l b dr ais (⟨.mov x,some s,none,u⟩::ops) T H n rl tch Q:=fun hn=>Rx.movTo (hx.op hn) hs (by rw [hT];exact h2.to hn)
theorem mo {s z n0:Nat}{cs:List Data}{u:List Nat}(h2:Ry A l b dr ais ops T H (n+1) (.d (.slice n0 cs)::rl) tch Q)(hx:T[s]? =some (.own z n0 cs):=by rfl) :
  Ry A l b dr ais (⟨.mov (.slot s),none,none,u⟩::ops) T H n rl tch Q:=fun hn=>Rx.movOwn hx (h2.to hn)
theorem mw {j s z n0:Nat}{cs:List Data}{u:List Nat}{T2:List AVal}(hj:lk n rl j=some (.own z n0 cs):=by rfl)(hb:Nat.ble (j+1) n=true:=by rfl)(hs:T[s]?.isSome=true:=by rfl)(hT:T.set s (.own z n0 cs)=T2:=by simp only [List.set_cons_zero,List.set_cons_succ]<;>rfl)
  (h2:Ry A l b dr ais ops T2 H (n+1) (.d (.slice n0 cs)::rl.set (n - (j+1)) (.d (.slice n0 cs))) (.slot s::tch) Q):Ry A l b dr ais (⟨.mov (.loc j),some s,none,u⟩::ops) T H n rl tch Q:=fun hn=>by
 refine Rx.movOwnTo (by rw [lk_rev hn];exact hj) hs ?_
 have h3:=h2.to (by simp [hn])
 rw [hT,rev_set hn hb]
 exact h3
theorem ow {s z n0:Nat}{cs:List Data}{T2:List AVal}{u:List Nat}(hs:T[s]?.isSome=true:=by rfl)(hT:T.set s (.own z n0 cs)=T2:=by simp only [List.set_cons_zero,List.set_cons_succ]<;>rfl)(h2:Ry A l b dr ais ops T2 H (n+1) (.d (.slice n0 cs)::rl) (.slot s::tch) Q) :
  Ry A l b dr ais (⟨.mov (.const (.own z n0 cs)),some s,none,u⟩::ops) T H n rl tch Q:=fun hn=>Rx.ownTo hs (by rw [hT];exact h2.to hn)
theorem ad {x y:Opd}{c d:Int}{u:List Nat}(h2:Ry A l b dr ais ops T H (n+1) (.d (.int .i64 (c+d))::rl) tch Q)(hx:rq T n rl x= .d (.int .i64 c):=by rfl)(hy:rq T n rl y= .d (.int .i64 d):=by rfl)(h0: -9223372036854775808≤c+d∧c+d<9223372036854775808:=by first|omega|(simp only [withinB,Bool.and_eq_true,ltB_eq,leB_eq,eqB_eq,beq_eq_false_iff_ne,beq_iff_eq,decide_eq_true_eq,decide_eq_false_iff_not,Bool.not_eq_true',Bool.not_eq_false'] at *;omega)) :
  Ry A l b dr ais (⟨.bin .add x y,none,none,u⟩::ops) T H n rl tch Q:=Ry.pure (rs:=[]) rfl (by simp only [pureOp,hx,hy,bin_i64 (Or.inl ⟨rfl,rfl⟩) h0.1 h0.2]) h2
theorem sb {x y:Opd}{c d:Int}{u:List Nat}(h2:Ry A l b dr ais ops T H (n+1) (.d (.int .i64 (c - d))::rl) tch Q)(hx:rq T n rl x= .d (.int .i64 c):=by rfl)(hy:rq T n rl y= .d (.int .i64 d):=by rfl)(h0: -9223372036854775808≤c - d∧c - d<9223372036854775808:=by first|omega|(simp only [withinB,Bool.and_eq_true,ltB_eq,leB_eq,eqB_eq,beq_eq_false_iff_ne,beq_iff_eq,decide_eq_true_eq,decide_eq_false_iff_not,Bool.not_eq_true',Bool.not_eq_false'] at *;omega)) :
  Ry A l b dr ais (⟨.bin .sub x y,none,none,u⟩::ops) T H n rl tch Q:=Ry.pure (rs:=[]) rfl (by simp only [pureOp,hx,hy,bin_i64 (Or.inr ⟨rfl,rfl⟩) h0.1 h0.2]) h2
theorem li {x y:Opd}{k:IntKind}{c d:Int}{u:List Nat}(h2:Ry A l b dr ais ops T H (n+1) (.d (.bool (ltB c d))::rl) tch Q)(hx:rq T n rl x= .d (.int k c):=by rfl)(hy:rq T n rl y= .d (.int k d):=by rfl) :
  Ry A l b dr ais (⟨.bin .lss x y,none,none,u⟩::ops) T H n rl tch Q:=Ry.pure (rs:=[]) rfl (by simp [pureOp,hx,hy,binData,isShift,binInt,ltB_eq,leB_eq,eqB_eq,bne]) h2
theorem lo {x y:Opd}{k:IntKind}{c d:Int}{u:List Nat}(h2:Ry A l b dr ais ops T H (n+1) (.d (.bool (leB c d))::rl) tch Q)(hx:rq T n rl x= .d (.int k c):=by rfl)(hy:rq T n rl y= .d (.int k d):=by rfl) :
  Ry A l b dr ais (⟨.bin .leq x y,none,none,u⟩::ops) T H n rl tch Q:=Ry.pure (rs:=[]) rfl (by simp [pureOp,hx,hy,binData,isShift,binInt,ltB_eq,leB_eq,eqB_eq,bne]) h2
theorem gi {x y:Opd}{k:IntKind}{c d:Int}{u:List Nat}(h2:Ry A l b dr ais ops T H (n+1) (.d (.bool (ltB d c))::rl) tch Q)(hx:rq T n rl x= .d (.int k c):=by rfl)(hy:rq T n rl y= .d (.int k d):=by rfl) :
  Ry A l b dr ais (⟨.bin .gtr x y,none,none,u⟩::ops) T H n rl tch Q:=Ry.pure (rs:=[]) rfl (by simp [pureOp,hx,hy,binData,isShift,binInt,ltB_eq,leB_eq,eqB_eq,bne]) h2
theorem go {x y:Opd}{k:IntKind}{c d:Int}{u:List Nat}(h2:Ry A l b dr ais ops T H (n+1) (.d (.bool (leB d c))::rl) tch Q)(hx:rq T n rl x= .d (.int k c):=by rfl)(hy:rq T n rl y= .d (.int k d):=by rfl) :
  Ry A l b dr ais (⟨.bin .geq x y,none,none,u⟩::ops) T H n rl tch Q:=Ry.pure (rs:=[]) rfl (by simp [pureOp,hx,hy,binData,isShift,binInt,ltB_eq,leB_eq,eqB_eq,bne]) h2
theorem ei {x y:Opd}{k:IntKind}{c d:Int}{u:List Nat}(h2:Ry A l b dr ais ops T H (n+1) (.d (.bool (eqB c d))::rl) tch Q)(hx:rq T n rl x= .d (.int k c):=by rfl)(hy:rq T n rl y= .d (.int k d):=by rfl) :
  Ry A l b dr ais (⟨.bin .eql x y,none,none,u⟩::ops) T H n rl tch Q:=Ry.pure (rs:=[]) rfl (by simp [pureOp,hx,hy,binData,isShift,binInt,ltB_eq,leB_eq,eqB_eq,bne]) h2
theorem ni {x y:Opd}{k:IntKind}{c d:Int}{u:List Nat}(h2:Ry A l b dr ais ops T H (n+1) (.d (.bool (!eqB c d))::rl) tch Q)(hx:rq T n rl x= .d (.int k c):=by rfl)(hy:rq T n rl y= .d (.int k d):=by rfl) :
  Ry A l b dr ais (⟨.bin .neq x y,none,none,u⟩::ops) T H n rl tch Q:=Ry.pure (rs:=[]) rfl (by simp [pureOp,hx,hy,binData,isShift,binInt,ltB_eq,leB_eq,eqB_eq,bne]) h2
theorem es {x y:Opd}{c d:List UInt8}{u:List Nat}(h2:Ry A l b dr ais ops T H (n+1) (.d (.bool (seB c d))::rl) tch Q)(hx:rq T n rl x= .d (.str c):=by rfl)(hy:rq T n rl y= .d (.str d):=by rfl) :
  Ry A l b dr ais (⟨.bin .eql x y,none,none,u⟩::ops) T H n rl tch Q:=Ry.pure (rs:=[]) rfl (by simp [pureOp,hx,hy,binData,binStr,seB_eq]) h2
theorem ns {x y:Opd}{c d:List UInt8}{u:List Nat}(h2:Ry A l b dr ais ops T H (n+1) (.d (.bool (!seB c d))::rl) tch Q)(hx:rq T n rl x= .d (.str c):=by rfl)(hy:rq T n rl y= .d (.str d):=by rfl) :
  Ry A l b dr ais (⟨.bin .neq x y,none,none,u⟩::ops) T H n rl tch Q:=Ry.pure (rs:=[]) rfl (by simp [pureOp,hx,hy,binData,binStr,seB_eq]) h2
theorem ng {x:Opd}{t:Bool}{u:List Nat}(h2:Ry A l b dr ais ops T H (n+1) (.d (.bool (!t))::rl) tch Q)(hx:rq T n rl x= .d (.bool t):=by rfl) :
  Ry A l b dr ais (⟨.un .not x,none,none,u⟩::ops) T H n rl tch Q:=Ry.pure (rs:=[]) rfl (by simp only [pureOp,hx,unData]) h2
theorem ln {α:Type}{enc:α→List Data}{xs:List α}{x:Opd}{u:List Nat}(h2:Ry A l b dr ais ops T H (n+1) (.d (.int .i64 (xs.length:Int))::rl) tch Q)(hx:rq T n rl x= .d (encL enc xs):=by rfl) :
  Ry A l b dr ais (⟨.len x,none,none,u⟩::ops) T H n rl tch Q:=Ry.pure (rs:=[]) rfl (by simp only [pureOp,hx,encL,i64]) h2
theorem ls {x:Opd}{m:Nat}{cs:List Data}{u:List Nat}(h2:Ry A l b dr ais ops T H (n+1) (.d (.int .i64 (m:Int))::rl) tch Q)(hx:rq T n rl x= .d (.slice m cs):=by rfl) :
  Ry A l b dr ais (⟨.len x,none,none,u⟩::ops) T H n rl tch Q:=Ry.pure (rs:=[]) rfl (by simp only [pureOp,hx,i64]) h2
theorem lnT {α:Type}{enc:α→List Data}{xs:List α}{x:Opd}{s:Nat}{T2:List AVal}{u:List Nat}(hx:rq T n rl x= .d (encL enc xs):=by rfl)(hs:T[s]?.isSome=true:=by rfl)(hT:T.set s (.d (.int .i64 (xs.length:Int)))=T2:=by simp only [List.set_cons_zero,List.set_cons_succ]<;>rfl)(h2:Ry A l b dr ais ops T2 H (n+1) (.d (.int .i64 (xs.length:Int))::rl) (.slot s::tch) Q) :
  Ry A l b dr ais (⟨.len x,some s,none,u⟩::ops) T H n rl tch Q:=Ry.pureTo (v:= .d (.int .i64 (xs.length:Int))) (rs:=[]) rfl (by simp only [pureOp,hx,encL,i64]) rfl rfl hs (by rw [hT];exact h2)
theorem lsT {m:Nat}{cs:List Data}{x:Opd}{s:Nat}{T2:List AVal}{u:List Nat}(hx:rq T n rl x= .d (.slice m cs):=by rfl)(hs:T[s]?.isSome=true:=by rfl)(hT:T.set s (.d (.int .i64 (m:Int)))=T2:=by simp only [List.set_cons_zero,List.set_cons_succ]<;>rfl)(h2:Ry A l b dr ais ops T2 H (n+1) (.d (.int .i64 (m:Int))::rl) (.slot s::tch) Q) :
  Ry A l b dr ais (⟨.len x,some s,none,u⟩::ops) T H n rl tch Q:=Ry.pureTo (v:= .d (.int .i64 (m:Int))) (rs:=[]) rfl (by simp only [pureOp,hx,i64]) rfl rfl hs (by rw [hT];exact h2)
theorem ldT {c:Data}{cs:List Data}{x:Opd}{s:Nat}{T2:List AVal}{u:List Nat}(hx:rq T n rl x= .iptr (c::cs):=by rfl)(hs:T[s]?.isSome=true:=by rfl)(hT:T.set s (.d c)=T2:=by simp only [List.set_cons_zero,List.set_cons_succ]<;>rfl)(h2:Ry A l b dr ais ops T2 H (n+1) (.d c::rl) (.slot s::tch) Q) :
  Ry A l b dr ais (⟨.load none x,some s,none,u⟩::ops) T H n rl tch Q:=Ry.pureTo (v:= .d c) (rs:=[]) rfl (by simp only [pureOp,hx]) rfl rfl hs (by rw [hT];exact h2)
theorem lpT {v:AVal}{id o:Nat}{x:Opd}{s:Nat}{T2:List AVal}{u:List Nat}(hx:rq T n rl x= .ptr id o:=by rfl)(hr:rd H id o 1=some [v]:=by rfl)(hv:v.asD=v:=by rfl)(hs:T[s]?.isSome=true:=by rfl)(hT:T.set s v=T2:=by simp only [List.set_cons_zero,List.set_cons_succ]<;>rfl)(h2:Ry A l b dr ais ops T2 H (n+1) (v::rl) (.slot s::tch) Q) :
  Ry A l b dr ais (⟨.load none x,some s,none,u⟩::ops) T H n rl tch Q:=Ry.pureTo (v:=v) (rs:=[id]) rfl (by simp only [pureOp,hx,hr,hv]) hv rfl hs (by rw [hT];exact h2)
theorem lt {x:Opd}{s:List UInt8}{u:List Nat}(h2:Ry A l b dr ais ops T H (n+1) (.d (.int .i64 (s.length:Int))::rl) tch Q)(hx:rq T n rl x= .d (.str s):=by rfl) :
  Ry A l b dr ais (⟨.lenT x,none,none,u⟩::ops) T H n rl tch Q:=Ry.pure (rs:=[]) rfl (by simp only [pureOp,hx,i64]) h2
theorem ix {α:Type} [Inhabited α] {enc:α→List Data}{xs:List α}{sz i:Nat}{x y:Opd}{k:IntKind}{u:List Nat}(hx:rq T n rl x= .d (encL enc xs):=by rfl)(hy:rq T n rl y= .d (.int k ((i:Nat):Int)):=by rfl)(hs:∀ a,(enc a).length=sz:=by intro;rfl)(hi:i<xs.length:=by first|omega|(simp only [withinB,Bool.and_eq_true,ltB_eq,leB_eq,eqB_eq,beq_eq_false_iff_ne,beq_iff_eq,decide_eq_true_eq,decide_eq_false_iff_not,Bool.not_eq_true',Bool.not_eq_false'] at *;omega))(h2:Ry A l b dr ais ops T H (n+1) (.iptr (enc (nth xs i)++(xs.drop (i+1)).flatMap enc)::rl) tch Q) :
  Ry A l b dr ais (⟨.idxA sz x y,none,none,u⟩::ops) T H n rl tch Q:=Ry.pure (rs:=[]) rfl (by
  have h1:(i:Int)<xs.length:=by omega
  have h3:=enc_drop hs xs i hi
  rw [← nth_eq hi] at h3
  simp only [pureOp,hx,hy,encL,Int.natCast_nonneg,h1,and_self,if_true,h3]) h2
theorem ixN {α:Type} [Inhabited α] {enc:α→List Data}{xs:List α}{sz i:Nat}{x y:Opd}{k:IntKind}{u:List Nat}(hx:rq T n rl x= .d (encL enc xs):=by rfl)(hy:rq T n rl y= .d (.int k (OfNat.ofNat i)):=by rfl)(hs:∀ a,(enc a).length=sz:=by intro;rfl)(hi:i<xs.length:=by first|omega|(simp only [withinB,Bool.and_eq_true,ltB_eq,leB_eq,eqB_eq,beq_eq_false_iff_ne,beq_iff_eq,decide_eq_true_eq,decide_eq_false_iff_not,Bool.not_eq_true',Bool.not_eq_false'] at *;omega))(h2:Ry A l b dr ais ops T H (n+1) (.iptr (enc (nth xs i)++(xs.drop (i+1)).flatMap enc)::rl) tch Q) :
  Ry A l b dr ais (⟨.idxA sz x y,none,none,u⟩::ops) T H n rl tch Q:=ix hx hy hs hi h2
theorem ixI {α:Type} [Inhabited α] {enc:α→List Data}{xs:List α}{sz:Nat}{e:Int}{x y:Opd}{k:IntKind}{u:List Nat}(i:Nat)(he:e=i:=by first|omega|(simp only [withinB,Bool.and_eq_true,ltB_eq,leB_eq,eqB_eq,beq_eq_false_iff_ne,beq_iff_eq,decide_eq_true_eq,decide_eq_false_iff_not,Bool.not_eq_true',Bool.not_eq_false'] at *;omega))(hx:rq T n rl x= .d (encL enc xs):=by rfl)(hy:rq T n rl y= .d (.int k e):=by rfl)(hs:∀ a,(enc a).length=sz:=by intro;rfl)(hi:i<xs.length:=by first|omega|(simp only [withinB,Bool.and_eq_true,ltB_eq,leB_eq,eqB_eq,beq_eq_false_iff_ne,beq_iff_eq,decide_eq_true_eq,decide_eq_false_iff_not,Bool.not_eq_true',Bool.not_eq_false'] at *;omega))(h2:Ry A l b dr ais ops T H (n+1) (.iptr (enc (nth xs i)++(xs.drop (i+1)).flatMap enc)::rl) tch Q) :
  Ry A l b dr ais (⟨.idxA sz x y,none,none,u⟩::ops) T H n rl tch Q:=ix hx (he ▸ hy) hs hi h2
theorem ixZ {α:Type} [Inhabited α] {enc:α→List Data}{xs:List α}{sz:Nat}{e:Int}{x y:Opd}{k:IntKind}{u:List Nat}(hx:rq T n rl x= .d (encL enc xs):=by rfl)(hy:rq T n rl y= .d (.int k e):=by rfl)(hs:∀ a,(enc a).length=sz:=by intro;rfl)(hi:0≤e∧e<xs.length:=by first|omega|(simp only [withinB,Bool.and_eq_true,ltB_eq,leB_eq,eqB_eq,beq_eq_false_iff_ne,beq_iff_eq,decide_eq_true_eq,decide_eq_false_iff_not,Bool.not_eq_true',Bool.not_eq_false'] at *;omega))(h2:Ry A l b dr ais ops T H (n+1) (.iptr (enc (nth xs e.toNat)++(xs.drop (e.toNat+1)).flatMap enc)::rl) tch Q) :
  Ry A l b dr ais (⟨.idxA sz x y,none,none,u⟩::ops) T H n rl tch Q:=ix hx (by rw [hy,Int.toNat_of_nonneg hi.1]) hs (by omega) h2
theorem ld {x:Opd}{c:Data}{cs:List Data}{u:List Nat}(h2:Ry A l b dr ais ops T H (n+1) (.d c::rl) tch Q)(hx:rq T n rl x= .iptr (c::cs):=by rfl) :
  Ry A l b dr ais (⟨.load none x,none,none,u⟩::ops) T H n rl tch Q:=Ry.pure (rs:=[]) rfl (by simp only [pureOp,hx]) h2
theorem le {x:Opd}{cs rest:List Data}{m:Nat}{u:List Nat}(h2:Ry A l b dr ais ops T H (n+1) (.agg (cs.map .d)::rl) tch Q)(hx:rq T n rl x= .iptr (cs++rest):=by rfl)(hm:cs.length=m:=by rfl) :
  Ry A l b dr ais (⟨.load (some m) x,none,none,u⟩::ops) T H n rl tch Q:=Ry.pure (rs:=[]) rfl (by subst hm;simp [pureOp,hx]) h2
theorem lf {x:Opd}{k:Nat}{cs:List Data}{u:List Nat}(h2:Ry A l b dr ais ops T H (n+1) (.iptr (cs.drop k)::rl) tch Q)(hx:rq T n rl x= .iptr cs:=by rfl) :
  Ry A l b dr ais (⟨.off k x,none,none,u⟩::ops) T H n rl tch Q:=Ry.pure (rs:=[]) rfl (by simp only [pureOp,hx]) h2
theorem fp {x:Opd}{k id o:Nat}{u:List Nat}(h2:Ry A l b dr ais ops T H (n+1) (.ptr id (o+k)::rl) tch Q)(hx:rq T n rl x= .ptr id o:=by rfl) :
  Ry A l b dr ais (⟨.off k x,none,none,u⟩::ops) T H n rl tch Q:=Ry.pure (rs:=[]) rfl (by simp only [pureOp,hx]) h2
theorem lp {x:Opd}{id o:Nat}{v:AVal}{u:List Nat}(h2:Ry A l b dr ais ops T H (n+1) (v::rl) tch Q)(hx:rq T n rl x= .ptr id o:=by rfl)(hr:rd H id o 1=some [v]:=by rfl)(hv:v.asD=v:=by rfl) :
  Ry A l b dr ais (⟨.load none x,none,none,u⟩::ops) T H n rl tch Q:=Ry.pure (rs:=[id]) rfl (by simp only [pureOp,hx,hr,hv]) h2
theorem lpo {x:Opd}{id o z m:Nat}{cs:List Data}{u:List Nat}(h2:Ry A l b dr ais ops T H (n+1) (.d (.slice m cs)::rl) tch Q)(hx:rq T n rl x= .ptr id o:=by rfl)(hr:rd H id o 1=some [.own z m cs]:=by rfl) :
  Ry A l b dr ais (⟨.load none x,none,none,u⟩::ops) T H n rl tch Q:=Ry.pure (rs:=[id]) rfl (by simp only [pureOp,hx,hr,AVal.asD]) h2
theorem lq {x:Opd}{m id:Nat}{cs:List AVal}{u:List Nat}(h2:Ry A l b dr ais ops T H (n+1) (.agg cs::rl) tch Q)(hx:rq T n rl x= .ptr id 0:=by rfl)(hr:H[id]? =some (.cells cs):=by rfl)(hm:cs.length=m:=by rfl)(hv:cs.map AVal.asD=cs:=by rfl) :
  Ry A l b dr ais (⟨.load (some m) x,none,none,u⟩::ops) T H n rl tch Q:=Ry.pure (rs:=[id]) rfl (by subst hm;simp [pureOp,hx,rd,hr,hv]) h2
theorem et {x:Opd}{i:Nat}{vs:List AVal}{v:AVal}{u:List Nat}(h2:Ry A l b dr ais ops T H (n+1) (v::rl) tch Q)(hx:rq T n rl x= .tuple vs:=by rfl)(hv:vs[i]? =some v:=by rfl) :
  Ry A l b dr ais (⟨.extract x i,none,none,u⟩::ops) T H n rl tch Q:=Ry.pure (rs:=[]) rfl (by simp only [pureOp,hx,hv]) h2
theorem wa {op:AOp}{dst:Option Nat}{j:Nat}{want:Bool}{u:List Nat}(h2:Ry A l b dr ais (⟨op,dst,none,u⟩::ops) T H n rl tch Q)(h:lk n rl j=some (.d (.bool want)):=by rfl) :
  Ry A l b dr ais (⟨op,dst,some (j,want),u⟩::ops) T H n rl tch Q:=fun hn=>Rx.wanted (by rw [lk_rev hn];exact h) (by simp) (h2 hn)
theorem sk {op:AOp}{j:Nat}{want:Bool}{u:List Nat}(h2:Ry A l b dr ais ops T H (n+1) (.tuple []::rl) tch Q)(h:lk n rl j=some (.d (.bool (!want))):=by rfl)(hk:∀ L,killing ⟨T,H,L,tch⟩ op=false:=by intro;rfl)(ha:op.isAlloc=false:=by rfl) :
  Ry A l b dr ais (⟨op,none,some (j,want),u⟩::ops) T H n rl tch Q:=fun hn=>Rx.skipped (by rw [lk_rev hn];exact h) (by cases want<;>rfl) (hk _) ha (h2.to hn)
theorem st {op:AOp}{j:Nat}{want:Bool}{u:List Nat}(h2:Ry A l b dr ais ops T H (n+1) (.tuple []::rl) tch Q)(h:lk n rl j=some (.tuple []):=by rfl)(hk:∀ L,killing ⟨T,H,L,tch⟩ op=false:=by intro;rfl)(ha:op.isAlloc=false:=by rfl) :
  Ry A l b dr ais (⟨op,none,some (j,want),u⟩::ops) T H n rl tch Q:=fun hn=>Rx.skippedT (by rw [lk_rev hn];exact h) (hk _) ha (h2.to hn)
theorem fk {op:AOp}{dst:Option Nat}{j:Nat}{want w:Bool}{r1 r2:List AVal}{u:List Nat}(h:lk n rl j=some (.d (.bool w)):=by rfl)(hj:Nat.ble (j+1) n=true:=by rfl)(ht:rl.set (n - (j+1)) (.d (.bool true))=r1:=by simp only [Nat.reduceAdd,Nat.reduceSub,List.set_cons_zero,List.set_cons_succ]<;>rfl)(hf:rl.set (n - (j+1)) (.d (.bool false))=r2:=by simp only [Nat.reduceAdd,Nat.reduceSub,List.set_cons_zero,List.set_cons_succ]<;>rfl)(h1:w=true→Ry A l b dr ais (⟨op,dst,some (j,want),u⟩::ops) T H n r1 tch Q)(h2:w=false→Ry A l b dr ais (⟨op,dst,some (j,want),u⟩::ops) T H n r2 tch Q) :
  Ry A l b dr ais (⟨op,dst,some (j,want),u⟩::ops) T H n rl tch Q:=Ry.fork h hj (fun e=>by rw [ht];exact h1 e) (fun e=>by rw [hf];exact h2 e)
theorem fpk {j:Nat}{x y:Opd}{w:Bool}{r1 r2:List AVal}{u:List Nat}(h:lk n rl j=some (.d (.bool w)):=by rfl)(hj:Nat.ble (j+1) n=true:=by rfl)(ht:rl.set (n - (j+1)) (.d (.bool true))=r1:=by simp only [Nat.reduceAdd,Nat.reduceSub,List.set_cons_zero,List.set_cons_succ]<;>rfl)(hf:rl.set (n - (j+1)) (.d (.bool false))=r2:=by simp only [Nat.reduceAdd,Nat.reduceSub,List.set_cons_zero,List.set_cons_succ]<;>rfl)(h1:w=true→Ry A l b dr ais (⟨.pick (.loc j) x y,none,none,u⟩::ops) T H n r1 tch Q)(h2:w=false→Ry A l b dr ais (⟨.pick (.loc j) x y,none,none,u⟩::ops) T H n r2 tch Q) :
  Ry A l b dr ais (⟨.pick (.loc j) x y,none,none,u⟩::ops) T H n rl tch Q:=Ry.fork h hj (fun e=>by rw [ht];exact h1 e) (fun e=>by rw [hf];exact h2 e)
theorem pt {c x y:Opd}{v:AVal}{u:List Nat}(h2:Ry A l b dr ais ops T H (n+1) (v::rl) tch Q)(hc:rq T n rl c= .d (.bool true):=by rfl)(hx:Oq T n rl x (v):=by exact ⟨rfl,rfl⟩) :
  Ry A l b dr ais (⟨.pick c x y,none,none,u⟩::ops) T H n rl tch Q:=Ry.pure (rs:=[]) rfl (by simp [pureOp,hc,hx.rq]) h2
theorem pk {c x y:Opd}{v:AVal}{u:List Nat}(h2:Ry A l b dr ais ops T H (n+1) (v::rl) tch Q)(hc:rq T n rl c= .d (.bool false):=by rfl)(hy:Oq T n rl y (v):=by exact ⟨rfl,rfl⟩) :
  Ry A l b dr ais (⟨.pick c x y,none,none,u⟩::ops) T H n rl tch Q:=Ry.pure (rs:=[]) rfl (by simp [pureOp,hc,hy.rq]) h2
theorem bx {x:Opd}{u:List Nat}{v:AVal}{cs:List AVal}{s id:Nat}{T2:List AVal}{H2:Heap}(hx:Oq T n rl x v:=by exact ⟨rfl,rfl⟩)(hc:v.cells? =some cs:=by rfl)(hs:T[s]?.isSome=true:=by rfl)
  (hi:H.length=id:=by simp only [List.length_cons,List.length_nil,Nat.reduceAdd]<;>rfl) (hT:T.set s (.ptr id 0)=T2:=by simp only [List.set_cons_zero,List.set_cons_succ]<;>rfl) (hH:H++[.cells cs]=H2:=by simp only [List.cons_append,List.nil_append]<;>rfl)
  (h2:Ry A l b false ais ops T2 H2 (n+1) (.ptr id 0::rl) (.slot s::tch) Q):Ry A l b false ais (⟨.box x,some s,none,u⟩::ops) T H n rl tch Q:=fun hn=>by
 subst hi
 exact Rx.boxTo (hx.op hn) hc hs (by rw [hT,hH];exact h2.to hn)
theorem ac {zero:List AVal}{u:List Nat}{s id:Nat}{T2:List AVal}{H2:Heap}(hs:T[s]?.isSome=true:=by rfl)
  (hi:H.length=id:=by simp only [List.length_cons,List.length_nil,Nat.reduceAdd]<;>rfl) (hT:T.set s (.ptr id 0)=T2:=by simp only [List.set_cons_zero,List.set_cons_succ]<;>rfl) (hH:H++[.cells zero]=H2:=by simp only [List.cons_append,List.nil_append]<;>rfl)
  (h2:Ry A l b false ais ops T2 H2 (n+1) (.ptr id 0::rl) (.slot s::tch) Q):Ry A l b false ais (⟨.alloc zero,some s,none,u⟩::ops) T H n rl tch Q:=fun hn=>by
 subst hi
 have hs:s<T.length:=by
  rcases Nat.lt_or_ge s T.length with h|h
  ·exact h
  ·rw [List.getElem?_eq_none h] at hs;cases hs
 have h2:=h2.to hn
 rw [← hT,← hH] at h2
 refine Rx.stepT (N1:=0) (rs:=[]) rfl (fun n _=> ?_) h2
 have h3:∀ r:List AVal,(rl.reverse++ .ptr H.length 0::r)[rl.reverse.length]? =some (.ptr H.length 0):=fun r=>by simp
 simp only [stepA,wantedA,stepW,AOp.isEff,if_true,effOp,newObjA,newId,Option.getD_none,put,set_mid,toSlotX,toSlot,hs,Abs.xfer,h3]
 simp [Abs.rho,AVal.asD]
theorem store_any {m id off:Nat}{x y:Opd}{u:List Nat}{v:AVal}{cs:List AVal}{H2:Heap}(hy:rq T n rl y= .ptr id off)(hx:Oq T n rl x v)(hc:v.cells? =some cs)(hm:cs.length=m)(hl:l.may id=true)(hb:bndL cs≤id+1)
  (hw:wr H id off cs=some H2) (h2:Ry A l b false ais ops T H2 (n+1) (.any::rl) (.obj id::tch) Q):Ry A l b false ais (⟨.store m y x,none,none,u⟩::ops) T H n rl tch Q:=fun hn=>by
 refine Rx.stepT (N1:=0) (rs:=[]) rfl (fun k _=> ?_) (h2.to hn)
 have hl' :(EnvN A k l b).lim.may id=true:=hl
 simp only [stepA,wantedA,stepW,AOp.isEff,if_true,effOp,rq_rho hn,hy,storeEff,(hx.op hn).xfer,hc,hm,hl',hb,true_or,and_self,hw,put,set_mid,toSlotX,toSlot]
theorem so {m id:Nat}{x y:Opd}{u:List Nat}{v:AVal}{cs old:List AVal}{H2:Heap}(hy:rq T n rl y= .ptr id 0:=by rfl)(hx:Oq T n rl x v:=by exact ⟨rfl,rfl⟩)(hc:v.cells? =some cs:=by rfl)(hm:cs.length=m:=by rfl)(hl:l.may id=true:=by rfl)(hb:bndL cs=0:=by rfl)
  (ho:H[id]? =some (.cells old):=by rfl) (hq:old.length=m:=by rfl) (hH:H.set id (.cells cs)=H2:=by simp only [List.set_cons_zero,List.set_cons_succ]<;>rfl)
  (h2:Ry A l b false ais ops T H2 (n+1) (.any::rl) (.obj id::tch) Q):Ry A l b false ais (⟨.store m y x,none,none,u⟩::ops) T H n rl tch Q :=
 store_any hy hx hc hm hl (by omega) (by simp [wr,ho,hm,hq,splice,← hH];rw [List.drop_of_length_le (by omega)];simp) h2
theorem store_draw {m id off:Nat}{x y:Opd}{u:List Nat}{v:AVal}{cs:List AVal}{H2:Heap}(hd:Nat.ble (bndU ais) n=true)(hy:rq T n rl y= .ptr id off)(hx:Oq T n rl x v)(hc:v.cells? =some cs)(hm:cs.length=m)(hl:l.may id=true)(hb:bndL cs≤id+1)
  (hw:wr H id off cs=some H2) (h2:Ry A l b dr ais ops T H2 (n+1) (.any::rl) (.obj id::tch) Q):Ry A l b dr ais (⟨.store m y x,none,none,u⟩::ops) T H n rl tch Q:=fun hn=>by
 refine Rx.stepH (N1:=0) (rs:=[]) rfl rfl rfl (fun k _=> ?_) (fun h=> ?_) (h2.to hn)
 ·have hl' :(EnvN A k l b).lim.may id=true:=hl
  simp only [stepA,wantedA,stepW,AOp.isEff,if_true,effOp,rq_rho hn,hy,storeEff,(hx.op hn).xfer,hc,hm,hl',hb,true_or,and_self,hw,put,set_mid,toSlotX,toSlot]
 ·have:=Nat.le_of_ble_eq_true hd
  simp [hn] at h
  omega
theorem so1 {id off:Nat}{x y:Opd}{u:List Nat}{v:AVal}{old new:List AVal}{H2:Heap}(hy:rq T n rl y= .ptr id off:=by rfl)(hx:Oq T n rl x v:=by exact ⟨rfl,rfl⟩)(hc:v.cells? =some [v]:=by rfl)(hl:l.may id=true:=by rfl)(hb:v.bnd≤id+1:=by decide)
  (ho:H[id]? =some (.cells old):=by rfl) (hq:off<old.length:=by decide) (hN:old.set off v=new:=by first|(simp only [List.set_cons_zero,List.set_cons_succ];done)|rfl) (hH:H.set id (.cells new)=H2:=by simp only [List.set_cons_zero,List.set_cons_succ]<;>rfl)
  (h2:Ry A l b false ais ops T H2 (n+1) (.any::rl) (.obj id::tch) Q):Ry A l b false ais (⟨.store 1 y x,none,none,u⟩::ops) T H n rl tch Q :=
 store_any hy hx hc rfl hl (by simpa [bndL] using hb) (by
  have h1:splice old off [v]=old.set off v:=by
   simp only [splice,List.length_singleton]
   rw [List.set_eq_take_append_cons_drop,if_pos hq]
   simp
  simp only [wr,ho,List.length_singleton,h1,hN,hH]
  rw [if_pos (by omega)]) h2
theorem o1 {x:Opd}{z c:Data}{u:List Nat}(h2:Ry A l b dr ais ops T H (n+1) (.own 1 1 [c]::rl) tch Q)(hx:rq T n rl x= .d c:=by rfl) :
  Ry A l b dr ais (⟨.bslice 1 1 [.d z] [(0,1,x)] false,none,none,u⟩::ops) T H n rl tch Q:=Ry.pure (rs:=[]) rfl (by simp [pureOp,fillA,hx,AVal.cells?,splice,datas?,AVal.data?,AVal.one]) h2
theorem ap1 {α:Type}{enc:α→List Data}{xs:List α}{j s bytes n' :Nat}{y:Opd}{u' :List Nat}{d' :Option Nat}{g' :Option (Nat×Bool)}{cs' :List Data}{T2:List AVal}{a:α}{c:Data}{u:List Nat}(hj:lk n rl j=some (.d (.slice n' cs')):=by rfl)(ha:ais[j]? =some ⟨.mov (.slot s),d',g',u'⟩:=by rfl)(ht:tch.any (Touch.slotHit s)=false:=by rfl)(hT:T[s]? =some (ownL 1 enc xs):=by rfl)(hy:rq T n rl y= .d (.slice 1 [c]):=by rfl)(he:enc a=[c]:=by rfl)(hr:roomFor (xs.length+1) bytes=true:=by simp only [roomFor,decide_eq_true_eq,List.length_append,List.length_cons,List.length_nil,List.length_take,List.length_drop,List.length_map] at * <;>omega)(hS:T.set s (.d (encL enc xs))=T2:=by simp only [List.set_cons_zero,List.set_cons_succ]<;>rfl)(h2:Ry A l b dr ais ops T2 H (n+1) (ownL 1 enc (xs++[a])::rl) (.slot s::tch) Q) :
  Ry A l b dr ais (⟨.append 1 bytes false (.loc j) y,none,none,u⟩::ops) T H n rl tch Q:=Ry.appS hj ha ht hT hy rfl hr (by decide) (by
  have e1:ownL 1 enc (xs++[a])= .own 1 (xs.length+1) (xs.flatMap enc++[c]):=by simp [ownL,he]
  rw [e1] at h2
  rw [show (AVal.d (.slice xs.length (xs.flatMap enc)))= .d (encL enc xs) from rfl,hS]
  exact h2)
theorem apN {α:Type}{enc:α→List Data}{xs:List α}{j s sz bytes n' :Nat}{y:Opd}{u' :List Nat}{d' :Option Nat}{g' :Option (Nat×Bool)}{cs' :List Data}{T2:List AVal}{ys:List α}{u:List Nat}(hj:lk n rl j=some (.d (.slice n' cs')):=by rfl)(ha:ais[j]? =some ⟨.mov (.slot s),d',g',u'⟩:=by rfl)(ht:tch.any (Touch.slotHit s)=false:=by rfl)(hT:T[s]? =some (ownL sz enc xs):=by rfl)(hy:rq T n rl y= .d (encL enc ys):=by rfl)(hs:∀ a,(enc a).length=sz:=by intro;rfl)(h0:0<sz:=by decide)(hr:roomFor (xs.length+ys.length) bytes=true:=by simp only [roomFor,decide_eq_true_eq,List.length_append,List.length_cons,List.length_nil,List.length_take,List.length_drop,List.length_map] at * <;>omega)(hS:T.set s (.d (encL enc xs))=T2:=by simp only [List.set_cons_zero,List.set_cons_succ]<;>rfl)(h2:Ry A l b dr ais ops T2 H (n+1) (ownL sz enc (xs++ys)::rl) (.slot s::tch) Q) :
  Ry A l b dr ais (⟨.append sz bytes false (.loc j) y,none,none,u⟩::ops) T H n rl tch Q:=Ry.appS hj ha ht hT hy (flat_len hs ys) hr h0 (by
  have e1:ownL sz enc (xs++ys)= .own sz (xs.length+ys.length) (xs.flatMap enc++ys.flatMap enc):=by simp [ownL]
  rw [e1] at h2
  rw [show (AVal.d (.slice xs.length (xs.flatMap enc)))= .d (encL enc xs) from rfl,hS]
  exact h2)
theorem al1 {α:Type}{enc:α→List Data}{xs:List α}{j bytes:Nat}{y:Opd}{r2:List AVal}{a:α}{c:Data}{u:List Nat}(hj:lk n rl j=some (ownL 1 enc xs):=by rfl)(hb:Nat.ble (j+1) n=true:=by rfl)(hy:rq T n rl y= .d (.slice 1 [c]):=by rfl)(he:enc a=[c]:=by rfl)(hr:roomFor (xs.length+1) bytes=true:=by simp only [roomFor,decide_eq_true_eq,List.length_append,List.length_cons,List.length_nil,List.length_take,List.length_drop,List.length_map] at * <;>omega)(hS:rl.set (n - (j+1)) (.d (encL enc xs))=r2:=by simp only [Nat.reduceAdd,Nat.reduceSub,List.set_cons_zero,List.set_cons_succ]<;>rfl)(h2:Ry A l b dr ais ops T H (n+1) (ownL 1 enc (xs++[a])::r2) tch Q) :
  Ry A l b dr ais (⟨.append 1 bytes false (.loc j) y,none,none,u⟩::ops) T H n rl tch Q:=Ry.appL hj hb hy rfl hr (by decide) (by
  have e1:ownL 1 enc (xs++[a])= .own 1 (xs.length+1) (xs.flatMap enc++[c]):=by simp [ownL,he]
  rw [e1] at h2
  rw [show (AVal.d (.slice xs.length (xs.flatMap enc)))= .d (encL enc xs) from rfl,hS]
  exact h2)
theorem alN {α:Type}{enc:α→List Data}{xs:List α}{j sz bytes:Nat}{y:Opd}{r2:List AVal}{ys:List α}{u:List Nat}(hj:lk n rl j=some (ownL sz enc xs):=by rfl)(hb:Nat.ble (j+1) n=true:=by rfl)(hy:rq T n rl y= .d (encL enc ys):=by rfl)(hs:∀ a,(enc a).length=sz:=by intro;rfl)(h0:0<sz:=by decide)(hr:roomFor (xs.length+ys.length) bytes=true:=by simp only [roomFor,decide_eq_true_eq,List.length_append,List.length_cons,List.length_nil,List.length_take,List.length_drop,List.length_map] at * <;>omega)(hS:rl.set (n - (j+1)) (.d (encL enc xs))=r2:=by simp only [Nat.reduceAdd,Nat.reduceSub,List.set_cons_zero,List.set_cons_succ]<;>rfl)(h2:Ry A l b dr ais ops T H (n+1) (ownL sz enc (xs++ys)::r2) tch Q) :
  Ry A l b dr ais (⟨.append sz bytes false (.loc j) y,none,none,u⟩::ops) T H n rl tch Q:=Ry.appL hj hb hy (flat_len hs ys) hr h0 (by
  have e1:ownL sz enc (xs++ys)= .own sz (xs.length+ys.length) (xs.flatMap enc++ys.flatMap enc):=by simp [ownL]
  rw [e1] at h2
  rw [show (AVal.d (.slice xs.length (xs.flatMap enc)))= .d (encL enc xs) from rfl,hS]
  exact h2)
theorem e0 {u:List Nat}(h2:Ry A l b dr ais ops T H (n+1) (.own 1 0 []::rl) tch Q) :
  Ry A l b dr ais (⟨.bslice 1 0 [] [] false,none,none,u⟩::ops) T H n rl tch Q:=Ry.pure (rs:=[]) rfl (by simp [pureOp,fillA,datas?]) h2
theorem cl {f:FuncId}{xs:List Opd}{u:List Nat}{v:AVal}{args:List AVal}(hc:Pf A f args v)(h2:Ry A l b dr ais ops T H (n+1) (v::rl) tch Q)(ha:xs.map (rq T n rl)=args:=by rfl)(hpr:A.prom f=false:=by rfl)(hm:A.mode f=1:=by rfl)
  (hb:bndL args=0:=by rfl):Ry A l b dr ais (⟨.call f xs,none,none,u⟩::ops) T H n rl tch Q:=fun hn =>
 Rx.call hpr hm (fun m=>by rw [show Abs.rho T (rl.reverse++ .any::List.replicate m .any)=rq T n rl from funext fun x=>rq_rho hn m x];exact ha) hb hc (h2.to hn)
theorem bdl {zero:List AVal}{parts:List (Nat×Nat×Opd)}{cs:List AVal}{u:List Nat}(h2:Ry A l b dr ais ops T H (n+1) (.agg cs::rl) tch Q)(hr:fillA zero (parts.map fun p=>(p.1,p.2.1,rq T n rl p.2.2))=some cs:=by rfl) :
  Ry A l b dr ais (⟨.build zero parts,none,none,u⟩::ops) T H n rl tch Q:=Ry.pure (rs:=[]) rfl (by simp only [pureOp,hr]) h2
theorem xs {s:List UInt8}{i:Nat}{x y:Opd}{k:IntKind}{u:List Nat}(hx:rq T n rl x= .d (.str s):=by rfl)(hy:rq T n rl y= .d (.int k ((i:Nat):Int)):=by rfl)(hi:i<s.length:=by first|omega|(simp only [withinB,Bool.and_eq_true,ltB_eq,leB_eq,eqB_eq,beq_eq_false_iff_ne,beq_iff_eq,decide_eq_true_eq,decide_eq_false_iff_not,Bool.not_eq_true',Bool.not_eq_false'] at *;omega))(h2:Ry A l b dr ais ops T H (n+1) (.d (.int .u8 ((nth s i).toNat:Int))::rl) tch Q) :
  Ry A l b dr ais (⟨.idxS x y,none,none,u⟩::ops) T H n rl tch Q:=Ry.pure (rs:=[]) rfl (by simp [pureOp,hx,hy,List.getElem?_eq_getElem hi,nth_eq hi]) h2
theorem xsN {s:List UInt8}{i:Nat}{x y:Opd}{k:IntKind}{u:List Nat}(hx:rq T n rl x= .d (.str s):=by rfl)(hy:rq T n rl y= .d (.int k (OfNat.ofNat i)):=by rfl)(hi:i<s.length:=by first|omega|(simp only [withinB,Bool.and_eq_true,ltB_eq,leB_eq,eqB_eq,beq_eq_false_iff_ne,beq_iff_eq,decide_eq_true_eq,decide_eq_false_iff_not,Bool.not_eq_true',Bool.not_eq_false'] at *;omega))(h2:Ry A l b dr ais ops T H (n+1) (.d (.int .u8 ((nth s i).toNat:Int))::rl) tch Q) :
  Ry A l b dr ais (⟨.idxS x y,none,none,u⟩::ops) T H n rl tch Q:=xs hx hy hi h2
theorem qs {neg t:Bool}{ks:List CK}{x y:Opd}{va vb:List AVal}{u:List Nat}(h2:Ry A l b dr ais ops T H (n+1) (.d (.bool (neg != t))::rl) tch Q)(hx:rq T n rl x= .agg va:=by rfl)(hy:rq T n rl y= .agg vb:=by rfl)(hr:cellsEq ks va vb=some t:=by rfl) :
  Ry A l b dr ais (⟨.eqS neg ks x y,none,none,u⟩::ops) T H n rl tch Q:=Ry.pure (rs:=[]) rfl (by simp only [pureOp,hx,hy,hr]) h2
theorem qb {neg s t:Bool}{x y:Opd}{u:List Nat}(h2:Ry A l b dr ais ops T H (n+1) (.d (.bool (neg != (s==t)))::rl) tch Q)(hx:rq T n rl x= .d (.bool s):=by rfl)(hy:rq T n rl y= .d (.bool t):=by rfl) :
  Ry A l b dr ais (⟨.eqB neg x y,none,none,u⟩::ops) T H n rl tch Q:=Ry.pure (rs:=[]) rfl (by simp only [pureOp,hx,hy]) h2
theorem mm {isMax:Bool}{xs:List Opd}{c d:Data}{r:List AVal}{u:List Nat}(h2:Ry A l b dr ais ops T H (n+1) (.d d::rl) tch Q)(ha:xs.map (rq T n rl)= .d c::r:=by rfl)(hr:minmaxL isMax c r=some d:=by rfl) :
  Ry A l b dr ais (⟨.minmax isMax xs,none,none,u⟩::ops) T H n rl tch Q:=Ry.pure (rs:=[]) rfl (by simp only [pureOp,ha,hr]) h2
theorem ip {m sz i:Nat}{x y:Opd}{k:IntKind}{cs:List Data}{u:List Nat}(h2:Ry A l b dr ais ops T H (n+1) (.iptr (cs.drop (i * sz))::rl) tch Q)(hx:rq T n rl x= .iptr cs:=by rfl)(hy:rq T n rl y= .d (.int k ((i:Nat):Int)):=by rfl)(hi:i<m:=by omega) :
  Ry A l b dr ais (⟨.idxP m sz x y,none,none,u⟩::ops) T H n rl tch Q:=Ry.pure (rs:=[]) rfl (by
  have h1:(i:Int)<m:=by omega
  simp [pureOp,hx,hy,h1]) h2
theorem ipN {m sz i:Nat}{x y:Opd}{k:IntKind}{cs:List Data}{u:List Nat}(h2:Ry A l b dr ais ops T H (n+1) (.iptr (cs.drop (i * sz))::rl) tch Q)(hx:rq T n rl x= .iptr cs:=by rfl)(hy:rq T n rl y= .d (.int k (OfNat.ofNat i)):=by rfl)(hi:i<m:=by omega) :
  Ry A l b dr ais (⟨.idxP m sz x y,none,none,u⟩::ops) T H n rl tch Q:=ip h2 hx hy hi
theorem svh {α:Type} [Inhabited α] {enc:α→List Data}{xs:List α}{sz i:Nat}{x y:Opd}{k:IntKind}{u:List Nat}(hx:rq T n rl x= .d (encL enc xs):=by rfl)(hy:rq T n rl y= .d (.int k ((i:Nat):Int)):=by rfl)(hs:∀ a,(enc a).length=sz:=by intro;rfl)(hi:i≤xs.length:=by first|omega|(simp only [withinB,Bool.and_eq_true,ltB_eq,leB_eq,eqB_eq,beq_eq_false_iff_ne,beq_iff_eq,decide_eq_true_eq,decide_eq_false_iff_not,Bool.not_eq_true',Bool.not_eq_false'] at *;omega))(h2:Ry A l b dr ais ops T H (n+1) (.d (encL enc (xs.take i))::rl) tch Q) :
  Ry A l b dr ais (⟨.sliceV sz x none (some y),none,none,u⟩::ops) T H n rl tch Q:=Ry.pure (rs:=[]) rfl (by
  have h1:=sliceV_enc hs xs 0 i (Nat.zero_le _) hi
  have h3:(xs.flatMap enc).length=xs.length * sz:=flat_len hs xs
  simp at h1
  have hx' :=hx
  simp only [encL] at hx' h1
  have h4:(i:Int)≤xs.length:=by omega
  simp [pureOp,hx',hy,bound?,encL,h3,h1,h4]) h2
theorem svl {α:Type} [Inhabited α] {enc:α→List Data}{xs:List α}{sz i:Nat}{x y:Opd}{k:IntKind}{u:List Nat}(hx:rq T n rl x= .d (encL enc xs):=by rfl)(hy:rq T n rl y= .d (.int k ((i:Nat):Int)):=by rfl)(hs:∀ a,(enc a).length=sz:=by intro;rfl)(hi:i≤xs.length:=by first|omega|(simp only [withinB,Bool.and_eq_true,ltB_eq,leB_eq,eqB_eq,beq_eq_false_iff_ne,beq_iff_eq,decide_eq_true_eq,decide_eq_false_iff_not,Bool.not_eq_true',Bool.not_eq_false'] at *;omega))(h2:Ry A l b dr ais ops T H (n+1) (.d (encL enc (xs.drop i))::rl) tch Q) :
  Ry A l b dr ais (⟨.sliceV sz x (some y) none,none,none,u⟩::ops) T H n rl tch Q:=Ry.pure (rs:=[]) rfl (by
  have h3:(xs.flatMap enc).length=xs.length * sz:=flat_len hs xs
  have h5:((xs.flatMap enc).take (xs.length * sz)).drop (i * sz)=(xs.drop i).flatMap enc:=by rw [List.take_of_length_le (by omega),drop_flat hs]
  have hx' :=hx
  simp only [encL] at hx'
  have h4:(i:Int)≤xs.length:=by omega
  have h6:((xs.length:Int) - i).toNat=xs.length - i:=by omega
  simp [pureOp,hx',hy,bound?,encL,h3,h5,h4,h6]) h2
theorem svb {α:Type} [Inhabited α] {enc:α→List Data}{xs:List α}{sz i j:Nat}{x y z:Opd}{k k' :IntKind}{u:List Nat}(hx:rq T n rl x= .d (encL enc xs):=by rfl)(hy:rq T n rl y= .d (.int k ((i:Nat):Int)):=by rfl)(hz:rq T n rl z=(.d (.int k' ((j:Nat):Int))):=by rfl)(hs:∀ a,(enc a).length=sz:=by intro;rfl)(hij:i≤j∧j≤xs.length:=by first|omega|(simp only [withinB,Bool.and_eq_true,ltB_eq,leB_eq,eqB_eq,beq_eq_false_iff_ne,beq_iff_eq,decide_eq_true_eq,decide_eq_false_iff_not,Bool.not_eq_true',Bool.not_eq_false'] at *;omega))(h2:Ry A l b dr ais ops T H (n+1) (.d (encL enc ((xs.take j).drop i))::rl) tch Q) :
  Ry A l b dr ais (⟨.sliceV sz x (some y) (some z),none,none,u⟩::ops) T H n rl tch Q:=Ry.pure (rs:=[]) rfl (by
  have h1:=sliceV_enc hs xs i j hij.1 hij.2
  have h3:(xs.flatMap enc).length=xs.length * sz:=flat_len hs xs
  have hx' :=hx
  simp only [encL] at hx' h1
  have h4:(j:Int)≤xs.length:=by omega
  have h5:(i:Int)≤j:=by omega
  simp only [pureOp,hx',hy,hz,bound?,encL,h3,h4,h5,Int.natCast_nonneg,and_self,if_true,Int.toNat_natCast,h1]) h2
end S
end
end Go.Abs
namespace Go.Abs
def pGrowN (z:Nat):List AVal→Heap→Lim→Option (AVal×Heap)
 |[.nils,.d (.int .i64 n)],H,_=>if 0<n∧n≤1000000 then some (.own z 0 [],H) else none
 |_,_,_=>none
def rowOf (z:Nat)(H:Heap):AVal→Option (Nat×List Data)
 | .d (.slice n cs)=>if cs.length=n * z then some (n,cs) else none
 | .sref id z' lo n=>if z' =z then match rd H id lo (n * z) with
   |some vs=>match datas? vs with
    |some cs=>some (n,cs)
    |none=>none
   |none=>none
  else none
 |_=>none
def pClone (z:Nat):List AVal→Heap→Lim→Option (AVal×Heap)
 |[x],H,_=>match rowOf z H x with
  |some (0,_)=>some (.d (.slice 0 []),H)
  |some (n+1,cs)=>if n<1000000 then some (.own z (n+1) cs,H) else none
  |none=>none
 |_,_,_=>none
def keysOf:List (Key×AVal)→Option (List (Int×Int))
 |[]=>some []
 |(.st [.i .i64 a,.i .i64 b],_)::r=>match keysOf r with
  |some l=>some ((a,b)::l)
  |none=>none
 |_=>none
def placesD:List (Int×Int)→List Data
 |[]=>[]
 |(a,b)::r=> .int .i64 a:: .int .i64 b::placesD r
def pSorted (srt:List (Int×Int)→Option (List (Int×Int))):List AVal→Heap→Lim→Option (AVal×Heap)
 |[.map id],H,_=>match H[id]? with
  |some (.map es)=>match keysOf es with
   |some ks=>match srt ks with
    |some s=>some (.own 2 s.length (placesD s),H)
    |none=>none
   |none=>none
  |_=>none
 |_,_,_=>none
structure PStep where
 m:Int
 k:Int
 i:Int
 af:List Int
 dl:Int
 deriving Inhabited
def ints (l:List Int):Data:=encL (fun n=>[num n]) l
def encPS (s:PStep):List Data:=[num s.m,num s.k,num s.i,ints s.af,num s.dl]
def stps (l:List PStep):Data:=encL encPS l
def iOf:List Data→Option (List Int)
 |[]=>some []
 | .int .i64 n::r=>match iOf r with
  |some l=>some (n::l)
  |none=>none
 |_=>none
def stpsOf:List Data→Option (List PStep)
 |[]=>some []
 | .int .i64 m:: .int .i64 k:: .int .i64 i:: .slice n cs:: .int .i64 d::r=>if cs.length=n then match iOf cs with
   |some l=>match stpsOf r with
    |some ls=>some (⟨m,k,i,l,d⟩::ls)
    |none=>none
   |none=>none
  else none
 |_=>none
def hasB (l:List Int)(n:Int):Bool:=l.any fun x=>eqB x n
def filt (f:Nat→Bool):Nat→List Int
 |0=>[]
 |i+1=>if f i then filt f i++[(i:Int)] else filt f i
def openS (st:List PStep)(ds:List Int)(i:Nat):Bool:= !hasB ds i&&(nth st i).af.all fun y=>hasB ds y
def numB (st:List PStep):Bool:=st.all fun s=>s.af.all fun a=> !(ltB a 0||leB st.length a)
def ordTo (st:List PStep):Nat→Option (List Int)
 |0=>some []
 |k+1=>match ordTo st k with
  |some o=>match filt (openS st o) st.length with
   |[]=>none
   |x::_=>some (o++[x])
  |none=>none
def ordR (st:List PStep):Int×List Int:=if numB st then match ordTo st st.length with
  |some o=>(0,o)
  |none=>(105,[])
 else (1,[])
def bumpI (num:Nat)(hs:List Int)(k:Nat):List Int:=hs.set k (if hs[k]?.getD 0<IntKind.i64.wrap (hs[num]?.getD 0+1) then IntKind.i64.wrap (hs[num]?.getD 0+1) else hs[k]?.getD 0)
def bumpL (st:List PStep)(hs:List Int)(n:Int):List Int:=(nth st n.toNat).af.foldl (fun hs k=>bumpI n.toNat hs k.toNat) hs
def heightsI (st:List PStep)(ord:List Int):List Int:=ord.reverse.foldl (bumpL st) (List.replicate st.length 0)
def heightsR (st:List PStep):Int×List Int:=if (ordR st).1=0 then (0,heightsI st (ordR st).2) else ((ordR st).1,[])
def fewS (st:List PStep):Bool:=Nat.ble st.length 20&&st.all fun s=>Nat.ble s.af.length 20
def pHeights:List AVal→Heap→Lim→Option (AVal×Heap)
 |[.agg [.d x,.d y,z]],H,_=>match rowOf 5 H z with
  |some (_,cs)=>match stpsOf cs with
   |some st=>if fewS st then some (.tuple [.d (ints (heightsR st).2),.d (num (heightsR st).1)],H) else none
   |none=>none
  |none=>none
 |_,_,_=>none
def srt0 (ks:List (Int×Int)):Option (List (Int×Int)):=if ks=[(0,0),(1,0)]∨ks=[(1,0),(0,0)] then some [(0,0),(1,0)] else none
end Go.Abs
namespace Go.Abs
def LeO {α:Type}(a b:Option α):Prop:=∀ r,a=some r→b=some r
theorem LeO.refl {α:Type}(a:Option α):LeO a a:=fun _ h=>h
theorem LeO.no {α:Type}(b:Option α):LeO none b:=fun _ h=>by cases h
def LeC (c c' :CallF):Prop:=∀ f args H l,LeO (c f args H l) (c' f args H l)
section
variable {cf cf' :CallF} (hc:LeC cf cf') {p:FuncId→Bool} {md:FuncId→Nat} {idl:FuncId→Bool} {l:Lim} {e:Nat}
include hc
theorem callEff_le (k:Nat)(f:FuncId)(args:List AVal)(st:RSt):LeO (callEff ⟨cf,p,md,idl,l,e⟩ k f args st) (callEff ⟨cf',p,md,idl,l,e⟩ k f args st):=by
 unfold callEff
 simp only
 split
 ·cases h:cf f args st.H l with
  |none=>exact LeO.no _
  |some r=>rw [hc _ _ _ _ _ h];exact LeO.refl _
 ·split
  ·split
   ·cases h:cf f args (List.take (closeN st.H l.strict 8 (bndL args)) st.H) { l with base:=closeN st.H l.strict 8 (bndL args),strict:=strictOf st.H l.strict (closeN st.H l.strict 8 (bndL args)) } with
    |none=>exact LeO.no _
    |some r=>rw [hc _ _ _ _ _ h];exact LeO.refl _
   ·cases h:cf f args (List.take (closeN st.H l.strict 8 (bndL args)) st.H) ⟨0,closeN st.H l.strict 8 (bndL args),closeN st.H l.strict 8 (bndL args),strictOf st.H l.strict (closeN st.H l.strict 8 (bndL args))⟩ with
    |none=>exact LeO.no _
    |some r=>rw [hc _ _ _ _ _ h];exact LeO.refl _
   ·cases h:cf f args (List.take (closeN st.H l.strict 8 (bndL args)) st.H) (l.forbid (args.headD .any).bnd (closeN st.H l.strict 8 (bndL args)) (closeN st.H l.strict 8 (bndL args)) (strictOf st.H l.strict (closeN st.H l.strict 8 (bndL args)))) with
    |none=>exact LeO.no _
    |some r=>rw [hc _ _ _ _ _ h];exact LeO.refl _
  ·exact LeO.no _
theorem effOp_le (ais:List AIns)(nid:Option Nat)(k:Nat)(st:RSt)(op:AOp):LeO (effOp ⟨cf,p,md,idl,l,e⟩ ais nid k st op) (effOp ⟨cf',p,md,idl,l,e⟩ ais nid k st op):=by
 cases op
 case call f xs=>exact callEff_le hc k f _ st
 case bslice sz len z ps b=>cases b<;>exact LeO.refl _
 case callv x xs =>
  simp only [effOp]
  split
  ·exact callEff_le hc k _ _ st
  ·exact LeO.no _
 all_goals exact LeO.refl _
theorem stepW_le (ais:List AIns)(nid:Option Nat)(k:Nat)(op:AOp)(st:RSt):LeO (stepW ⟨cf,p,md,idl,l,e⟩ ais nid k op st) (stepW ⟨cf',p,md,idl,l,e⟩ ais nid k op st):=by
 unfold stepW
 split
 ·intro r hr
  cases hx:effOp ⟨cf,p,md,idl,l,e⟩ ais nid k st op with
  |none=>rw [hx] at hr;cases hr
  |some x =>
   rw [hx] at hr
   rw [effOp_le hc ais nid k st op _ hx]
   exact hr
 ·exact LeO.refl _
theorem stepA_le (ais:List AIns)(nid:Option Nat)(k:Nat)(i:AIns)(st:RSt):LeO (stepA ⟨cf,p,md,idl,l,e⟩ ais nid k i st) (stepA ⟨cf',p,md,idl,l,e⟩ ais nid k i st):=by
 unfold stepA
 split
 ·intro r hr
  cases hx:stepW ⟨cf,p,md,idl,l,e⟩ ais nid k i.op st with
  |none=>rw [hx] at hr;cases hr
  |some x =>
   rw [hx] at hr
   rw [stepW_le hc ais nid k i.op st _ hx]
   exact hr
 ·exact LeO.refl _
 ·exact LeO.refl _
theorem runOps_le (ais:List AIns):∀ (is:List AIns) (k:Nat) (st:RSt),LeO (runOps ⟨cf,p,md,idl,l,e⟩ ais is k st) (runOps ⟨cf',p,md,idl,l,e⟩ ais is k st)
 |[],_,_=>LeO.refl _
 |i::is,k,st=>by
  unfold runOps
  intro r hr
  cases hx:stepA ⟨cf,p,md,idl,l,e⟩ ais none k i st with
  |none=>rw [hx] at hr;cases hr
  |some x =>
   rw [hx] at hr
   rw [stepA_le hc ais none k i st _ hx]
   exact runOps_le ais is (k+1) x.1 r hr
theorem stepD_le (ais:List AIns)(nid:Option Nat)(k:Nat)(i:AIns)(st:RSt):LeO (stepD ⟨cf,p,md,idl,l,e⟩ ais nid k i st) (stepD ⟨cf',p,md,idl,l,e⟩ ais nid k i st):=by
 unfold stepD
 split
 ·exact LeO.refl _
 ·intro r hr
  cases hx:stepA ⟨cf,p,md,idl,l,e⟩ ais nid k i st with
  |none=>rw [hx] at hr;cases hr
  |some x =>
   rw [hx] at hr
   rw [stepA_le hc ais nid k i st _ hx]
   exact hr
theorem runOpsD_le (ais:List AIns):∀ (is:List AIns) (k na:Nat) (st:RSt),LeO (runOpsD ⟨cf,p,md,idl,l,e⟩ ais is k na st) (runOpsD ⟨cf',p,md,idl,l,e⟩ ais is k na st)
 |[],_,_,_=>LeO.refl _
 |i::is,k,na,st=>by
  unfold runOpsD
  intro r hr
  cases hx:stepD ⟨cf,p,md,idl,l,e⟩ ais (if i.op.isAlloc then some na else none) k i st with
  |none=>rw [hx] at hr;cases hr
  |some x =>
   rw [hx] at hr
   rw [stepD_le hc ais _ k i st _ hx]
   simp only at hr ⊢
   cases hy:runOpsD ⟨cf,p,md,idl,l,e⟩ ais is (k+1) (if i.op.isAlloc then na+1 else na) x.1 with
   |none=>rw [hy] at hr;cases hr
   |some y =>
    rw [hy] at hr
    rw [runOpsD_le ais is (k+1) _ x.1 _ hy]
    exact hr
theorem runRegion_le (ais:List AIns)(draw:Bool)(T:List AVal)(H:Heap):LeO (runRegion ⟨cf,p,md,idl,l,e⟩ ais draw T H) (runRegion ⟨cf',p,md,idl,l,e⟩ ais draw T H):=by
 unfold runRegion
 split
 ·intro r hr
  cases hx:runOpsD ⟨cf,p,md,idl,l,e⟩ ais ais 0 H.length ⟨T,H++allocsOf ais,List.replicate ais.length .any,slotsOf ais⟩ with
  |none=>rw [hx] at hr;cases hr
  |some x =>
   rw [hx] at hr
   rw [runOpsD_le hc ais ais 0 _ _ _ hx]
   exact hr
 ·exact runOps_le hc ais ais 0 _
end
theorem loopN_le {body body' :St→Option (AExit×St)}(hb:∀ st,LeO (body st) (body' st))(mask:List Bool)(strict n:Nat):∀ (k k' :Nat) (_:k≤k') (st:St),LeO (loopN body mask strict n k st) (loopN body' mask strict n k' st)
 |0,_,_,_=>LeO.no _
 |k+1,0,h,_=>by omega
 |k+1,k' +1,h,st=>by
  unfold loopN
  intro r hr
  cases hx:body (clean mask strict n st) with
  |none=>rw [hx] at hr;cases hr
  |some x =>
   rw [hx] at hr
   rw [hb _ _ hx]
   obtain ⟨x1,x2⟩:=x
   cases x1 with
   |normal=>exact loopN_le hb mask strict n k k' (by omega) x2 r hr
   |exit i=>exact hr
   |ret=>exact hr
theorem exec_le {cf cf' :CallF}(hc:LeC cf cf'){p:FuncId→Bool}{md:FuncId→Nat}{idl:FuncId→Bool}{l:Lim}{e n n' :Nat}(hn:n≤n'):∀ (c:ACode) (st:St),LeO (exec ⟨cf,p,md,idl,l,e⟩ n c st) (exec ⟨cf',p,md,idl,l,e⟩ n' c st)
 | .skip,_=>LeO.refl _
 | .exit _,_=>LeO.refl _
 | .ret,_=>LeO.refl _
 | .bad,_=>LeO.refl _
 | .fz _,_=>LeO.refl _
 | .region ops draw,st=>by
  unfold exec
  intro r hr
  cases hx:runRegion ⟨cf,p,md,idl,l,e⟩ ops draw st.T st.H with
  |none=>rw [hx] at hr;cases hr
  |some x =>
   rw [hx] at hr
   rw [runRegion_le hc ops draw st.T st.H _ hx]
   exact hr
 | .seq a b,st=>by
  unfold exec
  intro r hr
  cases hx:exec ⟨cf,p,md,idl,l,e⟩ n a st with
  |none=>rw [hx] at hr;cases hr
  |some x =>
   rw [hx] at hr
   rw [exec_le hc hn a st _ hx]
   obtain ⟨x1,x2⟩:=x
   cases x1 with
   |normal=>exact exec_le hc hn b x2 r hr
   |exit i=>exact hr
   |ret=>exact hr
 | .cond c a b,st=>by
  unfold exec
  split
  ·exact exec_le hc hn a st
  ·exact exec_le hc hn b st
  ·exact LeO.refl _
 | .test ops draw c a b,st=>by
  unfold exec
  intro r hr
  cases hx:runRegion ⟨cf,p,md,idl,l,e⟩ ops draw st.T st.H with
  |none=>rw [hx] at hr;cases hr
  |some x =>
   rw [hx] at hr
   rw [runRegion_le hc ops draw st.T st.H _ hx]
   simp only at hr ⊢
   split at hr
   ·exact exec_le hc hn a _ r hr
   ·exact exec_le hc hn b _ r hr
   ·cases hr
 | .block id body,st=>by
  unfold exec
  intro r hr
  cases hx:exec ⟨cf,p,md,idl,l,e⟩ n body st with
  |none=>rw [hx] at hr;cases hr
  |some x =>
   rw [hx] at hr
   rw [exec_le hc hn body st _ hx]
   exact hr
 | .loop mask body,st=>by
  unfold exec
  exact loopN_le (fun st=>exec_le hc hn body st) mask _ _ n n' hn st
theorem call_le (A:Prog):∀ (n n' :Nat),n≤n' →LeC (call A n) (call A n')
 |0,_,_=>fun _ _ _ _=>LeO.no _
 |n+1,0,h=>by omega
 |n+1,n' +1,h=>fun f args H l=>by
  unfold call
  split
  ·exact LeO.refl _
  ·split
   ·rename_i af _
    unfold callBody
    split
    ·intro r hr
     cases hx:exec ⟨call A n,A.prom,A.mode,A.idle,l,H.length⟩ n af.body ⟨args++List.replicate (af.names.length - args.length) .any,H⟩ with
     |none=>rw [hx] at hr;cases hr
     |some x =>
      rw [hx] at hr
      rw [exec_le (call_le A n n' (by omega)) (by omega) _ _ _ hx]
      exact hr
    ·exact LeO.no _
   ·exact LeO.refl _
theorem Pf.of_call {A:Prog}{n:Nat}{f:FuncId}{args:List AVal}{v:AVal}(h:call A n f args [] lim0=some (v,[])):Pf A f args v :=
 ⟨n,fun m hm=>call_le A n m hm f args [] lim0 _ h⟩
end Go.Abs
namespace Go.Abs
theorem call_change {A B:Prog}(hf:A.fn=B.fn)(hi:A.idle=B.idle)(hm:A.mode=B.mode)(M:Nat)(hn:∀ f,A.prim f=none→B.prim f=none∨A.fn f=none)
  (hp:∀ f p,A.prim f=some p→∀ args H l r,p args H l=some r→call B M f args H l=some r):∀ n,LeC (call A n) (call B (n+M))
 |0=>fun _ _ _ _=>LeO.no _
 |n+1=>fun f args H l=>by
  intro r hr
  have hprom:A.prom=B.prom:=by funext g;simp only [Prog.prom,hf]
  unfold call at hr
  split at hr
  ·rename_i p hq
   exact call_le B M (n+1+M) (by omega) f args H l r (hp f p hq args H l r hr)
  ·rename_i hq
   split at hr
   ·rename_i af haf
    have hb:B.prim f=none:=by
     rcases hn f hq with h|h
     ·exact h
     ·rw [haf] at h;cases h
    rw [show n+1+M=(n+M)+1 by omega,call_fn hb (by rw [← hf];exact haf)]
    unfold callBody at hr ⊢
    split at hr
    ·rename_i hlen
     rw [if_pos hlen]
     cases hx:exec ⟨call A n,A.prom,A.mode,A.idle,l,H.length⟩ n af.body ⟨args++List.replicate (af.names.length - args.length) .any,H⟩ with
     |none=>rw [hx] at hr;cases hr
     |some x =>
      rw [hx] at hr
      rw [hprom,hi,hm] at hx
      rw [exec_le (call_change hf hi hm M hn hp n) (Nat.le_add_right n M) _ _ _ hx]
      exact hr
    ·cases hr
   ·cases hr
theorem Pf.unmemo {A:Prog}{es:List Ent}{M n:Nat}(hes:∀ e,e ∈ es→call A M e.f e.args [] lim0=some (e.res,[])){f:FuncId}{args:List AVal}{v:AVal}(h:call (memo A es) n f args [] lim0=some (v,[]))(hM:0<M):Pf A f args v:=by
 refine Pf.of_call (call_change (A:=memo A es) (B:=A) rfl rfl rfl M ?_ ?_ n _ _ _ _ _ h)
 ·intro f hf
  simp only [memo] at hf
  split at hf
  ·cases hf
  ·exact Or.inl hf
 ·intro f p hp args H l r hr
  simp only [memo] at hp
  split at hp
  ·cases hp
   simp only at hr
   split at hr
   ·rename_i hc
    simp only [Bool.and_eq_true] at hc
    have hH:H=[]:=by simpa using hc.1
    have hl:=isZero_sound hc.2
    subst hH hl
    split at hr
    ·rename_i v' hlook
     cases hr
     obtain ⟨e,he,h1,h2,h3⟩:=look_sound es hlook
     rw [← h1,← h2,← h3]
     exact hes e he
    ·cases hr
   ·cases hr
  ·obtain ⟨k,rfl⟩:∃ k,M=k+1:=⟨M - 1,by omega⟩
   simp only [call,hp]
   exact hr
theorem Pf.more {A B:Prog}(hf:A.fn=B.fn)(hi:A.idle=B.idle)(hm:A.mode=B.mode)(hn:∀ f,A.prim f=none→B.prim f=none∨A.fn f=none)(hp:∀ f p,A.prim f=some p→∀ args H l r,p args H l=some r→∃ q,B.prim f=some q∧q args H l=some r)
  {f:FuncId} {args:List AVal} {v:AVal} (h:Pf A f args v):Pf B f args v:=by
 obtain ⟨N,h⟩:=h
 refine Pf.of_call (call_change hf hi hm 1 hn ?_ N _ _ _ _ _ (h N (Nat.le_refl _)))
 intro f p hq args H l r hr
 obtain ⟨q,h1,h2⟩:=hp f p hq args H l r hr
 simp only [call,h1]
 exact h2
end Go.Abs
namespace Go.Abs
section
variable {A:Prog} {l:Lim} {b:Nat}
variable {dr:Bool} {ais ops:List AIns} {T:List AVal} {H:Heap} {n:Nat} {rl:List AVal} {tch:List Touch} {Q:List AVal→Heap→List AVal→Prop}
namespace S
theorem bxn {x:Opd}{u:List Nat}{v:AVal}{cs:List AVal}{id:Nat}{H2:Heap}(hx:Oq T n rl x v:=by exact ⟨rfl,rfl⟩)(hc:v.cells? =some cs:=by rfl)
  (hi:H.length=id:=by simp only [List.length_cons,List.length_nil,Nat.reduceAdd]<;>rfl) (hH:H++[.cells cs]=H2:=by simp only [List.cons_append,List.nil_append]<;>rfl)
  (h2:Ry A l b false ais ops T H2 (n+1) (.ptr id 0::rl) tch Q):Ry A l b false ais (⟨.box x,none,none,u⟩::ops) T H n rl tch Q:=fun hn=>by
 subst hi
 have h2:=h2.to hn
 rw [← hH] at h2
 refine Rx.stepT (N1:=0) (rs:=[]) rfl (fun n _=> ?_) h2
 simp only [stepA,wantedA,stepW,AOp.isEff,if_true,effOp,(hx.op hn).rho,hc,newObjA,newId,Option.getD_none,put,set_mid,toSlotX,toSlot]
theorem nk {x:Opd}{u:List Nat}{id o:Nat}(h2:Ry A l b dr ais ops T H (n+1) (.ptr id o::rl) tch Q)(hx:rq T n rl x= .ptr id o:=by rfl):Ry A l b dr ais (⟨.nilck x,none,none,u⟩::ops) T H n rl tch Q :=
 Ry.pure (rs:=[]) rfl (by simp only [pureOp,hx]) h2
theorem nki {x:Opd}{u:List Nat}{cs:List Data}(h2:Ry A l b dr ais ops T H (n+1) (.iptr cs::rl) tch Q)(hx:rq T n rl x= .iptr cs:=by rfl):Ry A l b dr ais (⟨.nilck x,none,none,u⟩::ops) T H n rl tch Q :=
 Ry.pure (rs:=[]) rfl (by simp only [pureOp,hx]) h2
theorem mu {x y:Opd}{u:List Nat}{c d:Int}(h2:Ry A l b dr ais ops T H (n+1) (.d (.int .i64 (c * d))::rl) tch Q)(h0: -9223372036854775808≤c * d∧c * d<9223372036854775808)(hx:rq T n rl x= .d (.int .i64 c):=by rfl)(hy:rq T n rl y= .d (.int .i64 d):=by rfl) :
  Ry A l b dr ais (⟨.bin .mul x y,none,none,u⟩::ops) T H n rl tch Q :=
 Ry.pure (rs:=[]) rfl (by simp [pureOp,hx,hy,binData,isShift,binInt,wrap_small h0.1 h0.2]) h2
theorem ipM {m sz i:Nat}{x y:Opd}{u:List Nat}{k:IntKind}{cs:List Data}(h2:Ry A l b dr ais ops T H (n+1) (.iptr (cs.drop (i * sz))::rl) tch Q)(hx:rq T n rl x= .iptr cs:=by rfl)(hy:rq T n rl y= .d (.int k (OfNat.ofNat i)):=by rfl)
  (hi:i<m:=by decide):Ry A l b dr ais (⟨.idxP m sz x y,none,none,u⟩::ops) T H n rl tch Q:=ip h2 hx hy hi
end S
theorem Ex.loopC {mask:List Bool}{body:ACode}{R:AExit→St→Prop}(Inv:Nat→List AVal→Heap→Prop)
  (hb:∀ k T' H',Inv k T' H' →Ex A l b body ⟨T',H'⟩ (goOn R fun s=>∃ k',k' <k∧∃ T2 H2,clean mask l.strict H.length s=⟨T2,H2⟩∧Inv k' T2 H2)) {k:Nat} (h:Inv k (maskT mask T) H):Ex A l b (.loop mask body) ⟨T,H⟩ R:=by
 refine Ex.loop (fun k s=>∃ T2 H2,clean mask l.strict H.length s=⟨T2,H2⟩∧Inv k T2 H2) (fun k s ⟨T2,H2,e,hs⟩=> ?_) (k:=k) ⟨maskT mask T,H,clean_len rfl,h⟩
 rw [e]
 exact hb k T2 H2 hs
end
end Go.Abs
namespace Go.Abs
section
variable {A:Prog} {l:Lim} {b:Nat}
variable {dr:Bool} {ais ops:List AIns} {T:List AVal} {H:Heap} {n:Nat} {rl:List AVal} {tch:List Touch} {Q:List AVal→Heap→List AVal→Prop}
theorem Ex.condP {c:Opd}{d e:ACode}{t:Bool}{Q:AExit→St→Prop}(h2:Ex A l b d ⟨T,H⟩ Q)(h1:rho T [] c= .d (.bool t):=by rfl)(ht:t=true:=by assumption):Ex A l b (.cond c d e) ⟨T,H⟩ Q :=
 Ex.cond h1 (fun _=>h2) (fun h=>by rw [ht] at h;cases h)
theorem Ex.condN {c:Opd}{d e:ACode}{t:Bool}{Q:AExit→St→Prop}(h2:Ex A l b e ⟨T,H⟩ Q)(h1:rho T [] c= .d (.bool t):=by rfl)(ht:t=false:=by assumption):Ex A l b (.cond c d e) ⟨T,H⟩ Q :=
 Ex.cond h1 (fun h=>by rw [ht] at h;cases h) (fun _=>h2)
namespace S
theorem lq3 {x:Opd}{u:List Nat}{id o:Nat}{v1 v2 v3:Data}(h2:Ry A l b dr ais ops T H (n+1) (.agg [.d v1,.d v2,.d v3]::rl) tch Q)(hx:rq T n rl x= .ptr id o:=by rfl)(hr:rd H id o 3=some [.d v1,.d v2,.d v3]:=by rfl) :
  Ry A l b dr ais (⟨.load (some 3) x,none,none,u⟩::ops) T H n rl tch Q :=
 Ry.pure (rs:=[id]) rfl (by simp only [pureOp,hx,hr,List.map_cons,List.map_nil,AVal.asD]) h2
theorem o1z {x:Opd}{u:List Nat}{z:AVal}{c:Data}(h2:Ry A l b dr ais ops T H (n+1) (.own 1 1 [c]::rl) tch Q)(hx:rq T n rl x= .d c:=by rfl):Ry A l b dr ais (⟨.bslice 1 1 [z] [(0,1,x)] false,none,none,u⟩::ops) T H n rl tch Q :=
 Ry.pure (rs:=[]) rfl (by simp [pureOp,fillA,hx,AVal.cells?,splice,datas?,AVal.data?,AVal.one]) h2
theorem clT {f:FuncId}{xs:List Opd}{u:List Nat}{v:AVal}{args:List AVal}{s:Nat}{T2:List AVal}(hc:Pf A f args v)(ha:xs.map (rq T n rl)=args:=by rfl)(hpr:A.prom f=false:=by rfl)(hm:A.mode f=1:=by rfl)
  (hb:bndL args=0:=by rfl) (hv:v.asD=v:=by rfl) (hs:T[s]?.isSome=true:=by rfl) (hT:T.set s v=T2:=by simp only [List.set_cons_zero,List.set_cons_succ]<;>rfl)
  (h2:Ry A l b dr ais ops T2 H (n+1) (v::rl) (.slot s::tch) Q):Ry A l b dr ais (⟨.call f xs,some s,none,u⟩::ops) T H n rl tch Q:=fun hn=>by
 obtain ⟨M,hc⟩:=hc
 have hs:s<T.length:=by
  rcases Nat.lt_or_ge s T.length with h|h
  ·exact h
  ·rw [List.getElem?_eq_none h] at hs;cases hs
 have h2:=h2.to hn
 rw [← hT] at h2
 refine Rx.step (N1:=M) (rs:=[]) rfl rfl (fun k hk=> ?_) (slot_hits s tch) h2
 have h3:callEff (EnvN A k l b) rl.reverse.length f args ⟨T,H,rl.reverse++ .any::List.replicate ops.length .any,tch⟩=some (put ⟨T,H,rl.reverse++ .any::List.replicate ops.length .any,tch⟩ rl.reverse.length v) :=
  callEff_plain hpr hm hb (hc k hk)
 have ha' :xs.map (Abs.rho T (rl.reverse++ .any::List.replicate ops.length .any))=args:=by
  rw [show Abs.rho T (rl.reverse++ .any::List.replicate ops.length .any)=rq T n rl from funext fun x=>rq_rho hn _ x];exact ha
 have h5:Abs.xfer ⟨T,H,rl.reverse++v::List.replicate ops.length .any,tch⟩ (.loc rl.reverse.length)=(v,⟨T,H,rl.reverse++v::List.replicate ops.length .any,tch⟩):=by
  simp only [Abs.xfer,List.getElem?_append_right (Nat.le_refl _),Nat.sub_self,List.getElem?_cons_zero]
  split
  ·rename_i heq
   cases heq
   simp [AVal.asD] at hv
  ·rename_i heq
   cases heq
   simp [AVal.asD] at hv
  ·simp [Abs.rho,hv]
 simp only [stepA,wantedA,stepW,AOp.isEff,if_true,effOp,ha',h3,toSlotX,toSlot,put,set_mid,hs,h5]
end S
end
end Go.Abs
namespace Go.Abs
section
variable {A:Prog} {l:Lim} {b:Nat}
variable {dr:Bool} {ais ops:List AIns} {T:List AVal} {H:Heap} {n:Nat} {rl:List AVal} {tch:List Touch} {Q:List AVal→Heap→List AVal→Prop}
namespace S
theorem df {f:FuncId}{a c:List AVal}{u:List Nat}(h2:Ry A l b dr ais ops T H (n+1) (.any::rl) tch Q)(hi:A.idle f=true:=by rfl):Ry A l b dr ais (⟨.defer (.const (.func f a c)),none,none,u⟩::ops) T H n rl tch Q:=fun hn=>by
 refine Rx.step (N1:=0) (rs:=[]) rfl rfl (fun k _=> ?_) (fun rs=>by simp [hitsObj]) (h2.to hn)
 have hi' :(EnvN A k l b).idle f=true:=hi
 simp only [stepA,wantedA,stepW,AOp.isEff,if_true,effOp,Abs.rho,AVal.cst,AVal.asD,hi',put,set_mid,toSlotX,toSlot]
theorem dfl {f:FuncId}{x:Opd}{a c:List AVal}{u:List Nat}(h2:Ry A l b dr ais ops T H (n+1) (.any::rl) tch Q)(hx:rq T n rl x= .func f a c:=by rfl)(hi:A.idle f=true:=by rfl):Ry A l b dr ais (⟨.defer x,none,none,u⟩::ops) T H n rl tch Q:=fun hn=>by
 refine Rx.step (N1:=0) (rs:=[]) rfl rfl (fun k _=> ?_) (fun rs=>by simp [hitsObj]) (h2.to hn)
 have hi' :(EnvN A k l b).idle f=true:=hi
 simp only [stepA,wantedA,stepW,AOp.isEff,if_true,effOp,rq_rho hn,hx,hi',put,set_mid,toSlotX,toSlot]
theorem ipp {m sz o id o2:Nat}{x y:Opd}{u:List Nat}{k:IntKind}{e:Int}(i:Nat)(he:e=i)(ho:o+i * sz=o2)(hi:i<m)(h2:Ry A l b dr ais ops T H (n+1) (.ptr id o2::rl) tch Q)(hx:rq T n rl x= .ptr id o:=by rfl)(hy:rq T n rl y= .d (.int k e):=by rfl) :
  Ry A l b dr ais (⟨.idxP m sz x y,none,none,u⟩::ops) T H n rl tch Q:=by
 subst he
 subst ho
 refine Ry.pure (rs:=[]) rfl ?_ h2
 have h1:(i:Int)<m:=by omega
 simp [pureOp,hx,hy,h1]
theorem mf {f:FuncId}{a c:List Opd}{u:List Nat}{va vc:List AVal}(h2:Ry A l b dr ais ops T H (n+1) (.func f va vc::rl) tch Q)(ha:a.map (rq T n rl)=va:=by rfl)(hc:c.map (rq T n rl)=vc:=by rfl):Ry A l b dr ais (⟨.mkfunc f a c,none,none,u⟩::ops) T H n rl tch Q :=
 Ry.pure (rs:=[]) rfl (by simp only [pureOp,ha,hc]) h2
end S
end
end Go.Abs
namespace Go.Abs
section
variable {A:Prog} {l:Lim} {b:Nat}
variable {dr:Bool} {ais ops:List AIns} {T:List AVal} {H:Heap} {n:Nat} {rl:List AVal} {tch:List Touch} {Q:List AVal→Heap→List AVal→Prop}
namespace S
theorem ippN {m sz i o id:Nat}{x y:Opd}{u:List Nat}{k:IntKind}(h2:Ry A l b dr ais ops T H (n+1) (.ptr id (o+i * sz)::rl) tch Q)(hx:rq T n rl x= .ptr id o:=by rfl)(hy:rq T n rl y= .d (.int k (OfNat.ofNat i)):=by rfl)(hi:i<m:=by decide) :
  Ry A l b dr ais (⟨.idxP m sz x y,none,none,u⟩::ops) T H n rl tch Q:=ipp i rfl rfl hi h2 hx hy
end S
end
end Go.Abs
namespace Go.Abs
section
variable {A:Prog} {l:Lim} {b:Nat}
variable {dr:Bool} {ais ops:List AIns} {T:List AVal} {H:Heap} {n:Nat} {rl:List AVal} {tch:List Touch} {Q:List AVal→Heap→List AVal→Prop}
namespace S
theorem sp1 {id off:Nat}{x y:Opd}{u:List Nat}{v:AVal}{old new:List AVal}{H2:Heap}(hy:rq T n rl y= .ptr id off:=by rfl)(hx:Oq T n rl x v:=by exact ⟨rfl,rfl⟩)(hc:v.cells? =some [v]:=by rfl)(hl:l.may id=true:=by rfl)(hb:v.bnd≤id+1:=by exact Nat.zero_le _)
  (ho:H[id]? =some (.cells old):=by rfl) (hq:off<old.length:=by simp) (hN:old.set off v=new:=by first|(simp only [List.set_cons_zero,List.set_cons_succ];done)|rfl) (hH:H.set id (.cells new)=H2:=by simp only [List.set_cons_zero,List.set_cons_succ]<;>rfl)
  (h2:Ry A l b false ais ops T H2 (n+1) (.any::rl) (.obj id::tch) Q):Ry A l b false ais (⟨.store 1 y x,none,none,u⟩::ops) T H n rl tch Q:=so1 hy hx hc hl hb ho hq hN hH h2
end S
end
end Go.Abs
namespace Go.Abs
section
variable {A:Prog} {l:Lim} {b:Nat}
variable {dr:Bool} {ais ops:List AIns} {T:List AVal} {H:Heap} {n:Nat} {rl:List AVal} {tch:List Touch} {Q:List AVal→Heap→List AVal→Prop}
namespace S
theorem alE {α:Type}{enc:α→List Data}{ys:List α}{j sz bytes:Nat}{y:Opd}{u:List Nat}{r2:List AVal}(hj:lk n rl j=some (.own sz 0 []):=by rfl)(hb:Nat.ble (j+1) n=true:=by rfl)(hy:rq T n rl y= .d (encL enc ys):=by rfl)
  (hs:∀ a,(enc a).length=sz:=by intro;rfl) (h0:0<sz:=by decide) (hr:roomFor (0+ys.length) bytes=true:=by simp only [roomFor,decide_eq_true_eq,List.length_append,List.length_cons,List.length_nil,List.length_take,List.length_drop,List.length_map] at * <;>omega)
  (hS:rl.set (n - (j+1)) (.d (.slice 0 []))=r2:=by simp only [Nat.reduceAdd,Nat.reduceSub,List.set_cons_zero,List.set_cons_succ]<;>rfl) (h2:Ry A l b dr ais ops T H (n+1) (ownL sz enc ys::r2) tch Q) :
  Ry A l b dr ais (⟨.append sz bytes false (.loc j) y,none,none,u⟩::ops) T H n rl tch Q :=
 Ry.appL hj hb hy (flat_len hs ys) hr h0 (by
  have e1:ownL sz enc ys= .own sz (0+ys.length) ([]++ys.flatMap enc):=by simp [ownL]
  rw [e1] at h2
  rw [hS]
  exact h2)
end S
end
end Go.Abs
namespace Go.Abs
section
variable {A:Prog} {l:Lim} {b:Nat}
theorem Ex.mid {c d:ACode}{st:St}{Q:AExit→St→Prop}(P:St→Prop)(h1:Ex A l b c st (goOn (fun _ _=>False) P))(h2:∀ s,P s→Ex A l b d s Q):Ex A l b (.seq c d) st Q:=by
 refine Ex.seq (h1.mono fun x s h=> ?_)
 cases x with
 |normal=>exact h2 s h
 |exit i=>exact h.elim
 |ret=>exact h.elim
theorem Ex.thru {c:ACode}{st:St}{R:AExit→St→Prop}{go:St→Prop}(P:St→Prop)(h1:Ex A l b c st (goOn (fun _ _=>False) P))(h2:∀ s,P s→go s):Ex A l b c st (goOn R go):=by
 refine h1.mono fun x s h=> ?_
 cases x with
 |normal=>exact h2 s h
 |exit i=>exact h.elim
 |ret=>exact h.elim
end
end Go.Abs
namespace Go.Abs
section
variable {A:Prog} {l:Lim} {b:Nat}
variable {dr:Bool} {ais ops:List AIns} {T:List AVal} {H:Heap} {n:Nat} {rl:List AVal} {tch:List Touch} {Q:List AVal→Heap→List AVal→Prop}
namespace S
theorem mvS {s:Nat}{u:List Nat}{w v:AVal}(hv:w.asD=v)(h2:Ry A l b dr ais ops T H (n+1) (v::rl) tch Q)(hx:T[s]? =some w:=by rfl):Ry A l b dr ais (⟨.mov (.slot s),none,none,u⟩::ops) T H n rl tch Q:=fun hn=>by
 refine Rx.step (N1:=0) (rs:=[]) rfl rfl (fun k _=> ?_) (fun rs=>by simp [hitsObj]) (h2.to hn)
 have h1:Abs.rho T (rl.reverse++ .any::List.replicate ops.length .any) (.slot s)=v:=by simp [Abs.rho,hx,hv]
 simp only [stepA,wantedA,stepW,AOp.isEff,Bool.false_eq_true,if_false,Abs.xfer,h1,put,set_mid,toSlotX,toSlot]
end S
end
end Go.Abs
namespace Go.Abs
def Pm (A:Prog)(f:FuncId)(args:List AVal)(H:Heap)(l:Lim)(v:AVal)(H1:Heap):Prop:=∃ N,∀ n,N≤n→call A n f args H l=some (v,H1)
def Pq (A:Prog)(f:FuncId)(args:List AVal)(H:Heap)(l:Lim)(Post:AVal→Heap→Prop):Prop:=∃ v H1,Post v H1∧Pm A f args H l v H1
section
variable {A:Prog} {l:Lim} {b:Nat}
theorem Pq.run {f:FuncId}{af:AFunc}{args:List AVal}{H:Heap}{Post:AVal→Heap→Prop}(T:List AVal)(hp:A.prim f=none)(hf:A.fn f=some af)(hn:args.length=af.nparams)(hb:H.length=b)
  (hT:args++List.replicate (af.names.length - args.length) .any=T) (h:Ex A l b af.body ⟨T,H⟩ fun x s=>∃ w H1,finRun af b (some (x,s))=some (w,H1)∧Post w H1):Pq A f args H l Post:=by
 subst hT
 subst hb
 obtain ⟨x,s,N,⟨w,H1,hq,hP⟩,h⟩:=h
 refine ⟨w,H1,hP,N+1,fun n hn' => ?_⟩
 obtain ⟨n,rfl⟩:∃ j,n=j+1:=⟨n - 1,by omega⟩
 rw [call_fn hp hf,callBody_fin hn]
 have:=h n (by omega)
 simp only [EnvN] at this
 rw [this,hq]
theorem closeN_of {H:Heap}{s k n:Nat}(h:bndO ((H.take n).drop s)≤n):closeN H s (k+1) n=n:=by
 simp only [closeN]
 split
 ·rfl
 ·rw [if_pos (by omega)]
theorem callEff0 {E:Env}{k m:Nat}{f:FuncId}{args:List AVal}{st:RSt}{v:AVal}{H1:Heap}{l2:Lim}(hpr:E.prom f=false)(hm:E.mode f=0)(hc:closeN st.H E.lim.strict 8 (bndL args)=m)(hle:m≤st.H.length)(hbo:bndO ((st.H.take m).drop E.lim.strict)≤m)
  (hl2:(⟨E.lim.flo,E.lim.fhi,m,strictOf st.H E.lim.strict m⟩:Lim)=l2) (h:E.cf f args (st.H.take m) l2=some (v,H1)) (hH:H1.length=m) :
  callEff E k f args st=some (put { st with H:=H1++st.H.drop m,tch:= .below m::st.tch } k v):=by
 subst hl2
 simp only [callEff,hpr,hm,hc,hle,hbo,and_self,if_true,Bool.false_eq_true,if_false,h,hH]
theorem callEff1 {E:Env}{k m:Nat}{f:FuncId}{args:List AVal}{st:RSt}{v:AVal}{H1:Heap}{l2:Lim}(hpr:E.prom f=false)(hm:E.mode f=1)(hc:closeN st.H E.lim.strict 8 (bndL args)=m)(hle:m≤st.H.length)(hbo:bndO ((st.H.take m).drop E.lim.strict)≤m)
  (hl2:(⟨0,m,m,strictOf st.H E.lim.strict m⟩:Lim)=l2) (h:E.cf f args (st.H.take m) l2=some (v,H1)) (hH:H1.length=m) :
  callEff E k f args st=some (put st k v):=by
 subst hl2
 simp only [callEff,hpr,hm,hc,hle,hbo,and_self,if_true,Bool.false_eq_true,if_false,h,hH]
variable {dr:Bool} {ais ops:List AIns} {T:List AVal} {H:Heap} {n:Nat} {rl:List AVal} {tch:List Touch} {Q:List AVal→Heap→List AVal→Prop}
theorem rq_all (hn:rl.length=n)(xs:List Opd):xs.map (Abs.rho T (rl.reverse++ .any::List.replicate ops.length .any))=xs.map (rq T n rl):=by
 rw [show Abs.rho T (rl.reverse++ .any::List.replicate ops.length .any)=rq T n rl from funext fun x=>rq_rho hn _ x]
namespace S
theorem c0 {f:FuncId}{xs:List Opd}{u:List Nat}{v:AVal}{args:List AVal}{m:Nat}{H0 HD H1 H2:Heap}{l2:Lim}(hc:Pm A f args H0 l2 v H1)(hH1:H1.length=m)(hbo:bndO ((H.take m).drop l.strict)≤m:=by exact Nat.zero_le _)(hcl:closeN H l.strict 8 (bndL args)=m:=by rfl)
  (hH0:H.take m=H0:=by rfl) (hle:Nat.ble m H.length=true:=by rfl) (hl2:(⟨l.flo,l.fhi,m,strictOf H l.strict m⟩:Lim)=l2:=by rfl) (hd:dr=true→Nat.ble (bndU ais) n=true:=by intro;rfl)
  (ha:xs.map (rq T n rl)=args:=by rfl) (hpr:A.prom f=false:=by rfl) (hm:A.mode f=0:=by rfl) (hD:H.drop m=HD:=by rfl) (hA:H1++HD=H2:=by first|(simp only [List.cons_append,List.nil_append]<;>rfl)|rfl)
  (h2:Ry A l b dr ais ops T H2 (n+1) (v::rl) (.below m::tch) Q):Ry A l b dr ais (⟨.call f xs,none,none,u⟩::ops) T H n rl tch Q:=fun hn=>by
 obtain ⟨M,hc⟩:=hc
 subst hH0 hD hA
 have h2:=h2.to hn
 have e1:∀ k,M≤k→stepA (EnvN A k l b) ais none rl.reverse.length ⟨.call f xs,none,none,u⟩ ⟨T,H,rl.reverse++ .any::List.replicate ops.length .any,tch⟩=some (⟨T,H1++H.drop m,rl.reverse++v::List.replicate ops.length .any,.below m::tch⟩,[]):=fun k hk=>by
  have h3:callEff (EnvN A k l b) rl.reverse.length f args ⟨T,H,rl.reverse++ .any::List.replicate ops.length .any,tch⟩=some (put ⟨T,H1++H.drop m,rl.reverse++ .any::List.replicate ops.length .any,.below m::tch⟩ rl.reverse.length v) :=
   callEff0 hpr hm hcl (Nat.le_of_ble_eq_true hle) hbo hl2 (hc k hk) hH1
  simp only [stepA,wantedA,stepW,AOp.isEff,if_true,effOp,rq_all hn,ha,h3,toSlotX,toSlot,put,set_mid]
 cases dr with
 |false=>exact Rx.stepT (N1:=M) (rs:=[]) rfl e1 h2
 |true =>
  refine Rx.stepH (N1:=M) (rs:=[]) rfl rfl rfl e1 (fun h=> ?_) h2
  have:=Nat.le_of_ble_eq_true (hd rfl)
  simp [hn] at h
  omega
theorem c1 {f:FuncId}{xs:List Opd}{u:List Nat}{v:AVal}{args:List AVal}{m:Nat}{H0 H1:Heap}{l2:Lim}(hc:Pm A f args H0 l2 v H1)(hH1:H1.length=m)(h2:Ry A l b dr ais ops T H (n+1) (v::rl) tch Q)(hbo:bndO ((H.take m).drop l.strict)≤m:=by exact Nat.zero_le _)(hcl:closeN H l.strict 8 (bndL args)=m:=by rfl)
  (hH0:H.take m=H0:=by rfl) (hle:Nat.ble m H.length=true:=by rfl) (hl2:(⟨0,m,m,strictOf H l.strict m⟩:Lim)=l2:=by rfl)
  (ha:xs.map (rq T n rl)=args:=by rfl) (hpr:A.prom f=false:=by rfl) (hm:A.mode f=1:=by rfl):Ry A l b dr ais (⟨.call f xs,none,none,u⟩::ops) T H n rl tch Q:=fun hn=>by
 obtain ⟨M,hc⟩:=hc
 subst hH0
 refine Rx.step (N1:=M) (rs:=[]) rfl rfl (fun k hk=> ?_) (fun rs=>by simp [hitsObj]) (h2.to hn)
 have h3:callEff (EnvN A k l b) rl.reverse.length f args ⟨T,H,rl.reverse++ .any::List.replicate ops.length .any,tch⟩=some (put ⟨T,H,rl.reverse++ .any::List.replicate ops.length .any,tch⟩ rl.reverse.length v) :=
  callEff1 hpr hm hcl (Nat.le_of_ble_eq_true hle) hbo hl2 (hc k hk) hH1
 simp only [stepA,wantedA,stepW,AOp.isEff,if_true,effOp,rq_all hn,ha,h3,toSlotX,toSlot,put,set_mid]
theorem cv {f:FuncId}{x:Opd}{xs:List Opd}{u:List Nat}{v:AVal}{first caps args:List AVal}(hc:Pf A f args v)(h2:Ry A l b dr ais ops T H (n+1) (v::rl) tch Q)(hx:rq T n rl x= .func f first caps:=by rfl)(ha:first++xs.map (rq T n rl)++caps=args:=by rfl)(hpr:A.prom f=false:=by rfl)(hm:A.mode f=1:=by rfl)
  (hb:bndL args=0:=by rfl):Ry A l b dr ais (⟨.callv x xs,none,none,u⟩::ops) T H n rl tch Q:=fun hn=>by
 obtain ⟨M,hc⟩:=hc
 refine Rx.step (N1:=M) (rs:=[]) rfl rfl (fun k hk=> ?_) (fun rs=>by simp [hitsObj]) (h2.to hn)
 have h3:callEff (EnvN A k l b) rl.reverse.length f args ⟨T,H,rl.reverse++ .any::List.replicate ops.length .any,tch⟩=some (put ⟨T,H,rl.reverse++ .any::List.replicate ops.length .any,tch⟩ rl.reverse.length v) :=
  callEff_plain hpr hm hb (hc k hk)
 simp only [stepA,wantedA,stepW,AOp.isEff,if_true,effOp,rq_rho hn,hx,rq_all hn,ha,h3,toSlotX,toSlot,put,set_mid]
theorem lk1 {kk:KK}{zero:AVal}{x y:Opd}{u:List Nat}{id:Nat}{key:Key}{es:List (Key×AVal)}{r:Option AVal}{v:AVal}(hr:mapFind kk key es=some r)(hv:r.getD zero=v)(h2:Ry A l b dr ais ops T H (n+1) (v::rl) tch Q)
  (hx:rq T n rl x= .map id:=by rfl) (hy:(rq T n rl y).key? =some key:=by rfl) (ho:H[id]? =some (.map es):=by rfl) (hf:kk.fits key=true:=by rfl):Ry A l b dr ais (⟨.lookup kk zero false x y,none,none,u⟩::ops) T H n rl tch Q :=
 Ry.pure (rs:=[id]) rfl (by subst hv;simp [pureOp,hx,hy,ho,hr,hf]) h2
theorem lk2 {kk:KK}{zero:AVal}{x y:Opd}{u:List Nat}{id:Nat}{key:Key}{es:List (Key×AVal)}{r:Option AVal}{v:AVal}{t:Bool}(hr:mapFind kk key es=some r)(hv:r.getD zero=v)(ht:r.isSome=t)(h2:Ry A l b dr ais ops T H (n+1) (.tuple [v,.d (.bool t)]::rl) tch Q)
  (hx:rq T n rl x= .map id:=by rfl) (hy:(rq T n rl y).key? =some key:=by rfl) (ho:H[id]? =some (.map es):=by rfl) (hf:kk.fits key=true:=by rfl):Ry A l b dr ais (⟨.lookup kk zero true x y,none,none,u⟩::ops) T H n rl tch Q :=
 Ry.pure (rs:=[id]) rfl (by subst hv ht;simp [pureOp,hx,hy,ho,hr,hf]) h2
theorem mp {kk:KK}{x y z:Opd}{u:List Nat}{id:Nat}{key:Key}{es es' :List (Key×AVal)}{v:AVal}{H2:Heap}(hr:mapPut kk key v es=some es')(hk:Data.keyEq kk key key=some true)(hx:rq T n rl x= .map id:=by rfl)(hy:(rq T n rl y).key? =some key:=by rfl)(hz:rq T n rl z=v:=by rfl)(hbv:v.bnd≤id+1:=by exact Nat.zero_le _)(hl:l.may id=true:=by rfl)
  (ho:H[id]? =some (.map es):=by rfl) (hd:dr=true→Nat.ble (bndU ais) n=true:=by intro;rfl) (hH:H.set id (.map es')=H2:=by simp only [List.set_cons_zero,List.set_cons_succ]<;>rfl)
  (h2:Ry A l b dr ais ops T H2 (n+1) (.any::rl) (.obj id::tch) Q):Ry A l b dr ais (⟨.mapSet kk x y z,none,none,u⟩::ops) T H n rl tch Q:=fun hn=>by
 subst hH
 have e1:∀ k,0≤k→stepA (EnvN A k l b) ais none rl.reverse.length ⟨.mapSet kk x y z,none,none,u⟩ ⟨T,H,rl.reverse++ .any::List.replicate ops.length .any,tch⟩=some (⟨T,H.set id (.map es'),rl.reverse++ .any::List.replicate ops.length .any,.obj id::tch⟩,[]):=fun k _=>by
  have hl' :(EnvN A k l b).lim.may id=true:=hl
  simp only [stepA,wantedA,stepW,AOp.isEff,if_true,effOp,rq_rho hn,hx,hy,hz,mapSetEff,ho,hbv,hl',and_self,hk,hr,put,set_mid,toSlotX,toSlot]
 cases dr with
 |false=>exact Rx.stepT (N1:=0) (rs:=[]) rfl e1 (h2.to hn)
 |true =>
  refine Rx.stepH (N1:=0) (rs:=[]) rfl rfl rfl e1 (fun h=> ?_) (h2.to hn)
  have:=Nat.le_of_ble_eq_true (hd rfl)
  simp [hn] at h
  omega
end S
end
def dmap (ds:List (List UInt8)):List (Key×AVal):=ds.map fun s=>(.str s,.d (.bool true))
def nmap:List (List UInt8)→Nat→List (Key×AVal)
 |[],_=>[]
 |s::l,i=>(.str s,.d (.int .i64 (i:Int)))::nmap l (i+1)
theorem dmap_find (s:List UInt8):∀ ds,mapFind .s (.str s) (dmap ds)=some (if ds.any fun y=>seB y s then some (.d (.bool true)) else none)
 |[]=>by simp [dmap,mapFind]
 |d::ds=>by
  have h1:=dmap_find s ds
  simp only [dmap,List.map_cons,mapFind,Data.keyEq,List.any_cons]
  have h2:(s==d)=seB d s:=by
   rw [seB_eq,Bool.eq_iff_iff]
   simp only [beq_iff_eq]
   exact eq_comm
  rw [h2]
  by_cases hb:seB d s=true
  ·simp [hb]
  ·have hb' :seB d s=false:=by simpa using hb
   simp only [hb',Bool.false_or]
   simpa [dmap] using h1
theorem dmap_put (s:List UInt8):∀ ds,(ds.any fun y=>seB y s)=false→mapPut .s (.str s) (.d (.bool true)) (dmap ds)=some (dmap (ds++[s]))
 |[],_=>by simp [dmap,mapPut]
 |d::ds,h=>by
  simp only [List.any_cons,Bool.or_eq_false_iff] at h
  have h1:=dmap_put s ds h.2
  have h2:(s==d)=false:=by
   have:=seB_f h.1
   simp
   exact fun h=>this h.symm
  simp only [dmap,List.map_cons,mapPut,Data.keyEq,h2,List.cons_append] at h1 ⊢
  rw [h1]
theorem nmap_put (s:List UInt8):∀ (l:List (List UInt8)) (i:Nat),(l.any fun y=>seB y s)=false→mapPut .s (.str s) (.d (.int .i64 ((i+l.length:Nat):Int))) (nmap l i)=some (nmap (l++[s]) i)
 |[],i,_=>by simp [nmap,mapPut]
 |d::l,i,h=>by
  simp only [List.any_cons,Bool.or_eq_false_iff] at h
  have h1:=nmap_put s l (i+1) h.2
  have h2:(s==d)=false:=by
   have:=seB_f h.1
   simp
   exact fun h=>this h.symm
  have h3:i+1+l.length=i+(d::l).length:=by simp;omega
  rw [h3] at h1
  simp only [nmap,mapPut,Data.keyEq,h2,List.cons_append,h1]
theorem nmap_bnd:∀ (l:List (List UInt8)) (i:Nat),bndL ((nmap l i).map (·.2))=0
 |[],_=>rfl
 |_::l,i=>by simp [nmap,bndL,AVal.bnd,nmap_bnd l (i+1)]
theorem dmap_bnd:∀ l:List (List UInt8),bndL ((dmap l).map (·.2))=0
 |[]=>rfl
 |_::l=>by
  have:=dmap_bnd l
  simp only [dmap,List.map_cons,bndL,AVal.bnd,Nat.zero_max] at this ⊢
  exact this
end Go.Abs
namespace Go.Abs
section
variable {A:Prog} {l:Lim} {b:Nat}
variable {dr:Bool} {ais ops:List AIns} {T:List AVal} {H:Heap} {n:Nat} {rl:List AVal} {tch:List Touch} {Q:List AVal→Heap→List AVal→Prop}
theorem cell_hits (id off:Nat)(tch:List Touch)(rs:List Nat):hitsObj ((Touch.cell id off::tch).take ((Touch.cell id off::tch).length - tch.length)) rs=false:=by
 have:(tch.length+1) - tch.length=1:=by omega
 simp [hitsObj,this,Touch.objHit]
theorem Ry.appC {j k sz bytes id off:Nat}{y:Opd}{u u' :List Nat}{d' :Option Nat}{g' :Option (Nat×Bool)}{n' len m:Nat}{cs' cells new:List Data}{old:List AVal}
  (hj:lk n rl j=some (.d (.slice n' cs'))) (ha:ais[j]? =some ⟨.load none (.loc k),d',g',u'⟩) (hk:lk n rl k=some (.ptr id off)) (ht:tch.any (Touch.cellHit id off)=false) (hl:l.may id=true) (ho:H[id]? =some (.cells old)) (hc:old[off]? =some (.own sz len cells))
  (hy:rq T n rl y= .d (.slice m new)) (hn' :new.length=m * sz) (hr:roomFor (len+m) bytes=true) (h0:0<sz)
  (h2:Ry A l b dr ais ops T (H.set id (.cells (old.set off (.d (.slice len cells))))) (n+1) (.own sz (len+m) (cells++new)::rl) (.cell id off::tch) Q):Ry A l b dr ais (⟨.append sz bytes false (.loc j) y,none,none,u⟩::ops) T H n rl tch Q:=fun hn=>by
 have hjl:rl.reverse[j]? =some (.d (.slice n' cs')):=by rw [lk_rev hn];exact hj
 have hkl:rl.reverse[k]? =some (.ptr id off):=by rw [lk_rev hn];exact hk
 have hL:∀ r:List AVal,(rl.reverse++ .any::r)[j]? =some (.d (.slice n' cs')):=fun r=>mid_at hjl _
 have hK:∀ r:List AVal,(rl.reverse++ .any::r)[k]? =some (.ptr id off):=fun r=>mid_at hkl _
 have hrho:Abs.rho T (rl.reverse++ .any::List.replicate ops.length .any) (.loc j)= .d (.slice n' cs'):=by simp [Abs.rho,hL,AVal.asD]
 refine Rx.step (N1:=0) (rs:=[]) (by simp only [killing,hrho]) rfl (fun q _=> ?_) (cell_hits id off tch) (h2.to hn)
 have hl' :(EnvN A q l b).lim.may id=true:=hl
 have hs:sliceCells H sz (.d (.slice m new))=some (m,new.map .d):=by simp only [sliceCells,hn',if_true]
 simp only [stepA,wantedA,stepW,AOp.isEff,if_true,effOp,hrho,appendOwn,rq_rho hn,hy,hs,datas_map,Bool.false_eq_true,if_false,takeOwn,hL,ha,takeVia,ptrOf,hK,ht,hl',Bool.not_true,Bool.or_self,ho,hc,hr,h0,and_self,put,set_mid,toSlotX,toSlot]
namespace S
theorem o2 {x:Opd}{u:List Nat}{z1 z2:AVal}{c d:Data}(h2:Ry A l b dr ais ops T H (n+1) (.own 2 1 [c,d]::rl) tch Q)(hx:rq T n rl x= .agg [.d c,.d d]:=by rfl):Ry A l b dr ais (⟨.bslice 2 1 [z1,z2] [(0,2,x)] false,none,none,u⟩::ops) T H n rl tch Q :=
 Ry.pure (rs:=[]) rfl (by simp [pureOp,fillA,hx,AVal.cells?,splice,datas?,AVal.data?,AVal.one]) h2
theorem ac2 {α:Type}{enc:α→List Data}{xs:List α}{a:α}{j k bytes id off:Nat}{y:Opd}{u u' :List Nat}{d' :Option Nat}{g' :Option (Nat×Bool)}{n' :Nat}{cs' :List Data}{c d:Data}{old new:List AVal}{H2:Heap}
  (hr:roomFor (xs.length+1) bytes=true) (he:enc a=[c,d]) (hj:lk n rl j=some (.d (.slice n' cs')):=by rfl) (ha:ais[j]? =some ⟨.load none (.loc k),d',g',u'⟩:=by rfl) (hk:lk n rl k=some (.ptr id off):=by rfl) (ht:tch.any (Touch.cellHit id off)=false:=by rfl) (hl:l.may id=true:=by rfl) (ho:H[id]? =some (.cells old):=by rfl) (hc:old[off]? =some (ownL 2 enc xs):=by rfl)
  (hy:rq T n rl y= .d (.slice 1 [c,d]):=by rfl) (hN:old.set off (.d (encL enc xs))=new:=by rfl) (hH:H.set id (.cells new)=H2:=by simp only [List.set_cons_zero,List.set_cons_succ]<;>rfl)
  (h2:Ry A l b dr ais ops T H2 (n+1) (ownL 2 enc (xs++[a])::rl) (.cell id off::tch) Q):Ry A l b dr ais (⟨.append 2 bytes false (.loc j) y,none,none,u⟩::ops) T H n rl tch Q :=
 Ry.appC hj ha hk ht hl ho hc hy rfl hr (by decide) (by
  have e1:ownL 2 enc (xs++[a])= .own 2 (xs.length+1) (xs.flatMap enc++[c,d]):=by simp [ownL,he]
  rw [e1] at h2
  subst hH hN
  exact h2)
theorem ac1 {α:Type}{enc:α→List Data}{xs:List α}{a:α}{j k bytes id off:Nat}{y:Opd}{u u' :List Nat}{d' :Option Nat}{g' :Option (Nat×Bool)}{n' :Nat}{cs' :List Data}{c:Data}{old new:List AVal}{H2:Heap}
  (hr:roomFor (xs.length+1) bytes=true) (he:enc a=[c]) (hj:lk n rl j=some (.d (.slice n' cs')):=by rfl) (ha:ais[j]? =some ⟨.load none (.loc k),d',g',u'⟩:=by rfl) (hk:lk n rl k=some (.ptr id off):=by rfl) (ht:tch.any (Touch.cellHit id off)=false:=by rfl) (hl:l.may id=true:=by rfl) (ho:H[id]? =some (.cells old):=by rfl) (hc:old[off]? =some (ownL 1 enc xs):=by rfl)
  (hy:rq T n rl y= .d (.slice 1 [c]):=by rfl) (hN:old.set off (.d (encL enc xs))=new:=by rfl) (hH:H.set id (.cells new)=H2:=by simp only [List.set_cons_zero,List.set_cons_succ]<;>rfl)
  (h2:Ry A l b dr ais ops T H2 (n+1) (ownL 1 enc (xs++[a])::rl) (.cell id off::tch) Q):Ry A l b dr ais (⟨.append 1 bytes false (.loc j) y,none,none,u⟩::ops) T H n rl tch Q :=
 Ry.appC hj ha hk ht hl ho hc hy rfl hr (by decide) (by
  have e1:ownL 1 enc (xs++[a])= .own 1 (xs.length+1) (xs.flatMap enc++[c]):=by simp [ownL,he]
  rw [e1] at h2
  subst hH hN
  exact h2)
theorem soO {id off j z n0:Nat}{y:Opd}{u:List Nat}{cs:List Data}{old new:List AVal}{H2:Heap}{r2:List AVal}(hy:rq T n rl y= .ptr id off:=by rfl)(hj:lk n rl j=some (.own z n0 cs):=by rfl)(hjb:Nat.ble (j+1) n=true:=by rfl)(hl:l.may id=true:=by rfl)
  (ho:H[id]? =some (.cells old):=by rfl) (hq:Nat.ble (off+1) old.length=true:=by rfl) (hd:dr=true→Nat.ble (bndU ais) n=true:=by intro;rfl) (hN:old.set off (.own z n0 cs)=new:=by rfl) (hH:H.set id (.cells new)=H2:=by simp only [List.set_cons_zero,List.set_cons_succ]<;>rfl)
  (hS:rl.set (n - (j+1)) (.d (.slice n0 cs))=r2:=by simp only [Nat.reduceAdd,Nat.reduceSub,List.set_cons_zero,List.set_cons_succ]<;>rfl)
  (h2:Ry A l b dr ais ops T H2 (n+1) (.any::r2) (.obj id::tch) Q):Ry A l b dr ais (⟨.store 1 y (.loc j),none,none,u⟩::ops) T H n rl tch Q:=fun hn=>by
 subst hH hN hS
 have hq' :off<old.length:=Nat.le_of_ble_eq_true hq
 have hjl:rl.reverse[j]? =some (.own z n0 cs):=by rw [lk_rev hn];exact hj
 have hL:∀ r:List AVal,(rl.reverse++ .any::r)[j]? =some (.own z n0 cs):=fun r=>mid_at hjl _
 have hjn:j<rl.reverse.length:=by simp only [List.length_reverse,hn];exact Nat.le_of_ble_eq_true hjb
 have h3:∀ (a:AVal) (r:List AVal),(rl.reverse++a::r).set j (.d (.slice n0 cs))=rl.reverse.set j (.d (.slice n0 cs))++a::r:=fun a r=>List.set_append_left _ _ hjn
 have hlen:(rl.reverse.set j (.d (.slice n0 cs))).length=rl.reverse.length:=by simp
 have h4:∀ (a v:AVal) (r:List AVal),(rl.reverse.set j (.d (.slice n0 cs))++a::r).set rl.reverse.length v=rl.reverse.set j (.d (.slice n0 cs))++v::r:=fun a v r=>by rw [← hlen];exact set_mid _ _ _ _
 have h1:splice old off [.own z n0 cs]=old.set off (.own z n0 cs):=by
  simp only [splice,List.length_singleton]
  rw [List.set_eq_take_append_cons_drop,if_pos hq']
  simp
 have hw:wr H id off [.own z n0 cs]=some (H.set id (.cells (old.set off (.own z n0 cs)))):=by
  simp only [wr,ho,List.length_singleton,h1]
  rw [if_pos (by omega)]
 have h2' :=h2.to (by simp [hn])
 rw [← rev_set hn hjb] at h2'
 have e1:∀ k,0≤k→stepA (EnvN A k l b) ais none rl.reverse.length ⟨.store 1 y (.loc j),none,none,u⟩ ⟨T,H,rl.reverse++ .any::List.replicate ops.length .any,tch⟩=some (⟨T,H.set id (.cells (old.set off (.own z n0 cs))),rl.reverse.set j (.d (.slice n0 cs))++ .any::List.replicate ops.length .any,.obj id::tch⟩,[]):=fun k _=>by
  have hl' :(EnvN A k l b).lim.may id=true:=hl
  have hx:Abs.xfer ⟨T,H,rl.reverse++ .any::List.replicate ops.length .any,tch⟩ (.loc j)=(.own z n0 cs,⟨T,H,rl.reverse.set j (.d (.slice n0 cs))++ .any::List.replicate ops.length .any,tch⟩):=by
   simp only [Abs.xfer,hL,h3]
  have hb0:bndL [AVal.own z n0 cs]≤id+1:=Nat.zero_le _
  have hc1:(AVal.own z n0 cs).cells? =some [.own z n0 cs]:=rfl
  simp only [stepA,wantedA,stepW,AOp.isEff,if_true,effOp,rq_rho hn,hy,storeEff,hx,hc1,List.length_singleton,hl',hb0,true_or,and_self,hw,put,h4,toSlotX,toSlot]
 cases dr with
 |false=>exact Rx.stepT (N1:=0) (rs:=[]) hlen e1 h2'
 |true =>
  refine Rx.stepH (N1:=0) (rs:=[]) hlen rfl rfl e1 (fun h=> ?_) h2'
  have:=Nat.le_of_ble_eq_true (hd rfl)
  simp [hn] at h
  omega
end S
end
end Go.Abs
namespace Go.Abs
section
variable {A:Prog} {l:Lim} {b:Nat}
variable {dr:Bool} {ais ops:List AIns} {T:List AVal} {H:Heap} {n:Nat} {rl:List AVal} {tch:List Touch} {Q:List AVal→Heap→List AVal→Prop}
namespace S
theorem cv1 {f:FuncId}{x:Opd}{xs:List Opd}{u:List Nat}{v:AVal}{first caps args:List AVal}{m:Nat}{H0 H1:Heap}{l2:Lim}(hc:Pm A f args H0 l2 v H1)(hH1:H1.length=m)(h2:Ry A l b dr ais ops T H (n+1) (v::rl) tch Q)(hbo:bndO ((H.take m).drop l.strict)≤m:=by exact Nat.zero_le _)(hcl:closeN H l.strict 8 (bndL args)=m:=by rfl)
  (hH0:H.take m=H0:=by rfl) (hle:Nat.ble m H.length=true:=by rfl) (hl2:(⟨0,m,m,strictOf H l.strict m⟩:Lim)=l2:=by rfl) (hx:rq T n rl x= .func f first caps:=by rfl)
  (ha:first++xs.map (rq T n rl)++caps=args:=by rfl) (hpr:A.prom f=false:=by rfl) (hm:A.mode f=1:=by rfl):Ry A l b dr ais (⟨.callv x xs,none,none,u⟩::ops) T H n rl tch Q:=fun hn=>by
 obtain ⟨M,hc⟩:=hc
 subst hH0
 refine Rx.step (N1:=M) (rs:=[]) rfl rfl (fun k hk=> ?_) (fun rs=>by simp [hitsObj]) (h2.to hn)
 have h3:callEff (EnvN A k l b) rl.reverse.length f args ⟨T,H,rl.reverse++ .any::List.replicate ops.length .any,tch⟩=some (put ⟨T,H,rl.reverse++ .any::List.replicate ops.length .any,tch⟩ rl.reverse.length v) :=
  callEff1 hpr hm hcl (Nat.le_of_ble_eq_true hle) hbo hl2 (hc k hk) hH1
 simp only [stepA,wantedA,stepW,AOp.isEff,if_true,effOp,rq_rho hn,hx,rq_all hn,ha,h3,toSlotX,toSlot,put,set_mid]
theorem cv0 {f:FuncId}{x:Opd}{xs:List Opd}{u:List Nat}{v:AVal}{first caps args:List AVal}{m:Nat}{H0 HD H1 H2:Heap}{l2:Lim}(hc:Pm A f args H0 l2 v H1)(hH1:H1.length=m)(hbo:bndO ((H.take m).drop l.strict)≤m:=by exact Nat.zero_le _)(hcl:closeN H l.strict 8 (bndL args)=m:=by rfl)
  (hH0:H.take m=H0:=by rfl) (hle:Nat.ble m H.length=true:=by rfl) (hl2:(⟨l.flo,l.fhi,m,strictOf H l.strict m⟩:Lim)=l2:=by rfl) (hx:rq T n rl x= .func f first caps:=by rfl)
  (ha:first++xs.map (rq T n rl)++caps=args:=by rfl) (hpr:A.prom f=false:=by rfl) (hm:A.mode f=0:=by rfl) (hD:H.drop m=HD:=by rfl) (hA:H1++HD=H2:=by first|(simp only [List.cons_append,List.nil_append]<;>rfl)|rfl)
  (h2:Ry A l b false ais ops T H2 (n+1) (v::rl) (.below m::tch) Q):Ry A l b false ais (⟨.callv x xs,none,none,u⟩::ops) T H n rl tch Q:=fun hn=>by
 obtain ⟨M,hc⟩:=hc
 subst hH0 hD hA
 refine Rx.stepT (N1:=M) (rs:=[]) rfl (fun k hk=> ?_) (h2.to hn)
 have h3:callEff (EnvN A k l b) rl.reverse.length f args ⟨T,H,rl.reverse++ .any::List.replicate ops.length .any,tch⟩=some (put ⟨T,H1++H.drop m,rl.reverse++ .any::List.replicate ops.length .any,.below m::tch⟩ rl.reverse.length v) :=
  callEff0 hpr hm hcl (Nat.le_of_ble_eq_true hle) hbo hl2 (hc k hk) hH1
 simp only [stepA,wantedA,stepW,AOp.isEff,if_true,effOp,rq_rho hn,hx,rq_all hn,ha,h3,toSlotX,toSlot,put,set_mid]
end S
end
end Go.Abs
namespace Go.Abs
section
variable {A:Prog} {l:Lim} {b:Nat}
def LC (ais:List AIns)(na k:Nat)(e:LogE):Prop :=
 na ∉ e.reads∧(k<bndU ais→∀ rs,na ∉ rs→hitsObj e.hits rs=false)∧e.sees≤na∧(∀ i,ais[k]? =some i→i.op.isAlloc=true→e.id=na)∧(∀ i,ais[k]? =some i→i.op.rdr=false→e.reads=[])
def Rz (A:Prog)(l:Lim)(b:Nat)(ais ops:List AIns)(T:List AVal)(H:Heap)(n:Nat)(rl:List AVal)(tch:List Touch)(na:Nat)(Q:List AVal→Heap→List AVal→Prop):Prop :=
 rl.length=n→∃ r N,Q r.T r.H r.L∧∀ k,N≤k→∃ lg:List LogE,runOpsD (EnvN A k l b) ais ops n na ⟨T,H,rl.reverse++List.replicate ops.length .any,tch⟩=some (r,lg)∧lg.length=ops.length∧∀ j e,lg[j]? =some e→LC ais na (n+j) e
variable {ais ops:List AIns} {T:List AVal} {H:Heap} {n:Nat} {rl:List AVal} {tch:List Touch} {na:Nat} {Q:List AVal→Heap→List AVal→Prop}
theorem Rn.of_z {T:List AVal}{H:Heap}{s:Nat}(hal:allocsOf ops=[.dead])(hsl:slotsOf ops=[.slot s])(hu:∀ i,i ∈ ops→∀ e,e ∈ i.unord→e<ops.length)(h:Rz A l b ops ops T (H++[.dead]) 0 [] [.slot s] H.length Q):Rn A l b ops true T H Q:=by
 obtain ⟨r,N,hq,h⟩:=h rfl
 refine ⟨r,N,hq,fun n hn=> ?_⟩
 obtain ⟨lg,e1,e2,e3⟩:=h n hn
 simp only [List.reverse_nil,List.nil_append,Nat.zero_add] at e1 e3
 have hlog:okLog ops lg=true:=by
  simp only [okLog,List.all_eq_true]
  rintro ⟨i,le⟩ hil e he
  obtain ⟨j,hj,hji⟩:=List.getElem_of_mem hil
  simp only [List.length_zip] at hj
  have hj1:j<ops.length:=by omega
  have hj2:j<lg.length:=by omega
  simp only [List.getElem_zip,Prod.mk.injEq] at hji
  obtain ⟨rfl,rfl⟩:=hji
  have hi:ops[j] ∈ ops:=List.getElem_mem hj1
  have hlt:=hu _ hi e he
  have he2:e<lg.length:=by omega
  rw [List.getElem?_eq_getElem he2]
  have c1:=e3 j _ (List.getElem?_eq_getElem hj2)
  have c2:=e3 e _ (List.getElem?_eq_getElem he2)
  cases hr:ops[j].op.rdr with
  |true =>
   have hb:=bndU_mem hi hr he
   have h5:=c2.2.1 hb _ c1.1
   have ha:ops[j].op.isAlloc=false:=by
    cases ho:ops[j].op<;>rw [ho] at hr<;>first|rfl|(cases hr)
   simp [h5,ha]
  |false =>
   have h5:=c1.2.2.2.2 _ (List.getElem?_eq_getElem hj1) hr
   cases ha:ops[j].op.isAlloc with
   |false=>simp [h5,hitsObj]
   |true =>
    have h7:=c1.2.2.2.1 _ (List.getElem?_eq_getElem hj1) ha
    have h6:=c2.2.2.1
    simp [h5,hitsObj]
    omega
 simp only [runRegion,if_true,hal,hsl,e1,hlog]
theorem Rz.nil (h:Q T H rl.reverse):Rz A l b ais [] T H n rl tch na Q:=fun _=>⟨⟨T,H,rl.reverse,tch⟩,0,h,fun _ _=>⟨[],by simp [runOpsD],rfl,fun j e h=>by simp at h⟩⟩
theorem Rz.step {i:AIns}{T' :List AVal}{H' :Heap}{v:AVal}{tch' :List Touch}{rs:List Nat}{N1:Nat}(hk:∀ L,killing ⟨T,H,L,tch⟩ i.op=false)(hi:ais[n]? =some i)
  (h:rl.length=n→∀ k,N1≤k→stepA (EnvN A k l b) ais (if i.op.isAlloc then some na else none) n i ⟨T,H,rl.reverse++ .any::List.replicate ops.length .any,tch⟩=some (⟨T',H',rl.reverse++v::List.replicate ops.length .any,tch'⟩,rs))
  (hr:na ∉ rs) (ht:n<bndU ais→∀ rs,na ∉ rs→hitsObj (newHit (if i.op.isAlloc then some na else none)++tch'.take (tch'.length - tch.length)) rs=false) (hse:∀ k,seesOf (EnvN A k l b) ⟨T,H,rl.reverse++ .any::List.replicate ops.length .any,tch⟩ i.op≤na)
  (hn2:i.op.isAlloc=true→∀ j,j ∈ ops→j.op.isAlloc=false) (h2:∀ na',(i.op.isAlloc=false→na' =na)→Rz A l b ais ops T' H' (n+1) (v::rl) tch' na Q∧(i.op.isAlloc=true→∀ k r lg,runOpsD (EnvN A k l b) ais ops (n+1) na ⟨T',H',(v::rl).reverse++List.replicate ops.length .any,tch'⟩=some (r,lg)→runOpsD (EnvN A k l b) ais ops (n+1) (na+1) ⟨T',H',(v::rl).reverse++List.replicate ops.length .any,tch'⟩=some (r,lg))) :
  Rz A l b ais (i::ops) T H n rl tch na Q:=fun hn=>by
 obtain ⟨h2,h2a⟩:=h2 na (fun _=>rfl)
 obtain ⟨r,N,hq,h2⟩:=h2 (by simp [hn])
 refine ⟨r,max N N1,hq,fun k hkk=> ?_⟩
 obtain ⟨lg,e1,e2,e3⟩:=h2 k (by omega)
 have h4:=h hn k (by omega)
 have e1' :runOpsD (EnvN A k l b) ais ops (n+1) (if i.op.isAlloc then na+1 else na) ⟨T',H',rl.reverse++v::List.replicate ops.length .any,tch'⟩=some (r,lg):=by
  cases ha:i.op.isAlloc with
  |false=>simpa using e1
  |true=>simpa using h2a ha k r lg e1
 refine ⟨logOf (EnvN A k l b) i (if i.op.isAlloc then some na else none) ⟨T,H,rl.reverse++ .any::List.replicate ops.length .any,tch⟩ ⟨T',H',rl.reverse++v::List.replicate ops.length .any,tch'⟩ rs::lg,?_,by simp [e2],?_⟩
 ·simp only [runOpsD,List.length_cons,List.replicate_succ,stepD,hk,Bool.false_and,Bool.false_eq_true,if_false,h4,e1']
 ·intro j e he
  cases j with
  |zero =>
   simp only [List.getElem?_cons_zero,Option.some.injEq] at he
   subst he
   refine ⟨hr,fun hb=>ht (by omega),hse k,fun i' hi' ha=> ?_,fun i' hi' hr' => ?_⟩
   ·rw [Nat.add_zero,hi] at hi'
    cases hi'
    simp [logOf,ha]
   ·rw [Nat.add_zero,hi] at hi'
    cases hi'
    exact step_reads h4 hr'
  |succ j =>
   simp only [List.getElem?_cons_succ] at he
   have:=e3 j e he
   rwa [Nat.add_assoc,Nat.add_comm 1 j] at this
theorem runOpsD_na {E:Env}:∀ (ops:List AIns) (k na na' :Nat) (st:RSt),(∀ j,j ∈ ops→j.op.isAlloc=false)→runOpsD E ais ops k na st=runOpsD E ais ops k na' st
 |[],_,_,_,_,_=>rfl
 |i::ops,k,na,na',st,h=>by
  have hi:=h i (List.mem_cons_self)
  simp only [runOpsD,hi,Bool.false_eq_true,if_false]
  cases stepD E ais none k i st with
  |none=>rfl
  |some x=>simp only [runOpsD_na ops (k+1) na na' x.1 (fun j hj=>h j (List.mem_cons_of_mem _ hj))]
end
end Go.Abs
namespace Go.Abs
section
variable {A:Prog} {l:Lim} {b:Nat}
variable {ais ops:List AIns} {T:List AVal} {H:Heap} {n:Nat} {rl:List AVal} {tch:List Touch} {na:Nat} {Q:List AVal→Heap→List AVal→Prop}
theorem Rz.simple {i:AIns}{v:AVal}{rs:List Nat}{N1:Nat}(ha:i.op.isAlloc=false)(hk:∀ L,killing ⟨T,H,L,tch⟩ i.op=false)(hi:ais[n]? =some i)
  (h:rl.length=n→∀ k,N1≤k→stepA (EnvN A k l b) ais none n i ⟨T,H,rl.reverse++ .any::List.replicate ops.length .any,tch⟩=some (⟨T,H,rl.reverse++v::List.replicate ops.length .any,tch⟩,rs))
  (hr:na ∉ rs) (hs:∀ k,seesOf (EnvN A k l b) ⟨T,H,rl.reverse++ .any::List.replicate ops.length .any,tch⟩ i.op≤na) (h2:Rz A l b ais ops T H (n+1) (v::rl) tch na Q):Rz A l b ais (i::ops) T H n rl tch na Q :=
 Rz.step (N1:=N1) hk hi (fun hn k hk=>by rw [ha];exact h hn k hk) hr (fun _ rs _=>by rw [ha];simp [newHit,hitsObj]) hs (fun h=>by rw [ha] at h;cases h) (fun _ _=>⟨h2,fun h=>by rw [ha] at h;cases h⟩)
namespace S
theorem zn (h:Q T H rl.reverse):Rz A l b ais [] T H n rl tch na Q:=Rz.nil h
theorem zp {op:AOp}{u:List Nat}{rs:List Nat}(v:AVal)(hp:pureOp (rq T n rl) H op=some (v,rs))(h2:Rz A l b ais ops T H (n+1) (v::rl) tch na Q)(hr:na ∉ rs:=by simp)(hE:op.isEff=false:=by rfl)(ha:op.isAlloc=false:=by rfl)(hk:∀ L,killing ⟨T,H,L,tch⟩ op=false:=by intro;rfl)(hi:ais[n]? =some ⟨op,none,none,u⟩:=by rfl)
  (hs:∀ k,seesOf (EnvN A k l b) ⟨T,H,rl.reverse++ .any::List.replicate ops.length .any,tch⟩ op≤na:=by intro;exact Nat.zero_le _):Rz A l b ais (⟨op,none,none,u⟩::ops) T H n rl tch na Q:=by
 refine Rz.simple (N1:=0) (rs:=rs) ha hk hi (fun hn k _=> ?_) hr hs h2
 have hmv:∀ x,op≠ .mov x:=by
  rintro x rfl
  simp [pureOp] at hp
 have h4:pureOp (Abs.rho T (rl.reverse++ .any::List.replicate ops.length .any)) H op=some (v,rs):=by
  rw [show Abs.rho T (rl.reverse++ .any::List.replicate ops.length .any)=rq T n rl from funext fun x=>rq_rho hn _ x]
  exact hp
 have hsm:∀ (a:AVal) (r:List AVal),(rl.reverse++a::r).set n v=rl.reverse++v::r:=fun a r=>by rw [← hn,← List.length_reverse];exact set_mid _ _ _ _
 have h3:stepW (EnvN A k l b) ais none n op ⟨T,H,rl.reverse++ .any::List.replicate ops.length .any,tch⟩=some (⟨T,H,rl.reverse++v::List.replicate ops.length .any,tch⟩,rs):=by
  cases op<;>first
   |exact absurd rfl (hmv _)
   |(simp only [stepW,hE,Bool.false_eq_true,if_false,h4,put,hsm];done)
   |(simp [AOp.isEff] at hE;done)
 simp only [stepA,wantedA,h3,toSlotX,toSlot]
theorem zm {x:Opd}{u:List Nat}{v:AVal}(h2:Rz A l b ais ops T H (n+1) (v::rl) tch na Q)(hx:Oq T n rl x v:=by exact ⟨rfl,rfl⟩)(hi:ais[n]? =some ⟨.mov x,none,none,u⟩:=by rfl):Rz A l b ais (⟨.mov x,none,none,u⟩::ops) T H n rl tch na Q:=by
 refine Rz.simple (N1:=0) (rs:=[]) rfl (fun _=>rfl) hi (fun hn k _=> ?_) (by simp) (fun k=>Nat.zero_le _) h2
 have hsm:∀ (a:AVal) (r:List AVal),(rl.reverse++a::r).set n v=rl.reverse++v::r:=fun a r=>by rw [← hn,← List.length_reverse];exact set_mid _ _ _ _
 simp only [stepA,wantedA,stepW,AOp.isEff,Bool.false_eq_true,if_false,(hx.op hn).xfer,put,hsm,toSlotX,toSlot]
theorem zc {f:FuncId}{xs:List Opd}{u:List Nat}{v:AVal}{args:List AVal}{m:Nat}{H0 H1:Heap}{l2:Lim}(hc:Pm A f args H0 l2 v H1)(hH1:H1.length=m)(h2:Rz A l b ais ops T H (n+1) (v::rl) tch na Q)(hmn:m≤na:=by decide)(hbo:bndO ((H.take m).drop l.strict)≤m:=by exact Nat.zero_le _)(hcl:closeN H l.strict 8 (bndL args)=m:=by rfl)
  (hH0:H.take m=H0:=by rfl) (hle:Nat.ble m H.length=true:=by rfl) (hl2:(⟨0,m,m,strictOf H l.strict m⟩:Lim)=l2:=by rfl)
  (ha:xs.map (rq T n rl)=args:=by rfl) (hpr:A.prom f=false:=by rfl) (hm:A.mode f=1:=by rfl) (hi:ais[n]? =some ⟨.call f xs,none,none,u⟩:=by rfl) (hn0:rl.length=n:=by rfl):Rz A l b ais (⟨.call f xs,none,none,u⟩::ops) T H n rl tch na Q:=by
 obtain ⟨M,hc⟩:=hc
 subst hH0
 have hpr' :∀ k,(EnvN A k l b).prom f=false:=fun _=>hpr
 refine Rz.simple (N1:=M) (rs:=[]) rfl (fun _=>rfl) hi (fun hn k hk=> ?_) (by simp) (fun k=> ?_) h2
 ·have hsm:∀ (a:AVal) (r:List AVal),(rl.reverse++a::r).set n v=rl.reverse++v::r:=fun a r=>by rw [← hn,← List.length_reverse];exact set_mid _ _ _ _
  have h3:callEff (EnvN A k l b) n f args ⟨T,H,rl.reverse++ .any::List.replicate ops.length .any,tch⟩=some (put ⟨T,H,rl.reverse++ .any::List.replicate ops.length .any,tch⟩ n v) :=
   callEff1 hpr hm hcl (Nat.le_of_ble_eq_true hle) hbo hl2 (hc k hk) hH1
  simp only [stepA,wantedA,stepW,AOp.isEff,if_true,effOp,rq_all hn,ha,h3,toSlotX,toSlot,put,hsm]
 ·have hcl' :closeN H (EnvN A k l b).lim.strict 8 (bndL args)=m:=hcl
  simp only [seesOf,hpr',Bool.false_eq_true,if_false,rq_all hn0,ha,hcl']
  exact hmn
theorem za {zero:List AVal}{u:List Nat}{s:Nat}{T2:List AVal}{H2:Heap}(hs:T[s]?.isSome=true:=by rfl)(htc:tch.any (Touch.slotHit s)=true:=by rfl)(hT:T.set s (.ptr na 0)=T2:=by simp only [List.set_cons_zero,List.set_cons_succ]<;>rfl)(hH:H.set na (.cells zero)=H2:=by simp only [List.set_cons_zero,List.set_cons_succ]<;>rfl)
  (hi:ais[n]? =some ⟨.alloc zero,some s,none,u⟩:=by rfl) (hno:ops.all (fun j=> !j.op.isAlloc)=true:=by rfl) (h2:Rz A l b ais ops T2 H2 (n+1) (.ptr na 0::rl) tch na Q):Rz A l b ais (⟨.alloc zero,some s,none,u⟩::ops) T H n rl tch na Q:=by
 subst hT hH
 have hs:s<T.length:=by
  rcases Nat.lt_or_ge s T.length with h|h
  ·exact h
  ·rw [List.getElem?_eq_none h] at hs;cases hs
 have hno' :∀ j,j ∈ ops→j.op.isAlloc=false:=fun j hj=>by simpa using List.all_eq_true.1 hno j hj
 refine Rz.step (N1:=0) (rs:=[]) (fun _=>rfl) hi (fun hn k _=> ?_) (by simp) (fun _ rs hrs=> ?_) (fun k=>Nat.zero_le _) (fun _=>hno') (fun _ _=>⟨h2,fun _ k r lg h=>by rw [runOpsD_na ops _ (na+1) na _ hno'];exact h⟩)
 ·have hsm:∀ (a v:AVal) (r:List AVal),(rl.reverse++a::r).set n v=rl.reverse++v::r:=fun a v r=>by rw [← hn,← List.length_reverse];exact set_mid _ _ _ _
  have h3:∀ r:List AVal,(rl.reverse++ .ptr na 0::r)[n]? =some (.ptr na 0):=fun r=>by rw [← hn,← List.length_reverse];simp
  simp only [AOp.isAlloc,if_true,stepA,wantedA,stepW,AOp.isEff,effOp,newObjA,newId,Option.getD_some,put,hsm,toSlotX,toSlotN,hs,htc,Abs.xfer,h3,decide_true,Bool.and_self]
  simp [Abs.rho,AVal.asD,h3]
 ·simp only [AOp.isAlloc,if_true,newHit,Nat.sub_self,List.take_zero,List.append_nil,hitsObj,List.any_cons,List.any_nil,Bool.or_false]
  simp only [Touch.objHit]
  rw [List.any_eq_false]
  intro x hx
  simp
  rintro rfl
  exact hrs hx
theorem zs {m:Nat}{x y:Opd}{u:List Nat}{v:AVal}{cs old:List AVal}{H2:Heap}(hd:Nat.ble (bndU ais) n=true:=by rfl)(hy:rq T n rl y= .ptr na 0:=by rfl)(hx:Oq T n rl x v:=by exact ⟨rfl,rfl⟩)(hc:v.cells? =some cs:=by rfl)(hm:cs.length=m:=by rfl)(hl:l.may na=true:=by rfl)(hb:bndL cs=0:=by rfl)
  (ho:H[na]? =some (.cells old):=by rfl) (hq:old.length=m:=by rfl) (hH:H.set na (.cells cs)=H2:=by simp only [List.set_cons_zero,List.set_cons_succ]<;>rfl) (hi:ais[n]? =some ⟨.store m y x,none,none,u⟩:=by rfl)
  (h2:Rz A l b ais ops T H2 (n+1) (.any::rl) (.obj na::tch) na Q):Rz A l b ais (⟨.store m y x,none,none,u⟩::ops) T H n rl tch na Q:=by
 have hw:wr H na 0 cs=some H2:=by
  simp [wr,ho,hm,hq,splice,← hH]
  rw [List.drop_of_length_le (by omega)]
  simp
 refine Rz.step (N1:=0) (rs:=[]) (fun _=>rfl) hi (fun hn k _=> ?_) (by simp) (fun h=> ?_) (fun k=>Nat.zero_le _) (fun h=>by cases h) (fun _ _=>⟨h2,fun h=>by cases h⟩)
 ·have hl' :(EnvN A k l b).lim.may na=true:=hl
  have hb' :bndL cs≤na+1:=by omega
  have hsm:∀ (a v:AVal) (r:List AVal),(rl.reverse++a::r).set n v=rl.reverse++v::r:=fun a v r=>by rw [← hn,← List.length_reverse];exact set_mid _ _ _ _
  simp only [AOp.isAlloc,Bool.false_eq_true,if_false,stepA,wantedA,stepW,AOp.isEff,if_true,effOp,rq_rho hn,hy,storeEff,(hx.op hn).xfer,hc,hm,hl',hb',true_or,and_self,hw,put,hsm,toSlotX,toSlot]
 ·have:=Nat.le_of_ble_eq_true hd
  omega
end S
end
end Go.Abs
namespace Go.Abs
section
variable {A:Prog} {l:Lim} {b:Nat}
variable {dr:Bool} {ais ops:List AIns} {T:List AVal} {H:Heap} {n:Nat} {rl:List AVal} {tch:List Touch} {Q:List AVal→Heap→List AVal→Prop}
namespace S
theorem o12 {x y:Opd}{u:List Nat}{z1 z2:AVal}{c d:Data}(h2:Ry A l b dr ais ops T H (n+1) (.own 1 2 [c,d]::rl) tch Q)(hx:rq T n rl x= .d c:=by rfl)(hy:rq T n rl y= .d d:=by rfl):Ry A l b dr ais (⟨.bslice 1 2 [z1,z2] [(0,1,x),(1,1,y)] false,none,none,u⟩::ops) T H n rl tch Q :=
 Ry.pure (rs:=[]) rfl (by simp [pureOp,fillA,hx,hy,AVal.cells?,splice,datas?,AVal.data?,AVal.one]) h2
theorem lq2 {α β:Type}{e1:α→List Data}{e2:β→List Data}{xs:List α}{ys:List β}{x:Opd}{u:List Nat}{id z1 z2:Nat}(h2:Ry A l b dr ais ops T H (n+1) (.agg [.d (encL e1 xs),.d (encL e2 ys)]::rl) tch Q)(hx:rq T n rl x= .ptr id 0:=by rfl)(ho:H[id]? =some (.cells [ownL z1 e1 xs,ownL z2 e2 ys]):=by rfl) :
  Ry A l b dr ais (⟨.load (some 2) x,none,none,u⟩::ops) T H n rl tch Q :=
 Ry.pure (rs:=[id]) rfl (by simp [pureOp,hx,rd,ho,ownL,encL,AVal.asD]) h2
end S
end
end Go.Abs
namespace Go.Abs
section
variable {A:Prog} {l:Lim} {b:Nat}
variable {ais ops:List AIns} {T:List AVal} {H:Heap} {n:Nat} {rl:List AVal} {tch:List Touch} {na:Nat} {Q:List AVal→Heap→List AVal→Prop}
namespace S
theorem zix {α:Type} [Inhabited α] {enc:α→List Data}{xs:List α}{sz:Nat}{e:Int}{x y:Opd}{k:IntKind}{u:List Nat}(h0:0≤e∧e<xs.length)(h2:Rz A l b ais ops T H (n+1) (.iptr (enc (nth xs e.toNat)++(xs.drop (e.toNat+1)).flatMap enc)::rl) tch na Q)(hx:rq T n rl x= .d (encL enc xs):=by rfl)(hy:rq T n rl y= .d (.int k e):=by rfl)(hs:∀ a,(enc a).length=sz:=by intro;rfl)
  (hi:ais[n]? =some ⟨.idxA sz x y,none,none,u⟩:=by rfl):Rz A l b ais (⟨.idxA sz x y,none,none,u⟩::ops) T H n rl tch na Q:=by
 refine zp (rs:=[]) _ ?_ h2 (hi:=hi)
 have hl:e.toNat<xs.length:=by omega
 have h3:=flatMap_drop hs xs e.toNat hl
 rw [← nth_eq hl] at h3
 simp only [pureOp,hx,hy,encL,h0,and_self,if_true,h3]
theorem zle {cs rest:List Data}{x:Opd}{m:Nat}{u:List Nat}(h2:Rz A l b ais ops T H (n+1) (.agg (cs.map .d)::rl) tch na Q)(hx:rq T n rl x= .iptr (cs++rest):=by rfl)(hm:cs.length=m:=by rfl)(hi:ais[n]? =some ⟨.load (some m) x,none,none,u⟩:=by rfl):Rz A l b ais (⟨.load (some m) x,none,none,u⟩::ops) T H n rl tch na Q:=by
 refine zp (rs:=[]) _ ?_ h2 (hi:=hi)
 subst hm
 simp [pureOp,hx]
theorem soD {dr:Bool}{m id:Nat}{x y:Opd}{u:List Nat}{v:AVal}{cs old:List AVal}{H2:Heap}(hd:Nat.ble (bndU ais) n=true:=by rfl)(hy:rq T n rl y= .ptr id 0:=by rfl)(hx:Oq T n rl x v:=by exact ⟨rfl,rfl⟩)(hc:v.cells? =some cs:=by rfl)(hm:cs.length=m:=by rfl)(hl:l.may id=true:=by rfl)(hb:bndL cs=0:=by rfl)
  (ho:H[id]? =some (.cells old):=by rfl) (hq:old.length=m:=by rfl) (hH:H.set id (.cells cs)=H2:=by simp only [List.set_cons_zero,List.set_cons_succ]<;>rfl)
  (h2:Ry A l b dr ais ops T H2 (n+1) (.any::rl) (.obj id::tch) Q):Ry A l b dr ais (⟨.store m y x,none,none,u⟩::ops) T H n rl tch Q :=
 store_draw hd hy hx hc hm hl (by omega) (by simp [wr,ho,hm,hq,splice,← hH];rw [List.drop_of_length_le (by omega)];simp) h2
end S
end
end Go.Abs
namespace Go.Abs
section
variable {A:Prog} {l:Lim} {b:Nat}
variable {dr:Bool} {ais ops:List AIns} {T:List AVal} {H:Heap} {n:Nat} {rl:List AVal} {tch:List Touch} {Q:List AVal→Heap→List AVal→Prop}
namespace S
theorem mk {u:List Nat}{id:Nat}{H2:Heap}(hi:H.length=id:=by simp only [List.length_cons,List.length_nil,Nat.reduceAdd]<;>rfl)(hH:H++[.map []]=H2:=by simp only [List.cons_append,List.nil_append]<;>rfl)
  (h2:Ry A l b false ais ops T H2 (n+1) (.map id::rl) tch Q):Ry A l b false ais (⟨.makeMap,none,none,u⟩::ops) T H n rl tch Q:=fun hn=>by
 subst hi hH
 refine Rx.stepT (N1:=0) (rs:=[]) rfl (fun n _=> ?_) (h2.to hn)
 simp only [stepA,wantedA,stepW,AOp.isEff,if_true,effOp,newObjA,newId,Option.getD_none,put,set_mid,toSlotX,toSlot]
theorem bso {sz len:Nat}{zero:List AVal}{parts:List (Nat×Nat×Opd)}{u:List Nat}{id:Nat}{H2:Heap}(cs:List AVal)(hr:fillA zero (parts.map fun p=>(p.1,p.2.1,rq T n rl p.2.2))=some cs)(h0:0<sz∧cs.length=len * sz)(hi:H.length=id:=by simp only [List.length_cons,List.length_nil,Nat.reduceAdd]<;>rfl)(hH:H++[.cells cs]=H2:=by simp only [List.cons_append,List.nil_append]<;>rfl)
  (h2:Ry A l b false ais ops T H2 (n+1) (.sref id sz 0 len::rl) tch Q):Ry A l b false ais (⟨.bslice sz len zero parts true,none,none,u⟩::ops) T H n rl tch Q:=fun hn=>by
 subst hi hH
 refine Rx.stepT (N1:=0) (rs:=[]) rfl (fun k _=> ?_) (h2.to hn)
 have hr' :fillA zero (parts.map fun p=>(p.1,p.2.1,Abs.rho T (rl.reverse++ .any::List.replicate ops.length .any) p.2.2))=some cs:=by
  rw [show Abs.rho T (rl.reverse++ .any::List.replicate ops.length .any)=rq T n rl from funext fun x=>rq_rho hn _ x]
  exact hr
 simp only [stepA,wantedA,stepW,AOp.isEff,if_true,effOp,hr',h0,and_self,newObjA,newId,Option.getD_none,put,set_mid,toSlotX,toSlot]
theorem lrT {x:Opd}{u:List Nat}{id sz lo len s:Nat}{T2:List AVal}(hx:rq T n rl x= .sref id sz lo len:=by rfl)(hs:T[s]?.isSome=true:=by rfl)(hT:T.set s (.d (.int .i64 (len:Int)))=T2:=by simp only [List.set_cons_zero,List.set_cons_succ]<;>rfl)
  (h2:Ry A l b dr ais ops T2 H (n+1) (.d (.int .i64 (len:Int))::rl) (.slot s::tch) Q):Ry A l b dr ais (⟨.len x,some s,none,u⟩::ops) T H n rl tch Q :=
 Ry.pureTo (v:= .d (.int .i64 (len:Int))) (rs:=[]) rfl (by simp only [pureOp,hx,i64]) rfl rfl hs (by rw [hT];exact h2)
theorem ixs {x y:Opd}{u:List Nat}{id sz lo len i:Nat}{k:IntKind}(hi:i<len)(h2:Ry A l b dr ais ops T H (n+1) (.ptr id (lo+i * sz)::rl) tch Q)(hx:rq T n rl x= .sref id sz lo len:=by rfl)(hy:rq T n rl y= .d (.int k ((i:Nat):Int)):=by rfl):Ry A l b dr ais (⟨.idxA sz x y,none,none,u⟩::ops) T H n rl tch Q :=
 Ry.pure (rs:=[]) rfl (by
  have h1:(i:Int)<len:=by omega
  simp [pureOp,hx,hy,h1]) h2
theorem lqV {x:Opd}{u:List Nat}{id o m:Nat}{vs:List AVal}(hr:rd H id o m=some vs)(hv:vs.map AVal.asD=vs)(h2:Ry A l b dr ais ops T H (n+1) (.agg vs::rl) tch Q)(hx:rq T n rl x= .ptr id o:=by rfl):Ry A l b dr ais (⟨.load (some m) x,none,none,u⟩::ops) T H n rl tch Q :=
 Ry.pure (rs:=[id]) rfl (by simp only [pureOp,hx,hr,hv]) h2
theorem soB {m id:Nat}{x y:Opd}{u:List Nat}{v:AVal}{cs old:List AVal}{H2:Heap}(hb:bndL cs≤id+1)(hy:rq T n rl y= .ptr id 0:=by rfl)(hx:Oq T n rl x v:=by exact ⟨rfl,rfl⟩)(hc:v.cells? =some cs:=by rfl)(hm:cs.length=m:=by rfl)(hl:l.may id=true:=by rfl)
  (ho:H[id]? =some (.cells old):=by rfl) (hq:old.length=m:=by rfl) (hH:H.set id (.cells cs)=H2:=by simp only [List.set_cons_zero,List.set_cons_succ]<;>rfl)
  (h2:Ry A l b false ais ops T H2 (n+1) (.any::rl) (.obj id::tch) Q):Ry A l b false ais (⟨.store m y x,none,none,u⟩::ops) T H n rl tch Q :=
 store_any hy hx hc hm hl hb (by simp [wr,ho,hm,hq,splice,← hH];rw [List.drop_of_length_le (by omega)];simp) h2
end S
theorem clean_of {mask:List Bool}{strict m:Nat}{T:List AVal}{H:Heap}(h1:bndL (maskT mask T)≤m)(h2:bndO ((H.take m).drop strict)≤m):clean mask strict m ⟨T,H⟩=⟨maskT mask T,H.take m⟩:=by
 simp [clean,h1,h2]
end
end Go.Abs
namespace Go.Abs
section
variable {A:Prog} {l:Lim} {b:Nat}
variable {ais ops:List AIns} {T:List AVal} {H:Heap} {n:Nat} {rl:List AVal} {tch:List Touch} {Q:List AVal→Heap→List AVal→Prop}
namespace S
theorem cp {f:FuncId}{xs:List Opd}{u:List Nat}{v:AVal}{args:List AVal}{H1:Heap}(hc:Pm A f args H l v H1)(hle:H.length≤H1.length)(h2:Ry A l b false ais ops T H1 (n+1) (v::rl) (.below H1.length::tch) Q)(ha:xs.map (rq T n rl)=args:=by rfl)(hpr:A.prom f=true:=by rfl) :
  Ry A l b false ais (⟨.call f xs,none,none,u⟩::ops) T H n rl tch Q:=fun hn=>by
 obtain ⟨M,hc⟩:=hc
 refine Rx.stepT (N1:=M) (rs:=[]) rfl (fun k hk=> ?_) (h2.to hn)
 have hpr' :(EnvN A k l b).prom f=true:=hpr
 have hc' :(EnvN A k l b).cf f args H (EnvN A k l b).lim=some (v,H1):=hc k hk
 have h3:callEff (EnvN A k l b) rl.reverse.length f args ⟨T,H,rl.reverse++ .any::List.replicate ops.length .any,tch⟩=some (put ⟨T,H1,rl.reverse++ .any::List.replicate ops.length .any,.below H1.length::tch⟩ rl.reverse.length v):=by
  simp only [callEff,hpr',if_true,hc',hle]
 simp only [stepA,wantedA,stepW,AOp.isEff,if_true,effOp,rq_all hn,ha,h3,toSlotX,toSlot,put,set_mid]
end S
end
end Go.Abs
namespace Go.Abs
theorem killL_map (id:Nat):∀ l:List AVal,killL id l=l.map (AVal.kill id)
 |[]=>rfl
 |v::l=>by simp [killL,killL_map id l]
theorem killL_mid {id m:Nat}(rl:List AVal):killL id (rl.reverse++ .any::List.replicate m .any)=(killL id rl).reverse++ .any::List.replicate m .any:=by
 simp [killL_map,AVal.kill]
theorem Pm.prim {A:Prog}{f:FuncId}{args:List AVal}{H H1:Heap}{l:Lim}{v:AVal}{p:List AVal→Heap→Lim→Option (AVal×Heap)}(hp:A.prim f=some p)(h:p args H l=some (v,H1)):Pm A f args H l v H1 :=
 ⟨1,fun n hn=>by
  obtain ⟨n,rfl⟩:∃ j,n=j+1:=⟨n - 1,by omega⟩
  simp only [call,hp,h]⟩
section
variable {A:Prog} {l:Lim} {b:Nat}
variable {dr:Bool} {ais ops:List AIns} {T:List AVal} {H:Heap} {n:Nat} {rl:List AVal} {tch:List Touch} {Q:List AVal→Heap→List AVal→Prop}
theorem Ry.appSP {j s sz bytes id off:Nat}{y:Opd}{u u' :List Nat}{d' :Option Nat}{g' :Option (Nat×Bool)}{n' len m:Nat}{cs' cells new:List Data}{old:List AVal}
  (hj:lk n rl j=some (.d (.slice n' cs'))) (ha:ais[j]? =some ⟨.load none (.slot s),d',g',u'⟩) (hk:T[s]? =some (.ptr id off)) (hts:tch.any (Touch.slotHit s)=false) (ht:tch.any (Touch.cellHit id off)=false) (hl:l.may id=true) (ho:H[id]? =some (.cells old)) (hc:old[off]? =some (.own sz len cells))
  (hy:rq T n rl y= .d (.slice m new)) (hn' :new.length=m * sz) (hr:roomFor (len+m) bytes=true) (h0:0<sz)
  (h2:Ry A l b dr ais ops T (H.set id (.cells (old.set off (.d (.slice len cells))))) (n+1) (.own sz (len+m) (cells++new)::rl) (.cell id off::tch) Q):Ry A l b dr ais (⟨.append sz bytes false (.loc j) y,none,none,u⟩::ops) T H n rl tch Q:=fun hn=>by
 have hjl:rl.reverse[j]? =some (.d (.slice n' cs')):=by rw [lk_rev hn];exact hj
 have hL:∀ r:List AVal,(rl.reverse++ .any::r)[j]? =some (.d (.slice n' cs')):=fun r=>mid_at hjl _
 have hrho:Abs.rho T (rl.reverse++ .any::List.replicate ops.length .any) (.loc j)= .d (.slice n' cs'):=by simp [Abs.rho,hL,AVal.asD]
 refine Rx.step (N1:=0) (rs:=[]) (by simp only [killing,hrho]) rfl (fun q _=> ?_) (cell_hits id off tch) (h2.to hn)
 have hl' :(EnvN A q l b).lim.may id=true:=hl
 have hs:sliceCells H sz (.d (.slice m new))=some (m,new.map .d):=by simp only [sliceCells,hn',if_true]
 simp only [stepA,wantedA,stepW,AOp.isEff,if_true,effOp,hrho,appendOwn,rq_rho hn,hy,hs,datas_map,Bool.false_eq_true,if_false,takeOwn,hL,ha,takeVia,ptrOf,hk,hts,ht,hl',Bool.not_true,Bool.or_self,ho,hc,hr,h0,and_self,put,set_mid,toSlotX,toSlot]
theorem S.ac1s {α:Type}{enc:α→List Data}{xs:List α}{a:α}{j s bytes id off:Nat}{y:Opd}{u u' :List Nat}{d' :Option Nat}{g' :Option (Nat×Bool)}{n' :Nat}{cs' :List Data}{c:Data}{old new:List AVal}{H2:Heap}
  (hr:roomFor (xs.length+1) bytes=true) (he:enc a=[c]) (hj:lk n rl j=some (.d (.slice n' cs')):=by rfl) (ha:ais[j]? =some ⟨.load none (.slot s),d',g',u'⟩:=by rfl) (hk:T[s]? =some (.ptr id off):=by rfl) (hts:tch.any (Touch.slotHit s)=false:=by rfl) (ht:tch.any (Touch.cellHit id off)=false:=by rfl) (hl:l.may id=true:=by rfl) (ho:H[id]? =some (.cells old):=by rfl) (hc:old[off]? =some (ownL 1 enc xs):=by rfl)
  (hy:rq T n rl y= .d (.slice 1 [c]):=by rfl) (hN:old.set off (.d (encL enc xs))=new:=by rfl) (hH:H.set id (.cells new)=H2:=by simp only [List.set_cons_zero,List.set_cons_succ]<;>rfl)
  (h2:Ry A l b dr ais ops T H2 (n+1) (ownL 1 enc (xs++[a])::rl) (.cell id off::tch) Q):Ry A l b dr ais (⟨.append 1 bytes false (.loc j) y,none,none,u⟩::ops) T H n rl tch Q :=
 Ry.appSP hj ha hk hts ht hl ho hc hy rfl hr (by decide) (by
  have e1:ownL 1 enc (xs++[a])= .own 1 (xs.length+1) (xs.flatMap enc++[c]):=by simp [ownL,he]
  rw [e1] at h2
  subst hH hN
  exact h2)
theorem S.mvA {s:Nat}{w v:AVal}{u:List Nat}(hw:w.asD=v)(h2:Ry A l b dr ais ops T H (n+1) (v::rl) tch Q)(hx:T[s]? =some w:=by rfl):Ry A l b dr ais (⟨.mov (.slot s),none,none,u⟩::ops) T H n rl tch Q:=fun hn=>by
 subst hw
 refine Rx.step (N1:=0) (rs:=[]) rfl rfl (fun q _=> ?_) (fun rs=>by simp [hitsObj]) (h2.to hn)
 have h3:Abs.rho T (rl.reverse++ .any::List.replicate ops.length .any) (.slot s)=w.asD:=by simp [Abs.rho,hx]
 simp only [stepA,wantedA,stepW,AOp.isEff,Bool.false_eq_true,if_false,Abs.xfer,h3,put,set_mid,toSlotX,toSlot]
end
section
variable {A:Prog} {l:Lim} {b:Nat}
variable {ais ops:List AIns} {T:List AVal} {H:Heap} {n:Nat} {rl:List AVal} {tch:List Touch} {Q:List AVal→Heap→List AVal→Prop}
namespace S
theorem mn {dr:Bool}{s:Nat}{T2:List AVal}{u:List Nat}(hs:T[s]?.isSome=true:=by rfl)(hT:T.set s .nils=T2:=by simp only [List.set_cons_zero,List.set_cons_succ]<;>rfl)(h2:Ry A l b dr ais ops T2 H (n+1) (.nils::rl) (.slot s::tch) Q) :
  Ry A l b dr ais (⟨.mov (.const .nils),some s,none,u⟩::ops) T H n rl tch Q:=fun hn=>by
 subst hT
 have hs' :s<T.length:=by
  rcases Nat.lt_or_ge s T.length with h|h
  ·exact h
  ·rw [List.getElem?_eq_none h] at hs;cases hs
 refine Rx.step (N1:=0) (rs:=[]) rfl rfl (fun n _=> ?_) (slot_hits s tch) (h2.to hn)
 have h5:∀ r:List AVal,(rl.reverse++ .nils::r)[rl.reverse.length]? =some .nils:=fun r=>by simp
 simp only [stepA,wantedA,stepW,AOp.isEff,Bool.false_eq_true,if_false,Abs.xfer,put,set_mid,toSlotX,toSlot,hs',if_true,h5]
theorem zsb {na:Nat}{x y:Opd}{c d:Int}{u:List Nat}(h0: -9223372036854775808≤c - d∧c - d<9223372036854775808)(h2:Rz A l b ais ops T H (n+1) (.d (.int .i64 (c - d))::rl) tch na Q)(hx:rq T n rl x= .d (.int .i64 c):=by rfl)(hy:rq T n rl y= .d (.int .i64 d):=by rfl)
  (hi:ais[n]? =some ⟨.bin .sub x y,none,none,u⟩:=by rfl):Rz A l b ais (⟨.bin .sub x y,none,none,u⟩::ops) T H n rl tch na Q :=
 zp (rs:=[]) _ (by simp only [pureOp,hx,hy,bin_i64 (Or.inr ⟨rfl,rfl⟩) h0.1 h0.2]) h2 (hi:=hi)
theorem apo {x y:Opd}{u:List Nat}{sz bytes id len m k2:Nat}{old cs T2 rl2:List AVal}{H2:Heap}(hr:roomFor (len+m) bytes=true)(hc:sliceCells H sz (rq T n rl y)=some (m,cs))(hol:len * sz=old.length)(hone:cs.all AVal.one=true)(hbc:bndL cs=0)
  (hx:rq T n rl x= .sref id sz 0 len:=by rfl) (hid:Nat.ble l.base id=true:=by rfl) (hbi:Nat.ble b id=true:=by rfl) (hl:l.may id=true:=by rfl) (ho:H[id]? =some (.cells old):=by rfl) (hsz:Nat.ble 1 sz=true:=by rfl)
  (hT:killL id T=T2:=by rfl) (hL:killL id rl=rl2:=by rfl) (hH:(H.take l.base++(H.drop l.base).map (AObj.kill id)).set id (.cells (killL id old++cs))=H2:=by rfl)
  (hk2:len+m=k2:=by rfl) (h2:Ry A l b false ais ops T2 H2 (n+1) (.sref id sz 0 k2::rl2) (.obj id::tch) Q):Ry A l b false ais (⟨.append sz bytes true x y,none,none,u⟩::ops) T H n rl tch Q:=fun hn=>by
 subst hT hH hL hk2
 have hid:=Nat.le_of_ble_eq_true hid
 have hbi:=Nat.le_of_ble_eq_true hbi
 have hsz:0<sz:=Nat.le_of_ble_eq_true hsz
 have hn2:(killL id rl).length=n:=by rw [killL_len];exact hn
 refine Rx.stepT (N1:=0) (rs:=[]) (by simp [killL_len]) (fun k _=> ?_) (h2.to hn2)
 have hl' :(EnvN A k l b).lim.may id=true:=hl
 have he:(EnvN A k l b).lim.base≤id∧(EnvN A k l b).entry≤id∧(EnvN A k l b).lim.may id=true:=⟨hid,hbi,hl'⟩
 have hk:bndL cs≤id:=by omega
 have h5:appendObj (EnvN A k l b) rl.reverse.length sz bytes ⟨T,H,rl.reverse++ .any::List.replicate ops.length .any,tch⟩ id 0 len (rq T n rl y)=some (put ⟨killL id T,(H.take l.base++(H.drop l.base).map (AObj.kill id)).set id (.cells (killL id old++cs)),(killL id rl).reverse++ .any::List.replicate ops.length .any,.obj id::tch⟩ rl.reverse.length (.sref id sz 0 (len+m))):=by
  simp only [appendObj,he,and_self,if_true,ho,hc,hol,hr,hk,hone,hsz,killL_mid]
  rfl
 have hln:rl.reverse.length=(killL id rl).reverse.length:=by simp [killL_len]
 simp only [stepA,wantedA,stepW,AOp.isEff,if_true,effOp,rq_rho hn,hx,h5,toSlotX,toSlot,put]
 rw [hln,set_mid]
end S
end
end Go.Abs
namespace Go.Abs.S
theorem gx {Γ Δ:Prop}(k:Δ)(h:PLift Δ→Γ:=by intro K;(first|refine Ex.seq ?_|refine Ex.region (Rn.text ?_)|refine Ex.region (Rn.draw ?_)|refine Ex.block ?_|refine nl ?_|refine Ex.skip ?_|refine Ex.exit ?_|refine Ex.ret ?_|refine wa ?_|refine sk ?_|refine st ?_|refine mv ?_|refine mt (h2:= ?_)|refine mo ?_|refine lp ?_|refine lpo ?_|refine fp ?_|refine ld ?_|refine lf ?_|refine ln ?_|refine li ?_|refine lo ?_|refine gi ?_|refine go ?_|refine ei ?_|refine ni ?_|refine es ?_|refine ns ?_|refine ad ?_|refine sb ?_|refine ng ?_|refine lt ?_|refine le ?_|refine lq ?_|refine lq3 ?_|refine lq2 ?_|refine o12 ?_|refine et ?_|refine ix (h2:= ?_)|refine pt ?_|refine pk ?_|refine mw (h2:= ?_)|refine ow (h2:= ?_)|refine bx (h2:= ?_)|refine bxn (h2:= ?_)|refine nk ?_|refine nki ?_|refine ac (h2:= ?_)|refine so (h2:= ?_)|refine sp1 (h2:= ?_)|refine o1 ?_|refine o1z ?_|refine ap1 (h2:= ?_)|refine e0 ?_|refine apN (h2:= ?_)|refine al1 (h2:= ?_)|refine alN (h2:= ?_)|refine alE (h2:= ?_)|refine xs (h2:= ?_)|refine xsN (h2:= ?_)|refine ixN (h2:= ?_)|refine ixZ (h2:= ?_)|refine ls ?_|refine lnT (h2:= ?_)|refine lsT (h2:= ?_)|refine ldT (h2:= ?_)|refine lpT (h2:= ?_)|refine qs ?_|refine qb ?_|refine mm ?_|refine ip ?_|refine ipN ?_|refine ipM ?_|refine ippN ?_|refine df ?_|refine mf ?_|refine bdl ?_|refine svh (h2:= ?_)|refine svl (h2:= ?_)|refine svb (h2:= ?_)|fail);exact K.down):Γ:=h ⟨k⟩
theorem gr {Γ Δ:Prop}(k:Δ)(h:PLift Δ→Γ:=by intro K;(repeat' (first|refine gx ?_|fail));exact K.down):Γ:=h ⟨k⟩
theorem cc {p:Prop}(h:p:=by first|(simp [*,oneOrTuple];done)|(simp_all [oneOrTuple];done)|(simp_all [oneOrTuple,ltB_eq,leB_eq,eqB_eq,seB_eq];done)|(simp_all [oneOrTuple,ltB_eq,leB_eq,eqB_eq,seB_eq]<;>omega)):p:=h
section
variable {A:Prog} {l:Lim} {b:Nat}
theorem tB {ops:List AIns}{draw:Bool}{c:Opd}{d e:ACode}{T:List AVal}{H:Heap}{Q:AExit→St→Prop}{Δ:Prop}(t:Bool)(k:Δ)(h2:t=true→Ex A l b d ⟨T,H⟩ Q)(h3:t=false→Ex A l b e ⟨T,H⟩ Q)
  (h:PLift Δ→Rn A l b ops draw T H fun T' H' L=>T' =T∧H' =H∧∃ t',rho T' L c= .d (.bool t')∧t' =t:=by intro K;first|exact Rn.text K.down|exact Rn.draw K.down):Ex A l b (.test ops draw c d e) ⟨T,H⟩ Q:=Ex.testB t (h ⟨k⟩) h2 h3
theorem tb {ops:List AIns}{draw:Bool}{c:Opd}{d e:ACode}{T:List AVal}{H:Heap}{Q:AExit→St→Prop}(t:Bool)(h2:t=true→Ex A l b d ⟨T,H⟩ Q)(h3:t=false→Ex A l b e ⟨T,H⟩ Q)
  (h:Rn A l b ops draw T H fun T' H' L=>T' =T∧H' =H∧∃ t',rho T' L c= .d (.bool t')∧t' =t:=by (first|refine Rn.text ?_|refine Rn.draw ?_|fail);(repeat' (first|refine gx ?_|refine fk (h1:=fun hw=> ?_) (h2:=fun hw=> ?_)|refine fpk (h1:=fun hw=> ?_) (h2:=fun hw=> ?_)|refine ⟨rfl,rfl,_,rfl,?_⟩|refine ⟨rfl,rfl⟩|fail));all_goals first|(simp [*,oneOrTuple];done)|(simp_all [oneOrTuple];done)|(simp_all [oneOrTuple,ltB_eq,leB_eq,eqB_eq,seB_eq];done)|(simp_all [oneOrTuple,ltB_eq,leB_eq,eqB_eq,seB_eq]<;>omega)) :
  Ex A l b (.test ops draw c d e) ⟨T,H⟩ Q:=Ex.testB t h h2 h3
end
end Go.Abs.S
namespace Go.Abs.S
section
variable {A:Prog} {l:Lim} {b:Nat} {dr:Bool}
variable {ais ops:List AIns} {T:List AVal} {H:Heap} {n:Nat} {rl:List AVal} {tch:List Touch} {Q:List AVal→Heap→List AVal→Prop}
theorem lqo {x:Opd}{m id o:Nat}{cs:List AVal}{u:List Nat}(h2:Ry A l b dr ais ops T H (n+1) (.agg cs::rl) tch Q)(hx:rq T n rl x= .ptr id o:=by rfl)(hr:rd H id o m=some cs:=by rfl)(hv:cs.map AVal.asD=cs:=by rfl) :
  Ry A l b dr ais (⟨.load (some m) x,none,none,u⟩::ops) T H n rl tch Q:=Ry.pure (rs:=[id]) rfl (by simp only [pureOp,hx,hr,hv]) h2
theorem mkm {u:List Nat}{id:Nat}{H2:Heap}(hi:H.length=id:=by simp only [List.length_cons,List.length_nil,Nat.reduceAdd]<;>rfl)(hH:H++[.map []]=H2:=by simp only [List.cons_append,List.nil_append]<;>rfl)
  (h2:Ry A l b false ais ops T H2 (n+1) (.map id::rl) tch Q):Ry A l b false ais (⟨.makeMap,none,none,u⟩::ops) T H n rl tch Q:=fun hn=>by
 subst hi
 have h2:=h2.to hn
 rw [← hH] at h2
 refine Rx.stepT (N1:=0) (rs:=[]) rfl (fun n _=> ?_) h2
 simp only [stepA,wantedA,stepW,AOp.isEff,if_true,effOp,newObjA,newId,Option.getD_none,put,set_mid,toSlotX,toSlot]
theorem soc {id off z:Nat}{y:Opd}{u:List Nat}{old new:List AVal}{H2:Heap}(hy:rq T n rl y= .ptr id off:=by rfl)(hl:l.may id=true:=by rfl)(ho:H[id]? =some (.cells old):=by rfl)(hq:Nat.ble (off+1) old.length=true:=by rfl)
  (hN:old.set off (.own z 0 [])=new:=by rfl) (hH:H.set id (.cells new)=H2:=by simp only [List.set_cons_zero,List.set_cons_succ]<;>rfl)
  (h2:Ry A l b false ais ops T H2 (n+1) (.any::rl) (.obj id::tch) Q):Ry A l b false ais (⟨.store 1 y (.const (.own z 0 [])),none,none,u⟩::ops) T H n rl tch Q:=fun hn=>by
 subst hN
 have hq' :off<old.length:=Nat.le_of_ble_eq_true hq
 refine Rx.stepT (N1:=0) (rs:=[]) rfl (fun k _=> ?_) (h2.to hn)
 have hl' :(EnvN A k l b).lim.may id=true:=hl
 have hw:wr H id off [.own z 0 []]=some H2:=by
  simp only [wr,ho,List.length_singleton]
  rw [if_pos (by omega),← hH]
  congr 3
  simp only [splice,List.length_singleton]
  rw [List.set_eq_take_append_cons_drop,if_pos hq']
  simp
 have hb:bndL [AVal.own z 0 []]≤id+1:=by simp [bndL,AVal.bnd]
 simp only [stepA,wantedA,stepW,AOp.isEff,if_true,effOp,rq_rho hn,hy,storeEff,Abs.xfer,AVal.cells?,AVal.one,List.length_singleton,hl',hb,true_or,and_self,hw,put,set_mid,toSlotX,toSlot]
end
end Go.Abs.S
namespace Go.Abs
section
variable {A:Prog} {l:Lim} {b:Nat}
def LW (ais:List AIns)(nb k:Nat)(e:LogE):Prop :=
 (∀ r ∈ e.reads,r<nb)∧(k<bndU ais→∀ rs:List Nat,(∀ r ∈ rs,r<nb)→hitsObj e.hits rs=false)∧e.sees≤nb∧(∀ i,ais[k]? =some i→i.op.isAlloc=true→nb≤e.id)∧(∀ i,ais[k]? =some i→i.op.rdr=false→e.reads=[])
def Rw (A:Prog)(l:Lim)(b:Nat)(ais ops:List AIns)(T:List AVal)(H:Heap)(n:Nat)(rl:List AVal)(tch:List Touch)(na nb:Nat)(Q:List AVal→Heap→List AVal→Prop):Prop :=
 rl.length=n→nb≤na→∃ r N,Q r.T r.H r.L∧∀ k,N≤k→∃ lg:List LogE,runOpsD (EnvN A k l b) ais ops n na ⟨T,H,rl.reverse++List.replicate ops.length .any,tch⟩=some (r,lg)∧lg.length=ops.length∧∀ j e,lg[j]? =some e→LW ais nb (n+j) e
variable {ais ops:List AIns} {T:List AVal} {H:Heap} {n:Nat} {rl:List AVal} {tch:List Touch} {na nb:Nat} {Q:List AVal→Heap→List AVal→Prop}
theorem Rn.of_w {T:List AVal}{H:Heap}(hu:ops.all (fun i=>i.unord.all fun e=>Nat.blt e ops.length)=true)(h:Rw A l b ops ops T (H++allocsOf ops) 0 [] (slotsOf ops) H.length H.length Q):Rn A l b ops true T H Q:=by
 obtain ⟨r,N,hq,h⟩:=h rfl (Nat.le_refl _)
 refine ⟨r,N,hq,fun n hn=> ?_⟩
 obtain ⟨lg,e1,e2,e3⟩:=h n hn
 simp only [List.reverse_nil,List.nil_append,Nat.zero_add] at e1 e3
 have hlog:okLog ops lg=true:=by
  simp only [okLog,List.all_eq_true]
  rintro ⟨i,le⟩ hil e he
  obtain ⟨j,hj,hji⟩:=List.getElem_of_mem hil
  simp only [List.length_zip] at hj
  have hj1:j<ops.length:=by omega
  have hj2:j<lg.length:=by omega
  simp only [List.getElem_zip,Prod.mk.injEq] at hji
  obtain ⟨rfl,rfl⟩:=hji
  have hi:ops[j] ∈ ops:=List.getElem_mem hj1
  have hlt:e<ops.length:=by
   have h1:=List.all_eq_true.1 (List.all_eq_true.1 hu _ hi) e he
   exact Nat.le_of_ble_eq_true h1
  have he2:e<lg.length:=by omega
  rw [List.getElem?_eq_getElem he2]
  have c1:=e3 j _ (List.getElem?_eq_getElem hj2)
  have c2:=e3 e _ (List.getElem?_eq_getElem he2)
  cases hr:ops[j].op.rdr with
  |true =>
   have hb:=bndU_mem hi hr he
   have h5:=c2.2.1 hb _ c1.1
   have ha:ops[j].op.isAlloc=false:=by
    cases ho:ops[j].op<;>rw [ho] at hr<;>first|rfl|(cases hr)
   simp [h5,ha]
  |false =>
   have h5:=c1.2.2.2.2 _ (List.getElem?_eq_getElem hj1) hr
   cases ha:ops[j].op.isAlloc with
   |false=>simp [h5,hitsObj]
   |true =>
    have h7:=c1.2.2.2.1 _ (List.getElem?_eq_getElem hj1) ha
    have h6:=c2.2.2.1
    simp [h5,hitsObj]
    omega
 simp only [runRegion,if_true,e1,hlog]
theorem Rw.step {i:AIns}{T' :List AVal}{H' :Heap}{v:AVal}{tch' :List Touch}{rs:List Nat}{N1:Nat}(hk:∀ L,killing ⟨T,H,L,tch⟩ i.op=false)(hi:ais[n]? =some i)
  (h:rl.length=n→∀ k,N1≤k→stepA (EnvN A k l b) ais (if i.op.isAlloc then some na else none) n i ⟨T,H,rl.reverse++ .any::List.replicate ops.length .any,tch⟩=some (⟨T',H',rl.reverse++v::List.replicate ops.length .any,tch'⟩,rs))
  (hr:∀ r ∈ rs,r<nb) (ht:nb≤na→n<bndU ais→∀ rs:List Nat,(∀ r ∈ rs,r<nb)→hitsObj (newHit (if i.op.isAlloc then some na else none)++tch'.take (tch'.length - tch.length)) rs=false) (hse:∀ k,seesOf (EnvN A k l b) ⟨T,H,rl.reverse++ .any::List.replicate ops.length .any,tch⟩ i.op≤nb)
  (h2:Rw A l b ais ops T' H' (n+1) (v::rl) tch' (if i.op.isAlloc then na+1 else na) nb Q) :
  Rw A l b ais (i::ops) T H n rl tch na nb Q:=fun hn hnb=>by
 obtain ⟨r,N,hq,h2⟩:=h2 (by simp [hn]) (by split<;>omega)
 refine ⟨r,max N N1,hq,fun k hkk=> ?_⟩
 obtain ⟨lg,e1,e2,e3⟩:=h2 k (by omega)
 have h4:=h hn k (by omega)
 have e1' :runOpsD (EnvN A k l b) ais ops (n+1) (if i.op.isAlloc then na+1 else na) ⟨T',H',rl.reverse++v::List.replicate ops.length .any,tch'⟩=some (r,lg):=by simpa using e1
 refine ⟨logOf (EnvN A k l b) i (if i.op.isAlloc then some na else none) ⟨T,H,rl.reverse++ .any::List.replicate ops.length .any,tch⟩ ⟨T',H',rl.reverse++v::List.replicate ops.length .any,tch'⟩ rs::lg,?_,by simp [e2],?_⟩
 ·simp only [runOpsD,List.length_cons,List.replicate_succ,stepD,hk,Bool.false_and,Bool.false_eq_true,if_false,h4,e1']
 ·intro j e he
  cases j with
  |zero =>
   simp only [List.getElem?_cons_zero,Option.some.injEq] at he
   subst he
   refine ⟨hr,fun hb=>ht hnb (by omega),hse k,fun i' hi' ha=> ?_,fun i' hi' hr' => ?_⟩
   ·rw [Nat.add_zero,hi] at hi'
    cases hi'
    simp [logOf,ha,hnb]
   ·rw [Nat.add_zero,hi] at hi'
    cases hi'
    exact step_reads h4 hr'
  |succ j =>
   simp only [List.getElem?_cons_succ] at he
   have:=e3 j e he
   rwa [Nat.add_assoc,Nat.add_comm 1 j] at this
theorem Rw.simple {i:AIns}{v:AVal}{rs:List Nat}{N1:Nat}(ha:i.op.isAlloc=false)(hk:∀ L,killing ⟨T,H,L,tch⟩ i.op=false)(hi:ais[n]? =some i)
  (h:rl.length=n→∀ k,N1≤k→stepA (EnvN A k l b) ais none n i ⟨T,H,rl.reverse++ .any::List.replicate ops.length .any,tch⟩=some (⟨T,H,rl.reverse++v::List.replicate ops.length .any,tch⟩,rs))
  (hr:∀ r ∈ rs,r<nb) (hs:∀ k,seesOf (EnvN A k l b) ⟨T,H,rl.reverse++ .any::List.replicate ops.length .any,tch⟩ i.op≤nb) (h2:Rw A l b ais ops T H (n+1) (v::rl) tch na nb Q):Rw A l b ais (i::ops) T H n rl tch na nb Q :=
 Rw.step (N1:=N1) hk hi (fun hn k hk=>by rw [ha];exact h hn k hk) hr (fun _ _ rs _=>by rw [ha];simp [newHit,hitsObj]) hs (by rw [ha];exact h2)
theorem Rn.w {T:List AVal}{H:Heap}(nb:Nat)(H' :Heap)(tch:List Touch)(hu:ops.all (fun i=>i.unord.all fun e=>Nat.blt e ops.length)=true:=by rfl)(hH:H++allocsOf ops=H' :=by rfl)(hs:slotsOf ops=tch:=by rfl)(hn:H.length=nb:=by rfl)(h:Rw A l b ops ops T H' 0 [] tch nb nb Q):Rn A l b ops true T H Q:=by
 subst hH hs hn
 exact Rn.of_w hu h
namespace S
theorem wn (h:Q T H rl.reverse):Rw A l b ais [] T H n rl tch na nb Q:=fun _ _=>⟨⟨T,H,rl.reverse,tch⟩,0,h,fun _ _=>⟨[],by simp [runOpsD],rfl,fun j e h=>by simp at h⟩⟩
theorem wp {op:AOp}{u:List Nat}{rs:List Nat}(v:AVal)(hp:pureOp (rq T n rl) H op=some (v,rs))(h2:Rw A l b ais ops T H (n+1) (v::rl) tch na nb Q)(hr:∀ r ∈ rs,r<nb:=by simp)(hE:op.isEff=false:=by rfl)(ha:op.isAlloc=false:=by rfl)(hk:∀ L,killing ⟨T,H,L,tch⟩ op=false:=by intro;rfl)(hi:ais[n]? =some ⟨op,none,none,u⟩:=by rfl)
  (hs:∀ k,seesOf (EnvN A k l b) ⟨T,H,rl.reverse++ .any::List.replicate ops.length .any,tch⟩ op≤nb:=by intro;exact Nat.zero_le _):Rw A l b ais (⟨op,none,none,u⟩::ops) T H n rl tch na nb Q:=by
 refine Rw.simple (N1:=0) (rs:=rs) ha hk hi (fun hn k _=> ?_) hr hs h2
 have hmv:∀ x,op≠ .mov x:=by
  rintro x rfl
  simp [pureOp] at hp
 have h4:pureOp (Abs.rho T (rl.reverse++ .any::List.replicate ops.length .any)) H op=some (v,rs):=by
  rw [show Abs.rho T (rl.reverse++ .any::List.replicate ops.length .any)=rq T n rl from funext fun x=>rq_rho hn _ x]
  exact hp
 have hsm:∀ (a:AVal) (r:List AVal),(rl.reverse++a::r).set n v=rl.reverse++v::r:=fun a r=>by rw [← hn,← List.length_reverse];exact set_mid _ _ _ _
 have h3:stepW (EnvN A k l b) ais none n op ⟨T,H,rl.reverse++ .any::List.replicate ops.length .any,tch⟩=some (⟨T,H,rl.reverse++v::List.replicate ops.length .any,tch⟩,rs):=by
  cases op<;>first
   |exact absurd rfl (hmv _)
   |(simp only [stepW,hE,Bool.false_eq_true,if_false,h4,put,hsm];done)
   |(simp [AOp.isEff] at hE;done)
 simp only [stepA,wantedA,h3,toSlotX,toSlot]
theorem wm {x:Opd}{u:List Nat}{v:AVal}(h2:Rw A l b ais ops T H (n+1) (v::rl) tch na nb Q)(hx:Oq T n rl x v:=by exact ⟨rfl,rfl⟩)(hi:ais[n]? =some ⟨.mov x,none,none,u⟩:=by rfl):Rw A l b ais (⟨.mov x,none,none,u⟩::ops) T H n rl tch na nb Q:=by
 refine Rw.simple (N1:=0) (rs:=[]) rfl (fun _=>rfl) hi (fun hn k _=> ?_) (by simp) (fun k=>Nat.zero_le _) h2
 have hsm:∀ (a:AVal) (r:List AVal),(rl.reverse++a::r).set n v=rl.reverse++v::r:=fun a r=>by rw [← hn,← List.length_reverse];exact set_mid _ _ _ _
 simp only [stepA,wantedA,stepW,AOp.isEff,Bool.false_eq_true,if_false,(hx.op hn).xfer,put,hsm,toSlotX,toSlot]
theorem wal {zero:List AVal}{u:List Nat}{s:Nat}{T2:List AVal}{H2:Heap}(hs:T[s]?.isSome=true:=by rfl)(htc:tch.any (Touch.slotHit s)=true:=by rfl)(hT:T.set s (.ptr na 0)=T2:=by simp only [List.set_cons_zero,List.set_cons_succ]<;>rfl)(hH:H.set na (.cells zero)=H2:=by simp only [List.set_cons_zero,List.set_cons_succ]<;>rfl)
  (hi:ais[n]? =some ⟨.alloc zero,some s,none,u⟩:=by rfl) (h2:Rw A l b ais ops T2 H2 (n+1) (.ptr na 0::rl) tch (na+1) nb Q):Rw A l b ais (⟨.alloc zero,some s,none,u⟩::ops) T H n rl tch na nb Q:=by
 subst hT hH
 have hs:s<T.length:=by
  rcases Nat.lt_or_ge s T.length with h|h
  ·exact h
  ·rw [List.getElem?_eq_none h] at hs;cases hs
 refine Rw.step (N1:=0) (rs:=[]) (fun _=>rfl) hi (fun hn k _=> ?_) (by simp) (fun hnb _ rs hrs=> ?_) (fun k=>Nat.zero_le _) h2
 ·have hsm:∀ (a v:AVal) (r:List AVal),(rl.reverse++a::r).set n v=rl.reverse++v::r:=fun a v r=>by rw [← hn,← List.length_reverse];exact set_mid _ _ _ _
  have h3:∀ r:List AVal,(rl.reverse++ .ptr na 0::r)[n]? =some (.ptr na 0):=fun r=>by rw [← hn,← List.length_reverse];simp
  simp only [AOp.isAlloc,if_true,stepA,wantedA,stepW,AOp.isEff,effOp,newObjA,newId,Option.getD_some,put,hsm,toSlotX,toSlotN,hs,htc,Abs.xfer,h3,decide_true,Bool.and_self]
  simp [Abs.rho,AVal.asD,h3]
 ·simp only [AOp.isAlloc,if_true,newHit,Nat.sub_self,List.take_zero,List.append_nil,hitsObj,List.any_cons,List.any_nil,Bool.or_false]
  simp only [Touch.objHit]
  rw [List.any_eq_false]
  intro x hx
  have:=hrs x hx
  simp
  omega
theorem ws {m id:Nat}{x y:Opd}{u:List Nat}{v:AVal}{cs old:List AVal}{H2:Heap}(hy:rq T n rl y= .ptr id 0:=by rfl)(hd:Nat.ble nb id=true:=by rfl)(hx:Oq T n rl x v:=by exact ⟨rfl,rfl⟩)(hc:v.cells? =some cs:=by rfl)(hm:cs.length=m:=by rfl)(hl:l.may id=true:=by rfl)(hb:bndL cs=0:=by rfl)
  (ho:H[id]? =some (.cells old):=by rfl) (hq:old.length=m:=by rfl) (hH:H.set id (.cells cs)=H2:=by simp only [List.set_cons_zero,List.set_cons_succ]<;>rfl) (hi:ais[n]? =some ⟨.store m y x,none,none,u⟩:=by rfl)
  (h2:Rw A l b ais ops T H2 (n+1) (.any::rl) (.obj id::tch) na nb Q):Rw A l b ais (⟨.store m y x,none,none,u⟩::ops) T H n rl tch na nb Q:=by
 have hw:wr H id 0 cs=some H2:=by
  simp [wr,ho,hm,hq,splice,← hH]
  rw [List.drop_of_length_le (by omega)]
  simp
 refine Rw.step (N1:=0) (rs:=[]) (fun _=>rfl) hi (fun hn k _=> ?_) (by simp) (fun _ _ rs hrs=> ?_) (fun k=>Nat.zero_le _) h2
 ·have hl' :(EnvN A k l b).lim.may id=true:=hl
  have hb' :bndL cs≤id+1:=by omega
  have hsm:∀ (a v:AVal) (r:List AVal),(rl.reverse++a::r).set n v=rl.reverse++v::r:=fun a v r=>by rw [← hn,← List.length_reverse];exact set_mid _ _ _ _
  simp only [AOp.isAlloc,Bool.false_eq_true,if_false,stepA,wantedA,stepW,AOp.isEff,if_true,effOp,rq_rho hn,hy,storeEff,(hx.op hn).xfer,hc,hm,hl',hb',true_or,and_self,hw,put,hsm,toSlotX,toSlot]
 ·have:=Nat.le_of_ble_eq_true hd
  have e:(Touch.obj id::tch).take ((Touch.obj id::tch).length - tch.length)=[.obj id]:=by
   rw [show (Touch.obj id::tch).length - tch.length=1 by simp]
   rfl
  simp only [AOp.isAlloc,Bool.false_eq_true,if_false,newHit,List.nil_append,e,hitsObj,List.any_cons,List.any_nil,Bool.or_false]
  simp only [Touch.objHit]
  rw [List.any_eq_false]
  intro x hx
  have:=hrs x hx
  simp
  omega
theorem wfp {x:Opd}{k id o:Nat}{u:List Nat}(h2:Rw A l b ais ops T H (n+1) (.ptr id (o+k)::rl) tch na nb Q)(hx:rq T n rl x= .ptr id o:=by rfl)(hi:ais[n]? =some ⟨.off k x,none,none,u⟩:=by rfl):Rw A l b ais (⟨.off k x,none,none,u⟩::ops) T H n rl tch na nb Q :=
 wp (rs:=[]) _ (by simp only [pureOp,hx]) h2 (hi:=hi)
theorem wlp {x:Opd}{id o:Nat}{v:AVal}{u:List Nat}(h2:Rw A l b ais ops T H (n+1) (v::rl) tch na nb Q)(hx:rq T n rl x= .ptr id o:=by rfl)(hr:rd H id o 1=some [v]:=by rfl)(hv:v.asD=v:=by rfl)(hlt:Nat.blt id nb=true:=by rfl)(hi:ais[n]? =some ⟨.load none x,none,none,u⟩:=by rfl):Rw A l b ais (⟨.load none x,none,none,u⟩::ops) T H n rl tch na nb Q :=
 wp (rs:=[id]) _ (by simp only [pureOp,hx,hr,hv]) h2 (hr:=fun r hr=>by simp at hr;subst hr;exact Nat.le_of_ble_eq_true hlt) (hi:=hi)
theorem wix {α:Type} [Inhabited α] {enc:α→List Data}{xs:List α}{sz i:Nat}{x y:Opd}{k:IntKind}{u:List Nat}(h0:i<xs.length)(h2:Rw A l b ais ops T H (n+1) (.iptr (enc (nth xs i)++(xs.drop (i+1)).flatMap enc)::rl) tch na nb Q)(hx:rq T n rl x= .d (encL enc xs):=by rfl)(hy:rq T n rl y= .d (.int k (i:Nat)):=by rfl)(hs:∀ a,(enc a).length=sz:=by intro;rfl)
  (hi:ais[n]? =some ⟨.idxA sz x y,none,none,u⟩:=by rfl):Rw A l b ais (⟨.idxA sz x y,none,none,u⟩::ops) T H n rl tch na nb Q:=by
 refine wp (rs:=[]) _ ?_ h2 (hi:=hi)
 have h3:=flatMap_drop hs xs i h0
 rw [← nth_eq h0] at h3
 have h4:(0:Int)≤(i:Int)∧(i:Int)<xs.length:=by omega
 simp only [pureOp,hx,hy,encL,h4,and_self,if_true,Int.toNat_natCast,h3]
theorem wle {cs rest:List Data}{x:Opd}{m:Nat}{u:List Nat}(h2:Rw A l b ais ops T H (n+1) (.agg (cs.map .d)::rl) tch na nb Q)(hx:rq T n rl x= .iptr (cs++rest):=by rfl)(hm:cs.length=m:=by rfl)(hi:ais[n]? =some ⟨.load (some m) x,none,none,u⟩:=by rfl):Rw A l b ais (⟨.load (some m) x,none,none,u⟩::ops) T H n rl tch na nb Q:=by
 refine wp (rs:=[]) _ ?_ h2 (hi:=hi)
 subst hm
 simp [pureOp,hx]
end S
end
end Go.Abs
namespace Go.Abs
section
variable {A:Prog} {l:Lim} {b:Nat}
variable {ais ops:List AIns} {T:List AVal} {H:Heap} {n:Nat} {rl:List AVal} {tch:List Touch} {na nb:Nat} {Q:List AVal→Heap→List AVal→Prop}
namespace S
section
variable {dr:Bool}
theorem ixo {x y:Opd}{u:List Nat}{sz id lo len:Nat}{k:IntKind}{e:Int}(h0:0≤e∧e<len)(h2:Ry A l b dr ais ops T H (n+1) (.ptr id (lo+e.toNat * sz)::rl) tch Q)(hx:rq T n rl x= .sref id sz lo len:=by rfl)(hy:rq T n rl y= .d (.int k e):=by rfl) :
  Ry A l b dr ais (⟨.idxA sz x y,none,none,u⟩::ops) T H n rl tch Q:=Ry.pure (rs:=[]) rfl (by simp only [pureOp,hx,hy,h0,and_self,if_true]) h2
theorem lpx {x:Opd}{id o:Nat}{v:AVal}{u:List Nat}(hr:rd H id o 1=some [v])(hv:v.asD=v)(h2:Ry A l b dr ais ops T H (n+1) (v::rl) tch Q)(hx:rq T n rl x= .ptr id o:=by rfl) :
  Ry A l b dr ais (⟨.load none x,none,none,u⟩::ops) T H n rl tch Q:=Ry.pure (rs:=[id]) rfl (by simp only [pureOp,hx,hr,hv]) h2
theorem adw {x y:Opd}{c d:Int}{u:List Nat}(h2:Ry A l b dr ais ops T H (n+1) (.d (.int .i64 (IntKind.i64.wrap (c+d)))::rl) tch Q)(hx:rq T n rl x= .d (.int .i64 c):=by rfl)(hy:rq T n rl y= .d (.int .i64 d):=by rfl) :
  Ry A l b dr ais (⟨.bin .add x y,none,none,u⟩::ops) T H n rl tch Q:=Ry.pure (rs:=[]) rfl (by simp [pureOp,hx,hy,binData,isShift,binInt]) h2
theorem sox {id off:Nat}{x y:Opd}{u:List Nat}{v:AVal}{H2:Heap}(hw:wr H id off [v]=some H2)(hd:Nat.ble (bndU ais) n=true:=by rfl)(hy:rq T n rl y= .ptr id off:=by rfl)(hx:Oq T n rl x v:=by exact ⟨rfl,rfl⟩)(hc:v.cells? =some [v]:=by rfl)(hl:l.may id=true:=by rfl)(hb:v.bnd≤id+1:=by exact Nat.zero_le _)
  (h2:Ry A l b dr ais ops T H2 (n+1) (.any::rl) (.obj id::tch) Q):Ry A l b dr ais (⟨.store 1 y x,none,none,u⟩::ops) T H n rl tch Q :=
 store_draw hd hy hx hc rfl hl (by simpa [bndL] using hb) hw h2
end
theorem mks {x y:Opd}{u:List Nat}{sz id len:Nat}{zero:List AVal}{H2:Heap}(hm:makeN sz zero (rq T n rl x) (rq T n rl y)=some len)(hH:H++[.cells (List.replicate len zero).flatten]=H2)(hi:H.length=id:=by simp only [List.length_cons,List.length_nil,Nat.reduceAdd]<;>rfl)
  (h2:Ry A l b false ais ops T H2 (n+1) (.sref id sz 0 len::rl) tch Q):Ry A l b false ais (⟨.makeS sz zero x y,none,none,u⟩::ops) T H n rl tch Q:=fun hn=>by
 subst hi
 have h2:=h2.to hn
 rw [← hH] at h2
 refine Rx.stepT (N1:=0) (rs:=[]) rfl (fun n _=> ?_) h2
 simp only [stepA,wantedA,stepW,AOp.isEff,if_true,effOp,rq_rho hn,hm,newObjA,newId,Option.getD_none,put,set_mid,toSlotX,toSlot]
theorem wiz {α:Type} [Inhabited α] {enc:α→List Data}{xs:List α}{sz:Nat}{e:Int}{x y:Opd}{k:IntKind}{u:List Nat}(h0:0≤e∧e<xs.length)(h2:Rw A l b ais ops T H (n+1) (.iptr (enc (nth xs e.toNat)++(xs.drop (e.toNat+1)).flatMap enc)::rl) tch na nb Q)(hx:rq T n rl x= .d (encL enc xs):=by rfl)(hy:rq T n rl y= .d (.int k e):=by rfl)(hs:∀ a,(enc a).length=sz:=by intro;rfl)
  (hi:ais[n]? =some ⟨.idxA sz x y,none,none,u⟩:=by rfl):Rw A l b ais (⟨.idxA sz x y,none,none,u⟩::ops) T H n rl tch na nb Q:=by
 refine wp (rs:=[]) _ ?_ h2 (hi:=hi)
 have hl:e.toNat<xs.length:=by omega
 have h3:=flatMap_drop hs xs e.toNat hl
 rw [← nth_eq hl] at h3
 simp only [pureOp,hx,hy,encL,h0,and_self,if_true,h3]
theorem wld {c:Data}{cs:List Data}{x:Opd}{u:List Nat}(h2:Rw A l b ais ops T H (n+1) (.d c::rl) tch na nb Q)(hx:rq T n rl x= .iptr (c::cs):=by rfl)(hi:ais[n]? =some ⟨.load none x,none,none,u⟩:=by rfl):Rw A l b ais (⟨.load none x,none,none,u⟩::ops) T H n rl tch na nb Q :=
 wp (rs:=[]) _ (by simp only [pureOp,hx]) h2 (hi:=hi)
end S
def iv (n:Int):AVal:= .d (num n)
theorem rd_iv {H:Heap}{id a:Nat}{hs:List Int}(h:H[id]? =some (.cells (hs.map iv)))(ha:a<hs.length):rd H id (0+a * 1) 1=some [iv (hs[a]?.getD 0)]:=by
 simp only [rd,h,List.length_map,Nat.zero_add,Nat.mul_one]
 rw [if_pos (by omega)]
 congr 1
 apply List.ext_getElem?
 intro i
 rw [List.getElem?_take]
 cases i with
 |zero=>simp [ha]
 |succ i=>simp
theorem wr_iv {H:Heap}{id a:Nat}{hs:List Int}{v:Int}(h:H[id]? =some (.cells (hs.map iv)))(ha:a<hs.length):wr H id (0+a * 1) [iv v]=some (H.set id (.cells ((hs.set a v).map iv))):=by
 simp only [wr,h,List.length_map,Nat.zero_add,Nat.mul_one,List.length_singleton]
 rw [if_pos (by omega),List.map_set]
 congr 3
 simp only [splice,List.length_singleton]
 rw [List.set_eq_take_append_cons_drop,if_pos (by simpa using ha)]
 simp
theorem datas_iv:∀ hs:List Int,datas? (hs.map iv)=some (hs.map num)
 |[]=>rfl
 |h::hs=>by simp only [List.map_cons,datas?,iv,AVal.data?,datas_iv hs]
end
end Go.Abs

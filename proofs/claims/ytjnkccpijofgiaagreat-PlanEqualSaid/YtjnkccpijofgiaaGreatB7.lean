/-
  lineage.sorted: the places of a set, ascending, whatever order the range takes.; Regions that draw their order where all operations but the last one read alone.; slices.Backward over numbers: the iterator's contract, where the loop's body writes one block alone of those that lay.; plan.Heights: what the function computes where Order has given an order.; slices.Clone of a row, slices.Grow of the nil slice, at the types of the plan's program.
  (Put together by a small program out of several texts; blanks left out to keep the folder small.)
-/
import Derived.Test.YtjnkccpijofgiaaGreatProg
import Derived.Sort.MapsRangeIn
import Derived.Maps.AppendAt
import Derived.Maps.RangeRun
import Derived.WalkKit
import Derived.OwnWalkIn
import Derived.TacticsInMore
import Derived.RegionIn
import Derived.LoopNIn
import Derived.LoopIn
import Derived.KernelRfl
import Derived.Below
import Derived.Test.YtjnkccpijofgiaaGreatB3
import Derived.OrdersIn
import Derived.RangeFuncNested
import Derived.RangeFuncBound
import Derived.RangeFuncCalls
import Derived.RangeFuncBox
import Derived.RangeFuncLeaves
import Derived.RangeFuncWrites
import Derived.Shelf.Abstract
import Derived.DefersIn
import Derived.RecoverIn
import Derived.Lib.Walk
import Derived.Lib.SliceRun
import Derived.Lib.AppendZerosOnto
set_option linter.unusedVariables false
set_option linter.unusedSimpArgs false
namespace Go.Proofs.YtjnkccpijofgiaaGreat
open Go.RowKit Go.Maps
def pv (p:Int×Int):Value:= .agg #[.int .i64 p.1,.int .i64 p.2]
def unpv:Value→Int×Int
 | .agg cs=>match cs.toList with
  |[.int _ a,.int _ b]=>(a,b)
  |_=>(0,0)
 |_=>(0,0)
theorem unpv_pv (p:Int×Int):unpv (pv p)=p:=rfl
def flV:List (Int×Int)→List Value
 |[]=>[]
 |p::r=> .int .i64 p.1:: .int .i64 p.2::flV r
theorem flV_snoc (p:Int×Int):∀ l:List (Int×Int),flV (l++[p])=flV l++[.int .i64 p.1,.int .i64 p.2]
 |[]=>rfl
 |q::l=>by simp only [List.cons_append,flV,flV_snoc p l]
theorem flV_length:∀ l:List (Int×Int),(flV l).length=l.length * 2
 |[]=>rfl
 |q::l=>by simp only [flV,List.length_cons,flV_length l];omega
def Came (es:Array MapEntry)(seen:Array Nat)(tp:List (Int×Int)):Prop:=∃ tk:List MapEntry,tk.map (·.key)=tp.map pv∧(tk++(leftOf es seen).toList).Perm es.toList
theorem Came.start (es:Array MapEntry):Came es #[] []:=⟨[],rfl,by
 have:(leftOf es #[]).toList=es.toList:=by
  simp only [leftOf,Array.toList_filter]
  exact List.filter_eq_self.2 (by simp)
 rw [this]
 exact List.Perm.refl _⟩
theorem left_push (es:Array MapEntry)(seen:Array Nat)(b:Nat):(leftOf es (seen.push b)).toList=(leftOf es seen).toList.filter (fun x=>x.born != b):=by
 simp only [leftOf,Array.toList_filter,List.filter_filter]
 apply List.filter_congr
 intro x _
 rw [Array.contains_push]
 by_cases h:x.born=b
 ·simp [h]
 ·simp [bne,Bool.and_comm]
theorem perm_out:∀ (l:List MapEntry) (e:MapEntry),e ∈ l→(l.map (·.born)).Nodup→(e::l.filter (fun x=>x.born != e.born)).Perm l
 |[],_,h,_=>by cases h
 |x::l,e,h,hn=>by
  simp only [List.map_cons,List.nodup_cons] at hn
  rcases List.mem_cons.1 h with rfl|h
  ·have:l.filter (fun x=>x.born != e.born)=l:=by
    apply List.filter_eq_self.2
    intro y hy
    have:y.born≠e.born:=by
     intro hb
     exact hn.1 (by rw [← hb];exact List.mem_map.2 ⟨y,hy,rfl⟩)
    simpa using this
   simp [this]
  ·have hx:x.born≠e.born:=by
    intro hb
    exact hn.1 (by rw [hb];exact List.mem_map.2 ⟨e,h,rfl⟩)
   have hx' :(x.born != e.born)=true:=by simpa using hx
   rw [List.filter_cons,if_pos hx']
   exact (List.Perm.swap x e _).trans ((perm_out l e h hn.2).cons x)
theorem Came.step {es:Array MapEntry}{seen:Array Nat}{tp:List (Int×Int)}(h:Came es seen tp)(hn:(es.toList.map (·.born)).Nodup){e:MapEntry}(he:e ∈ (leftOf es seen).toList){p:Int×Int}(hk:e.key=pv p) :
  Came es (seen.push e.born) (tp++[p])∧(leftOf es (seen.push e.born)).size<(leftOf es seen).size:=by
 obtain ⟨tk,h1,h2⟩:=h
 have hn' :((leftOf es seen).toList.map (·.born)).Nodup:=by
  have:(leftOf es seen).toList.Sublist es.toList:=by
   simp only [leftOf,Array.toList_filter]
   exact List.filter_sublist
  exact (this.map _).nodup hn
 have hp:=perm_out _ e he hn'
 refine ⟨⟨tk++[e],by simp [h1,hk],?_⟩,?_⟩
 ·rw [left_push,List.append_assoc]
  exact (List.Perm.append_left tk hp).trans h2
 ·have:=hp.length_eq
  rw [← left_push] at this
  simp only [List.length_cons,Array.length_toList] at this
  omega
theorem Came.done {es:Array MapEntry}{seen:Array Nat}{tp:List (Int×Int)}(h:Came es seen tp)(h0:(leftOf es seen).size=0){ks:List (Int×Int)}(hk:es.toList.map (·.key)=ks.map pv):tp.Perm ks:=by
 obtain ⟨tk,h1,h2⟩:=h
 have e0:(leftOf es seen).toList=[]:=by
  apply List.eq_nil_of_length_eq_zero
  simpa using h0
 rw [e0,List.append_nil] at h2
 have h3:=h2.map (·.key)
 rw [h1,hk] at h3
 have h4:=h3.map unpv
 simpa [List.map_map,Function.comp_def,unpv_pv] using h4
theorem Came.len {es:Array MapEntry}{seen:Array Nat}{tp:List (Int×Int)}(h:Came es seen tp):tp.length+(leftOf es seen).size=es.size:=by
 obtain ⟨tk,h1,h2⟩:=h
 have e1:=congrArg List.length h1
 have e2:=h2.length_eq
 simp at e1 e2
 omega
theorem cell_two (w:World)(x y:Value)(t:TypeId){k:Nat}(hk:k=w.heap.size):∀ j u,[x,y][j]? =some u→(w.alloc (.cells #[x,y] t)).cell? ((⟨k,0,none⟩:Addr).add j)=some u:=by
 intro j u hj
 subst hk
 have h:=heap_alloc_new w (.cells #[x,y] t)
 have e:∀ i,(w.alloc (.cells #[x,y] t)).cell? ⟨w.heap.size,i,none⟩= #[x,y][i]? :=fun i=>by
  unfold World.cell?
  rw [h]
  rfl
 match j,hj with
 |0,hj=>exact (e 0).trans hj
 |1,hj=>exact (e 1).trans hj
def leftN (w:World)(r:Nat):Nat:=match w.heap[r]? with
 |some (.mapIter (some bm) _ seen _)=>(match w.heap[bm]? with
  |some (.map es _)=>(leftOf es seen).size
  |_=>0)
 |_=>0
section
variable {F:Fence} {n:Nat} {P:Program} (w:World) {ops:Array Oper} {rest:List Oper} {o:Oper} {a:Act} {Q:Exit→Act→World→Prop}
theorem wpListIn_range_raw (hg:o.guard=none)(m:Operand)(t:TypeId)(hop:o.op=Op.range t m)(k e:TypeId)(ht:P.underlying t=some (.map k e))(b:Nat)(es:Array MapEntry)(clk:Nat)(hm:a.eval m= .map (some b))(hb:w.heap[b]? =some (.map es clk))
  (hK:wpListIn F n P ops Q rest (a.put o.dst (.pointer (some ⟨w.heap.size,0,none⟩))) (w.alloc (.mapIter (some b) clk #[] clk))) :
  wpListIn F n P ops Q (o::rest) a w:=by
 refine wpListIn_plain hg fun K' hK' => ?_
 have hrun:=run_range_map w t k e b es clk ht hb
 unfold Oper.wpIn
 refine ⟨?_,?_⟩
 ·simp [Oper.about,hop]
 ·rw [Oper.semAt_plain F _ _ (by rw [hop];intro c hc';cases hc')]
  simp [execOp,hop,hm,hrun,Result.andThen]
  exact hK' _ _ hK
theorem wpListIn_next_raw (hg:o.guard=none)(it:Operand)(hop:o.op=Op.next it false)(b r:Nat)(es:Array MapEntry)(clk:Nat)(seen:Array Nat)(hit:a.eval it= .pointer (some ⟨r,0,none⟩))
  (hr:w.heap[r]? =some (.mapIter (some b) clk seen clk)) (hb:w.heap[b]? =some (.map es clk)) (hold:∀ x ∈ es.toList,x.born<clk) (hn:(es.toList.map (·.born)).Nodup) (hkeys:∀ e ∈ es.toList,∃ p,e.key=pv p) (hbr:b≠r)
  (hDone:(leftOf es seen).size=0→wpListIn F n P ops Q rest (a.put o.dst (.tuple #[.bool false])) w)
  (hMore:∀ (e:MapEntry) (p:Int×Int) (v:Value) (w' :World),e ∈ (leftOf es seen).toList→e.key=pv p→w.grownBy w' (some r)→w'.heap.size=w.heap.size→w'.heap[r]? =some (.mapIter (some b) clk (seen.push e.born) clk)→w'.heap[b]? =some (.map es clk) →
   (Instr.entry (.pointer (some ⟨r,0,none⟩))).run P w' = .ok (.tuple #[pv p,v]) w' →wpListIn F n P ops Q rest (a.put o.dst (.tuple #[.bool true,pv p,v])) w') :
  wpListIn F n P ops Q (o::rest) a w:=by
 refine wpListIn_plain hg fun K' hK' => ?_
 unfold Oper.wpIn
 refine ⟨by simp [Oper.about,hop],?_⟩
 rw [Oper.semAt_plain F _ _ (by rw [hop];intro c hc';cases hc')]
 rcases run_next_at (P:=P) w o.type r b clk clk seen es clk hr hb hold (Nat.le_refl _) with ⟨h0,hrun⟩|⟨e,he,w1,hw1,hrun⟩
 ·simp [execOp,hop,hit,hrun,Result.andThen]
  exact hK' _ _ (hDone h0)
 ·have hes:e ∈ es.toList:=by
   have:e ∈ (Array.filter (fun e=> !seen.contains e.born) es).toList:=he
   rw [Array.toList_filter] at this
   exact (List.mem_filter.1 this).1
  obtain ⟨p,hp⟩:=hkeys e hes
  simp [execOp,hop,hit,hrun,Result.andThen]
  have hsz:(ChangeMaps.setBlock w1 r (.mapIter (some b) clk (seen.push e.born) clk)).heap.size=w.heap.size:=by
   rcases hw1 with rfl|rfl<;>simp [ChangeMaps.setBlock]
  have hlt:r<w.heap.size:=by
   rcases Nat.lt_or_ge r w.heap.size with h|h
   ·exact h
   ·rw [Array.getElem?_eq_none h] at hr;cases hr
  have hr' :(ChangeMaps.setBlock w1 r (.mapIter (some b) clk (seen.push e.born) clk)).heap[r]? =some (.mapIter (some b) clk (seen.push e.born) clk):=by
   rcases hw1 with rfl|rfl<;>simp [ChangeMaps.setBlock,hlt]
  have hoth:∀ k,k≠r→(ChangeMaps.setBlock w1 r (.mapIter (some b) clk (seen.push e.born) clk)).heap[k]? =w.heap[k]? :=by
   intro k hk
   rcases hw1 with rfl|rfl
   ·simp [ChangeMaps.setBlock,Ne.symm hk]
   ·simp [ChangeMaps.setBlock,Ne.symm hk]
    rfl
  have hb' :=(hoth b hbr).trans hb
  have hen:=run_entry_at (P:=P) _ r b clk seen es clk e hr' hb' hes hn
  rw [hp] at hen ⊢
  refine hK' _ _ (hMore e p e.val _ he hp ⟨?_,?_,?_,Nat.le_of_eq hsz.symm,fun k _ hk=>hoth k (fun e=>hk (by rw [e]))⟩ hsz hr' hb' hen)
  all_goals (rcases hw1 with rfl|rfl<;>rfl)
end
theorem info129:(Tryz.prog.info? 129).map (fun i=>(i.zero,i.size,i.bytes))=some (some (.agg #[.int .i64 0,.int .i64 0]),2,16):=by kernel_rfl
set_option maxRecDepth 100000 in
set_option maxHeartbeats 2000000 in
theorem sorted_walk (bm:Nat)(es:Array MapEntry)(clk:Nat)(ks srt:List (Int×Int))(w:World)(hb:w.heap[bm]? =some (.map es clk))(hold:∀ x ∈ es.toList,x.born<clk)(hn:(es.toList.map (·.born)).Nodup)(hk:es.toList.map (·.key)=ks.map pv)(hlen:ks.length≤1000000)
  (hsort:∀ (v:Value) (ps:List (Int×Int)) (W:World),W.ownsRow w.heap.size 129 2 v ps.length (flV ps)→ps.Perm ks→Calls Tryz.prog 74 #[v,.func (.func 138) #[] #[]] W fun e W' =>
   e= .returned (.tuple #[])∧W'.ownsRow w.heap.size 129 2 v ps.length (flV srt)∧W.grownBy W' v.ownBlock) :
  Calls Tryz.prog 107 #[.map (some bm)] w fun e w' =>∃ v,e= .returned v∧w'.ownsRow w.heap.size 129 2 v ks.length (flV srt)∧Below w.heap.size w w' :=by
 obtain ⟨i0,hi,hz0,hz1,hz2⟩:=info_parts info129
 have hbl:bm<w.heap.size:=by
  rcases Nat.lt_or_ge bm w.heap.size with h|h
  ·exact h
  ·rw [Array.getElem?_eq_none h] at hb;cases hb
 have hkeys:∀ e ∈ es.toList,∃ p,e.key=pv p:=by
  intro e he
  have:e.key ∈ ks.map pv:=by rw [← hk];exact List.mem_map.2 ⟨e,he,rfl⟩
  obtain ⟨p,_,hp⟩:=List.mem_map.1 this
  exact ⟨p,hp.symm⟩
 have hesz:es.size=ks.length:=by
  have:=congrArg List.length hk
  simpa using this
 refine (callsIn_wide (n:=68)).1 ?_
 refine callsIn_of_wp Tryz.func107 rfl trivial ?_ rfl
 simp only [Tryz.ntmps107,List.size_toArray,List.length_cons,List.length_nil,Nat.reduceAdd,Nat.reduceSub,Array.replicate_succ,Array.replicate_zero,List.push_toArray,List.append_toArray,List.nil_append,List.cons_append]
 gi_wp2_with (first
  |(gi_at_range;refine wpListIn_range_raw _ rfl _ 169 rfl 129 4 Tryz.underlying169 bm es clk rfl hb ?_)
  |gi_in)
 go_frame
 gi_loopw [3] (fun v wr=>∃ (seen:Array Nat) (tp:List (Int×Int)),wr.heap[w.heap.size]? =some (.mapIter (some bm) clk seen clk)∧wr.heap[bm]? =some (.map es clk)∧Came es seen tp∧wr.ownsRow w.heap.size 129 2 v tp.length (flV tp)∧Below w.heap.size w wr)
  (fun _ wr=>leftN wr w.heap.size)
 case atStart =>
  exact ⟨#[],[],heap_alloc_new _ _,(Below.heap_alloc _ _ _ hbl).trans hb,Came.start es,World.ownsRow_nil _ _ _ _,(Below.refl _ _).alloc (Nat.le_refl _) _⟩
 case round =>
  obtain ⟨seen,tp,hr,hbb,hC,hrow,hnx⟩:=hrel
  gi_wp2_with (first
   |(gi_at_next;refine wpListIn_next_raw _ rfl _ rfl bm w.heap.size es clk seen rfl hr hbb hold hn hkeys (by omega) ?_ ?_)
   |gi_in)
  ·intro h0
   have hperm:=hC.done (by rw [h0];rfl) hk
   have hc:=hsort _ tp _ hrow hperm
   clear h0
   gi_wp2_with (refine ⟨trivial,?_⟩;gi_at_call 74;refine ((callsIn_wide).2 hc).mono ?_;rintro e w' ⟨rfl,hrow',hg'⟩)
   refine ⟨rfl,_,results_tmp rfl _ _ _,u3,rfl,?_,hnx.grown hg' hnx.size (fun j hj=>(hrow.lt j hj).1)⟩
   rw [← hperm.length_eq]
   exact hrow'
  ·intro e p1 p2 v' w2 he hp hg2 hs2 hr2 hb2 hen
   have hrow2:=hrow.kept hg2 (by
    by_cases h:u3.ownBlock=none
    ·exact Or.inl h
    ·refine Or.inr fun e1=> ?_
     rcases hrow.2 with ⟨rfl,_⟩|⟨g,cap,cur,rfl,_,hgg,_⟩
     ·exact h rfl
     ·simp only [Value.ownBlock,Option.some.injEq] at e1
      rw [e1,hr] at hgg
      cases hgg)
   have hsz2:=hg2.size
   have hstep:=hC.step hn (Array.mem_toList_iff.2 he) (p:=(p1,p2)) hp
   have hlen1:tp.length+1≤1000000:=by
    have:=hC.len
    have:=hstep.2
    omega
   have hnx2:Below w.heap.size w w2:=hnx.grown hg2 hnx.size (fun j hj=>by cases hj;exact Nat.le_refl _)
   clear hs2
   simp only [pv] at hen ⊢
   gi_wp2_with (gi_at_builtin;go_loud (refine wpListIn_append_own _ rfl _ _ 102 rfl w.heap.size 129 i0 _ 2 16 Tryz.underlying102 hi hz0 hz1 hz2 rfl (by decide) _ _ _ rfl ((hrow2.alloc _).alloc _) ⟨w2.heap.size+1,0,none⟩ 1 1 [.int .i64 p1,.int .i64 p2] rfl rfl (cell_two _ _ _ _ (by simp)) (by simp [Value.oneCell']) (by simp [maxLen];omega) (by omega) (by have:=hnx2.size;simp;omega) ?_;intro v3 w3 hown' hg3 hnil3;go_frame))
   have hg4:World.grownBy _ w3 u3.ownBlock:=hg3
   have hkeep:∀ (b:Nat) (o:Obj),w2.heap[b]? =some o→(∀ c t f,o≠Obj.cells c t f)→w3.heap[b]? =some o:=by
    intro b o hbo hno
    have hlt:b<w2.heap.size:=by
     rcases Nat.lt_or_ge b w2.heap.size with h|h
     ·exact h
     ·rw [Array.getElem?_eq_none h] at hbo;cases hbo
    rw [hg4.block b (by simp;omega) (fun e1=>by
     rcases hrow2.2 with ⟨rfl,_⟩|⟨g,cap,cur,rfl,_,hgg,_⟩
     ·cases e1
     ·simp only [Value.ownBlock,Option.some.injEq] at e1
      subst e1
      rw [hbo] at hgg
      cases hgg
      exact hno _ _ _ rfl),Below.heap_alloc _ _ _ (by simp;omega),Below.heap_alloc _ _ _ hlt]
    exact hbo
   have hr3:=hkeep _ _ hr2 (by simp)
   have hb3:=hkeep _ _ hb2 (by simp)
   have hnx3:Below w.heap.size w w3:=((hnx2.alloc (by have:=hnx2.size;omega) _).alloc (by have:=hnx2.size;simp;omega) _).grown hg4 (by have:=hnx2.size;simp;omega) (fun j hj=>(hrow2.lt j hj).1)
   go_roundw
   case rel=>exact ⟨_,_,hr3,hb3,hstep.1,by rw [flV_snoc,List.length_append];exact hown',hnx3⟩
   case measure =>
    simp only [leftN,hr3,hb3,hr,hbb]
    exact hstep.2
end Go.Proofs.YtjnkccpijofgiaaGreat
namespace Go.Abs
section
variable {F:Fence} {n:Nat} {P:Program} {ops:Array Oper}
structure Agree (ops:Array Oper)(m:Nat)(vals:Nat→Value)(base:Act)(R:Nat→Prop)(a:Act):Prop where
 got:∀ j,j<m→R j→∀ d,(ops[j]?).bind (·.dst)=some d→a.tmps.getD d undef=vals j
 old:∀ t,(∀ j,j<m→(ops[j]?).bind (·.dst)≠some t)→a.tmps.getD t undef=base.tmps.getD t undef
 size:a.tmps.size=base.tmps.size
 defers:a.defers=base.defers
def readsOK (ops:Array Oper)(m nt:Nat):Bool:=ops.size==m+1&&(List.range (m+1)).all fun i=>match ops[i]? with
 |some o=>o.guard.isNone&&(direct o).all (fun e=>decide (e<i))&&(if i<m then (match o.dst with
   |some d=>decide (d<nt)&&(List.range m).all (fun j=>j==i||(ops[j]?).bind (·.dst) != some d)
   |none=>false) else o.dst.isNone&&(List.range m).all (fun j=>(direct o).contains j))
 |none=>false
theorem listed_of {listed:Array Bool}{i:Nat}(hi:i<listed.size):listed.getD i true=listed.getD i false:=by simp [hi]
theorem Agree.base_at {m:Nat}{vals:Nat→Value}{base a:Act}{R:Nat→Prop}(h:Agree ops m vals base R a){t:Tmp}(ht:(List.range m).all (fun j=>(ops[j]?).bind (·.dst) != some t)=true):a.eval (.tmp t)=base.eval (.tmp t) :=
 h.old t fun j hj=>by
  have:=List.all_eq_true.1 ht j (List.mem_range.2 hj)
  simpa using this
theorem Agree.got_at {m:Nat}{vals:Nat→Value}{base a:Act}{R:Nat→Prop}(h:Agree ops m vals base R a){t:Tmp}(j:Nat)(hj:j<m)(hR:R j)(hd:(ops[j]?).bind (·.dst)=some t):a.eval (.tmp t)=vals j:=h.got j hj hR t hd
def putsA (ops:Array Oper)(vals:Nat→Value):Nat→Act→Act
 |0,a=>a
 |k+1,a=>(putsA ops vals k a).put ((ops[k]?).bind (·.dst)) (vals k)
theorem Agree.unique {m:Nat}{vals:Nat→Value}{base a b:Act}(h:Agree ops m vals base (fun _=>True) a)(k:Agree ops m vals base (fun _=>True) b):a=b:=by
 have e:a.tmps=b.tmps:=by
  apply Array.ext
  ·rw [h.size,k.size]
  ·intro t h1 h2
   have e1:a.tmps[t]=a.tmps.getD t undef:=by simp [h1]
   have e2:b.tmps[t]=b.tmps.getD t undef:=by simp [h2]
   rw [e1,e2]
   by_cases hx:∃ j,j<m∧(ops[j]?).bind (·.dst)=some t
   ·obtain ⟨j,h3,h4⟩:=hx
    rw [h.got j h3 trivial t h4,k.got j h3 trivial t h4]
   ·have:∀ j,j<m→(ops[j]?).bind (·.dst)≠some t:=fun j hj hd=>hx ⟨j,hj,hd⟩
    rw [h.old t this,k.old t this]
 cases a
 cases b
 simp only at e
 subst e
 have:=h.defers.trans k.defers.symm
 simp only at this
 subst this
 rfl
theorem reads_any {m nt:Nat}(hok:readsOK ops m nt=true)(vals:Nat→Value)(base:Act)(w:World)(Q:Exit→Act→World→Prop)(hnt:base.tmps.size=nt)
  (hread:∀ i,i<m→∀ o,ops[i]? =some o→∀ a,Agree ops m vals base (fun j=>j ∈ direct o) a→∀ K:Act→World→Prop,K (a.put o.dst (vals i)) w→o.wpIn F n P a w K Q)
  (hlast:∀ o,ops[m]? =some o→o.wpIn F n P (putsA ops vals m base) w (fun a' w' =>Q .normal a' w') Q) :
  wpAnyIn F n P .any ops Q ops.size (Array.replicate ops.size false) base w:=by
 simp only [readsOK,Bool.and_eq_true,beq_iff_eq,List.all_eq_true,List.mem_range] at hok
 obtain ⟨hsz,hops⟩:=hok
 have hop:∀ i,i<m+1→∃ o,ops[i]? =some o∧o.guard=none∧(∀ e,e ∈ direct o→e<i)∧(i<m→∃ d,o.dst=some d∧d<nt∧∀ j,j<m→j≠i→(ops[j]?).bind (·.dst)≠some d)∧(i=m→o.dst=none∧∀ j,j<m→j ∈ direct o):=by
  intro i hi
  have h:=hops i hi
  cases ho:ops[i]? with
  |none=>rw [ho] at h;cases h
  |some o =>
   rw [ho] at h
   simp only [Bool.and_eq_true,Option.isNone_iff_eq_none,List.all_eq_true,decide_eq_true_eq] at h
   obtain ⟨⟨h1,h2⟩,h3⟩:=h
   refine ⟨o,rfl,h1,h2,fun hm=> ?_,fun hm=> ?_⟩
   ·rw [if_pos hm] at h3
    cases hd:o.dst with
    |none=>rw [hd] at h3;cases h3
    |some d =>
     rw [hd] at h3
     simp only [Bool.and_eq_true,decide_eq_true_eq,List.all_eq_true,List.mem_range,Bool.or_eq_true,beq_iff_eq,bne_iff_ne] at h3
     exact ⟨d,rfl,h3.1,fun j hj hne=>(h3.2 j hj).resolve_left hne⟩
   ·rw [if_neg (by omega)] at h3
    simp only [Bool.and_eq_true,Option.isNone_iff_eq_none,List.all_eq_true,List.mem_range,List.contains_iff_mem] at h3
    exact h3
 have hput:∀ {R:Nat→Prop} {a:Act} {i d:Nat},Agree ops m vals base R a→i<m→(ops[i]?).bind (·.dst)=some d→d<nt→(∀ j,j<m→j≠i→(ops[j]?).bind (·.dst)≠some d)→Agree ops m vals base (fun j=>R j∨j=i) (a.put (some d) (vals i)):=by
  intro R a i d hA him hd1 hdn hdd
  have hds:d<a.tmps.size:=by rw [hA.size,hnt];exact hdn
  refine ⟨fun j hj hlj d' hd' => ?_,fun t ht=> ?_,by rw [size_put];exact hA.size,by rw [defers_put];exact hA.defers⟩
  ·by_cases hji:j=i
   ·subst hji
    rw [hd1] at hd'
    cases hd'
    exact getD_put_same hds
   ·have hne:d' ≠d:=by
     rintro rfl
     exact hdd j hj hji hd'
    rw [getD_put_other (fun e=>hne (by cases e;rfl))]
    exact hA.got j hj (hlj.resolve_right hji) d' hd'
  ·have hne:t≠d:=by
    rintro rfl
    exact ht i him hd1
   rw [getD_put_other (fun e=>hne (by cases e;rfl))]
   exact hA.old t ht
 have hputs:∀ k,k≤m→Agree ops m vals base (fun j=>j<k) (putsA ops vals k base):=by
  intro k
  induction k with
  |zero=>exact fun _=>⟨fun j _ h=>by omega,fun _ _=>rfl,rfl,rfl⟩
  |succ k ih =>
   intro hk
   obtain ⟨o,ho,_,_,hlt,_⟩:=hop k (by omega)
   obtain ⟨d,hd,hdn,hdd⟩:=hlt (by omega)
   have hd1:(ops[k]?).bind (·.dst)=some d:=by rw [ho];exact hd
   have:=hput (ih (by omega)) (by omega) hd1 hdn hdd
   simp only [putsA,hd1]
   exact ⟨fun j hj hjk=>this.got j hj (by omega),this.old,this.size,this.defers⟩
 suffices h:∀ (fuel:Nat) (listed:Array Bool) (a:Act),listed.size=m+1→(remOf (m+1) listed).length=fuel→listed.getD m false=false→Agree ops m vals base (fun j=>listed.getD j false=true) a→wpAnyIn F n P .any ops Q fuel listed a w by
  refine h _ _ base (by simp [hsz]) ?_ (by simp [hsz]) ⟨fun j _ h=> ?_,fun _ _=>rfl,rfl,rfl⟩
  ·unfold remOf
   rw [List.filter_eq_self.2 (fun j hj=>by
    have:j<m+1:=by simpa using hj
    simp [hsz,this]),List.length_range,hsz]
  ·rcases Nat.lt_or_ge j ops.size with h' |h' <;>simp [h'] at h
 intro fuel
 induction fuel with
 |zero =>
  intro listed a hls hrem hm _
  have:m ∈ remOf (m+1) listed:=by
   unfold remOf
   simp only [List.mem_filter,List.mem_range,Bool.not_eq_true']
   exact ⟨by omega,hm⟩
  rw [List.length_eq_zero_iff.1 hrem] at this
  cases this
 |succ fuel ih =>
  intro listed a hls hrem hm hA
  have hready:∀ i,i ∈ Region.ready .any ops listed→i<m+1∧listed.getD i false=false∧∃ o,ops[i]? =some o∧∀ e,e ∈ direct o→listed.getD e false=true:=by
   intro i hi
   obtain ⟨h0,o,ho,hall⟩:=mem_ready.1 hi
   have hi' :i<m+1:=by rw [← hsz];exact (Array.getElem?_eq_some_iff.1 ho).1
   refine ⟨hi',by rw [← listed_of (by omega)];exact h0,o,ho,fun e he=> ?_⟩
   unfold direct at he
   obtain ⟨ed,hed,rfl⟩:=List.mem_map.1 he
   obtain ⟨h1,h2⟩:=List.mem_filter.1 hed
   exact hall ed (by simpa using h1) h2
  refine ⟨fun hr=> ?_,fun i hi=> ?_⟩
  ·
   exfalso
   obtain ⟨i,hi,hl⟩:∃ i,(i<m+1∧listed.getD i false=false)∧∀ j,(j<m+1∧listed.getD j false=false)→i≤j:=by
    have:∃ i,i<m+1∧listed.getD i false=false:=⟨m,by omega,hm⟩
    obtain ⟨i,h⟩:=this
    induction i using Nat.strongRecOn with
    |_ i ih =>
     by_cases h' :∃ j,j<i∧j<m+1∧listed.getD j false=false
     ·obtain ⟨j,h1,h2,h3⟩:=h'
      exact ih j h1 ⟨h2,h3⟩
     ·refine ⟨i,h,fun j hj=> ?_⟩
      rcases Nat.lt_or_ge j i with h1|h1
      ·exact absurd ⟨j,h1,hj⟩ h'
      ·exact h1
   obtain ⟨o,ho,_,hd,_⟩:=hop i hi.1
   have:i ∈ Region.ready .any ops listed:=by
    rw [mem_ready]
    refine ⟨by rw [listed_of (by omega)];exact hi.2,o,ho,fun e he hb=> ?_⟩
    have he' :e.on ∈ direct o:=by
     unfold direct
     exact List.mem_map.2 ⟨e,List.mem_filter.2 ⟨by simpa using he,hb⟩,rfl⟩
    have:=hd _ he'
    cases hle:listed.getD e.on false with
    |true=>rfl
    |false =>
     have:=hl e.on ⟨by omega,hle⟩
     omega
   rw [hr] at this
   cases this
  ·obtain ⟨hi',hun,o,ho,hdir⟩:=hready i hi
   obtain ⟨o',ho',hg,_,hlt,hlst⟩:=hop i hi'
   rw [ho] at ho'
   cases ho'
   unfold wpOpIn
   simp only [ho]
   have hw:Region.wanted o (yielded ops a.tmps)=true:=by simp [Region.wanted,hg]
   rw [if_pos hw]
   rcases Nat.lt_or_ge i m with him|him
   ·obtain ⟨d,hd,hdn,hdd⟩:=hlt him
    refine hread i him o ho a ⟨fun j hj hdj=>hA.got j hj (hdir j hdj),hA.old,hA.size,hA.defers⟩ _ ?_
    have hd1:(ops[i]?).bind (·.dst)=some d:=by rw [ho];exact hd
    refine ih _ _ (by simpa using hls) ?_ ?_ ?_
    ·obtain ⟨l1,l2,e1,e2,_⟩:=remOf_split hi' hun hls
     rw [e1] at hrem
     rw [e2]
     simp only [List.length_append,List.length_cons] at hrem ⊢
     omega
    ·rw [getD_set_ne false (by omega)]
     exact hm
    ·have:=hput hA him hd1 hdn hdd
     rw [hd]
     refine ⟨fun j hj hlj=>this.got j hj ?_,this.old,this.size,this.defers⟩
     by_cases hji:j=i
     ·exact Or.inr hji
     ·rw [getD_set_ne false (Ne.symm hji)] at hlj
      exact Or.inl hlj
   ·obtain rfl:i=m:=by omega
    obtain ⟨hdn,hall⟩:=hlst rfl
    have hfin:=hputs i (Nat.le_refl _)
    have hEq:a=putsA ops vals i base:=Agree.unique (ops:=ops) (m:=i) (vals:=vals) (base:=base) ⟨fun j hj _=>hA.got j hj (hdir j (hall j hj)),hA.old,hA.size,hA.defers⟩ ⟨fun j hj _=>hfin.got j hj hj,hfin.old,hfin.size,hfin.defers⟩
    rw [hEq]
    refine Oper.wpIn_mono ?_ (hlast o ho)
    intro a' w' hq
    have hr:Region.ready .any ops (listed.setIfInBounds i true)=[]:=by
     apply List.eq_nil_iff_forall_not_mem.2
     intro k hk
     obtain ⟨h0,o',ho',_⟩:=mem_ready.1 hk
     have hk' :k<i+1:=by rw [← hsz];exact (Array.getElem?_eq_some_iff.1 ho').1
     rw [listed_of (by simpa using (by omega:k<listed.size))] at h0
     by_cases hki:k=i
     ·subst hki
      simp [hls] at h0
     ·rw [getD_set_ne false (Ne.symm hki),hdir k (hall k (by omega))] at h0
      cases h0
    cases fuel with
    |zero=>exact ⟨hr,hq⟩
    |succ f=>exact ⟨fun _=>hq,fun k hk=>by rw [hr] at hk;cases hk⟩
end
end Go.Abs
namespace Go.Proofs.YtjnkccpijofgiaaGreat
open Go.RowKit Go.Shelf
attribute [local go_sem] Oper.semAt_some
def Apart (h n:Nat)(A B:World):Prop:=∀ k,k<n→k≠h→B.heap[k]? =A.heap[k]?
theorem Apart.refl (h n:Nat)(A:World):Apart h n A A:=fun _ _ _=>rfl
theorem Apart.trans {h n:Nat}{A B C:World}(x:Apart h n A B)(y:Apart h n B C):Apart h n A C:=fun k h1 h2=>(y k h1 h2).trans (x k h1 h2)
theorem Apart.cell {h n:Nat}{A B:World}(x:Apart h n A B){p:Addr}(h1:p.block<n)(h2:p.block≠h):B.cell? p=A.cell? p:=World.cell?_of_block (x _ h1 h2)
theorem Apart.below {h n m:Nat}{A B:World}(x:Below m A B)(hn:n≤m):Apart h n A B:=fun k h1 _=>x.block k (by omega)
def upto {α:Type}(f:Nat→α)(k:Nat):List α:=(List.range k).map f
theorem upto_succ {α:Type}(f:Nat→α)(k:Nat):upto f (k+1)=upto f k++[f k]:=by simp [upto,List.range_succ]
theorem upto_length {α:Type}(f:Nat→α)(k:Nat):(upto f k).length=k:=by simp [upto]
set_option maxRecDepth 100000 in
set_option maxHeartbeats 2000000 in
theorem back1 {α:Type}(encs:α→Array Value)(f:Nat→α)(F:Fence)(n:Nat)(h53:F.fn 53)(hro:F.round=none)(hn:1≤n)(l Bs h n₀ b off cap:Nat)(zs:List Int)(hreach:zs.length * 8≤140737488351232)(hb:0<zs.length→b<n₀∧b≠h)(hBn:Bs<n₀)(hBh:Bs≠h)(hf:∀ k,k<zs.length→encs (f k)= #[.int .i64 ((zs.length - 1 - k:Nat):Int),.int .i64 (zs[zs.length - 1 - k]?.getD 0)])(J Jx:List α→World→Prop)
  (hY:∀ pre x W,J pre W→pre.length<zs.length→YieldAt F (n - 1) Tryz.prog l (encs x) W fun e W' =>
   (e= .returned (.bool true)∧J (pre++[x]) W' ∧Apart h n₀ W W')∨(e= .returned (.bool false)∧Jx (pre++[x]) W'))
  (W:World) (hBs:W.cell? ⟨Bs,0,none⟩=some (.slice (some ⟨b,off,none⟩) zs.length cap)) (hc:∀ j,j<zs.length→W.cell? ⟨b,off+j,none⟩=some (.int .i64 (zs[j]?.getD 0))) (h0:J [] W) :
  CallsIn F n Tryz.prog 53 #[.func (.yield l) #[] #[],.pointer (some ⟨Bs,0,none⟩)] W fun e W' =>(∃ v,e= .returned v) ∧
   ((∃ ys,ys=upto f zs.length∧J ys W')∨(∃ pre,(∃ k,k≤zs.length∧pre=upto f k)∧Jx pre W')):=by
 have hlen:(zs.length:Int)≤9223372036854775807:=by omega
 refine callsIn_of_wp Tryz.func53 rfl h53 ?_ hro
 simp only [Tryz.ntmps53,List.size_toArray,List.length_cons,List.length_nil,Nat.reduceAdd,Nat.reduceSub,Array.replicate_succ,Array.replicate_zero,List.push_toArray,List.append_toArray,List.nil_append,List.cons_append]
 gi_wp2
 gi_loopw [3] (fun i wr=>∃ m k:Nat,m+k=zs.length∧i= .int .i64 ((m:Int) - 1)∧J (upto f k) wr∧Apart h n₀ W wr)
  (fun i _=>(intOf i+1).toNat)
 case atStart=>exact ⟨zs.length,0,rfl,rfl,h0,Apart.refl _ _ _⟩
 case round =>
  obtain ⟨m,k,hmk,rfl,hJs,hnx⟩:=hrel
  rcases m with _|m
  ·have e:((0:Nat):Int) - 1= -1:=rfl
   rw [e]
   obtain rfl:k=zs.length:=by omega
   gi_wp2
   go_end0
   exact ⟨⟨_,rfl⟩,.inl ⟨_,rfl,hJs⟩⟩
  ·have e:((m+1:Nat):Int) - 1=m:=by omega
   rw [e]
   have hm0:(0:Int)≤(m:Int):=by omega
   have hml:m<zs.length:=by omega
   have hbk:encs (f k)= #[.int .i64 (m:Int),.int .i64 (zs[m]?.getD 0)]:=by
    have:zs.length - 1 - k=m:=by omega
    have h1:=hf k (by omega)
    rw [this] at h1
    exact h1
   obtain ⟨hb1,hb2⟩:=hb (by omega)
   have hcx:wr.cell? ⟨b,off+m,none⟩=some (.int .i64 (zs[m]?.getD 0)):=(hnx.cell (p:=⟨b,off+m,none⟩) hb1 hb2).trans (hc m hml)
   have hBs' :wr.cell? ⟨Bs,0,none⟩=some (.slice (some ⟨b,off,none⟩) zs.length cap):=(hnx.cell (p:=⟨Bs,0,none⟩) hBn hBh).trans hBs
   obtain ⟨z,hz⟩:∃ z,zs[m]?.getD 0=z:=⟨_,rfl⟩
   rw [hz] at hcx hbk
   obtain ⟨fn,tmps,assign,body,hy,hR⟩:=hY _ (f k) wr hJs (by rw [upto_length];omega)
   rw [hbk] at hy
   clear e hz
   gi_wp2
   refine hR.mono ?_
   rintro e W3 (⟨rfl,hJ3,hk3⟩|⟨rfl,hJx3⟩)
   ·gi_wp2
    go_roundw
    case rel=>exact ⟨m,k+1,by omega,rfl,by rw [upto_succ];exact hJ3,hnx.trans hk3⟩
    case measure=>simp [intOf]
   ·gi_wp2
    refine bodyPost_ret (results_none rfl _ _ _) rfl ?_
    exact ⟨⟨_,rfl⟩,.inr ⟨_,⟨k+1,by omega,by rw [upto_succ]⟩,hJx3⟩⟩
set_option maxRecDepth 100000 in
set_option maxHeartbeats 1000000 in
theorem back1_nil {α:Type}(F:Fence)(n:Nat)(h53:F.fn 53)(hro:F.round=none)(l Bs:Nat)(a:Option Addr)(cap:Nat)(J:List α→World→Prop)(W:World)(hBs:W.cell? ⟨Bs,0,none⟩=some (.slice a 0 cap))(h0:J [] W) :
  CallsIn F n Tryz.prog 53 #[.func (.yield l) #[] #[],.pointer (some ⟨Bs,0,none⟩)] W fun e W' =>(∃ v,e= .returned v)∧J [] W' :=by
 refine callsIn_of_wp Tryz.func53 rfl h53 ?_ hro
 simp only [Tryz.ntmps53,List.size_toArray,List.length_cons,List.length_nil,Nat.reduceAdd,Nat.reduceSub,Array.replicate_succ,Array.replicate_zero,List.push_toArray,List.append_toArray,List.nil_append,List.cons_append]
 gi_wp2
 gi_loopw [3] (fun i wr=>i= .int .i64 (-1)∧J [] wr) (fun _ _=>0)
 case atStart=>exact ⟨rfl,h0⟩
 case round =>
  obtain ⟨rfl,hJs⟩:=hrel
  gi_wp2
  go_end0
  exact ⟨⟨_,rfl⟩,hJs⟩
set_option maxHeartbeats 1000000 in
theorem back_in (F:Fence)(n:Nat)(h21:F.fn 21)(hro:F.round=none)(a:Option Addr)(len cap:Nat)(w:World) :
  CallsIn F n Tryz.prog 21 #[.slice a len cap] w fun e w' =>e= .returned (.func (.func 53) #[] #[.pointer (some ⟨w.heap.size,0,none⟩)])∧w' =w.alloc (.cells #[.slice a len cap] 29):=by
 refine callsIn_of_wp Tryz.func21 rfl h21 ?_ hro
 simp only [Tryz.ntmps21,List.size_toArray,List.length_cons,List.length_nil,Nat.reduceAdd,Nat.reduceSub,Array.replicate_succ,Array.replicate_zero,List.push_toArray,List.append_toArray,List.nil_append,List.cons_append]
 gi_wp2
 go_ret
 exact ⟨rfl,rfl⟩
def IntsAt (h n₀:Nat)(W:World)(sv:Value)(zs:List Int):Prop :=
 ((∃ a cap,sv= .slice a 0 cap)∧zs=[])∨∃ b off cap,sv= .slice (some ⟨b,off,none⟩) zs.length cap∧(0<zs.length→b<n₀∧b≠h)∧∀ j,j<zs.length→W.cell? ⟨b,off+j,none⟩=some (.int .i64 (zs[j]?.getD 0))
theorem back_stops {α:Type}(encs:α→Array Value)(f:Nat→α)(F:Fence)(n:Nat)(h53:F.fn 53)(hro:F.round=none)(hn:1≤n)(Bs h n₀:Nat)(sv:Value)(zs:List Int)(hreach:zs.length * 8≤140737488351232)(w:World)(hBs:Bs<n₀)(hBh:Bs≠h)(hn₀:n₀≤w.heap.size)
  (hc:w.cell? ⟨Bs,0,none⟩=some sv) (hI:IntsAt h n₀ w sv zs) (hf:∀ k,k<zs.length→encs (f k)= #[.int .i64 ((zs.length - 1 - k:Nat):Int),.int .i64 (zs[zs.length - 1 - k]?.getD 0)]) :
  SeqStopsK F n Tryz.prog 53 #[.pointer (some ⟨Bs,0,none⟩)] encs (Apart h n₀) (fun ys=>ys=upto f zs.length)
   (fun pre=>∃ k,k≤zs.length∧pre=upto f k) zs.length w:=fun l J Jx W hW _ _ hY h0=>by
 have hc' :=(hW.cell (p:=⟨Bs,0,none⟩) (by show Bs<_;omega)).trans hc
 rcases hI with ⟨⟨a,cap,rfl⟩,rfl⟩|⟨b,off,cap,rfl,hb,hcs⟩
 ·exact (back1_nil F n h53 hro l Bs a cap J W hc' h0).mono fun e W' ⟨he,hj⟩=>⟨he,.inl ⟨_,rfl,hj⟩⟩
 ·exact back1 encs f F n h53 hro hn l Bs h n₀ b off cap zs hreach hb hBs hBh hf J Jx hY W hc' (fun j hj=>(hW.cell (p:=⟨b,off+j,none⟩) (by have:=(hb (by omega)).1;show b<_;omega)).trans (hcs j hj)) h0
end Go.Proofs.YtjnkccpijofgiaaGreat
namespace Go.Proofs.YtjnkccpijofgiaaGreat
open Go.RowKit Go.Shelf
attribute [local go_sem] Oper.semAt_some
theorem idle20 (args:Array Value)(w:World)(n:Nat)(hargs:args.size=2):CallsDIn Fence.wide n Tryz.prog 20 args .returning w fun e u' w' =>e= .returned (.tuple #[])∧u' = .returning∧w' =w:=by
 obtain ⟨x,y,rfl⟩:∃ x y,args= #[x,y]:=by
  obtain ⟨l⟩:=args
  match l,hargs with
  |[x,y],_=>exact ⟨x,y,rfl⟩
 refine callsDIn_of_wpSIn Tryz.func20 rfl trivial fun c₀ cs hu=> ?_
 apply wpSIn_seq
 apply wpSIn_region
 simp [wpOpsSIn,go_sem,recoverD,hu,Tryz.ntmps20,Exit.thenS]
 refine wpSIn_cond (t:=false) (by simp [Act.eval,Array.replicate]) ?_
 simp only [Bool.false_eq_true,if_false]
 refine wpSIn_of_wpIn rfl (wpIn_skip ?_)
 cases c₀
 simp_all [bodyPostS,results,Tryz.results20]
def NumsAt (W:World)(n:Nat)(sv:Value)(zs:List Nat):Prop :=
 (zs=[]∧∃ a cap,sv= .slice a 0 cap)∨∃ b off cap,sv= .slice (some ⟨b,off,none⟩) zs.length cap∧(0<zs.length→b<n)∧∀ j,j<zs.length→W.cell? ⟨b,off+j,none⟩=some (.int .i64 ((zs[j]?.getD 0:Nat):Int))
def StepsAt (W:World)(n:Nat)(sv:Value)(af:List (List Nat)):Prop :=
 (af=[]∧∃ a cap,sv= .slice a 0 cap)∨∃ b off cap,sv= .slice (some ⟨b,off,none⟩) af.length cap∧(0<af.length→b<n)∧∀ j,j<af.length→∃ av,W.cell? ⟨b,off+j * 5+3,none⟩=some av∧NumsAt W n av (af[j]?.getD [])
theorem box3_cell (w:World)(x y z:Value)(t:TypeId):(w.alloc (.cells #[x,y,z] t)).cell? ⟨w.heap.size,2,none⟩=some z:=by
 have h:=World.alloc_heap_new w (.cells #[x,y,z] t)
 unfold World.cell?
 rw [h]
 rfl
theorem after_order (w:World)(vs ss sv:Value)(W1:World)
  (hB1:Below (((w.alloc (.cells #[vs,ss,sv] 26)).alloc (.cells #[.slice none 0 0] 29)).alloc (.cells #[.int .i64 0] 30)).heap.size (((w.alloc (.cells #[vs,ss,sv] 26)).alloc (.cells #[.slice none 0 0] 29)).alloc (.cells #[.int .i64 0] 30)) W1) :
  W1.cell? ⟨w.heap.size,2,none⟩=some sv∧(W1.cell? ⟨w.heap.size+1,0,none⟩=some (.slice none 0 0)∧W1.frozen? ⟨w.heap.size+1,0,none⟩=false) ∧
   (W1.cell? ⟨w.heap.size+1+1,0,none⟩=some (.int .i64 0)∧W1.frozen? ⟨w.heap.size+1+1,0,none⟩=false)∧Below w.heap.size w W1∧w.heap.size+3≤W1.heap.size:=by
 have b1:=Boxed.new (w.alloc (.cells #[vs,ss,sv] 26)) 29 (.slice none 0 0)
 have b2:=Boxed.new ((w.alloc (.cells #[vs,ss,sv] 26)).alloc (.cells #[.slice none 0 0] 29)) 30 (.int .i64 0)
 have b1:=b1.alloc (.cells #[.int .i64 0] 30)
 simp only [World.size_alloc] at b1 b2
 have hs:(((w.alloc (.cells #[vs,ss,sv] 26)).alloc (.cells #[.slice none 0 0] 29)).alloc (.cells #[.int .i64 0] 30)).heap.size=w.heap.size+3:=by simp
 have hB0:Below w.heap.size w (((w.alloc (.cells #[vs,ss,sv] 26)).alloc (.cells #[.slice none 0 0] 29)).alloc (.cells #[.int .i64 0] 30)):=(((Below.refl _ w).alloc (Nat.le_refl _) _).alloc (by simp) _).alloc (by simp;omega) _
 refine ⟨?_,⟨(hB1.cell (p:=⟨w.heap.size+1,0,none⟩) (by rw [hs];show w.heap.size+1<_;omega)).trans b1.cell,(hB1.frozen (p:=⟨w.heap.size+1,0,none⟩) (by rw [hs];show w.heap.size+1<_;omega)).trans b1.frozen⟩,
  ⟨(hB1.cell (p:=⟨w.heap.size+1+1,0,none⟩) (by rw [hs];show w.heap.size+1+1<_;omega)).trans b2.cell,(hB1.frozen (p:=⟨w.heap.size+1+1,0,none⟩) (by rw [hs];show w.heap.size+1+1<_;omega)).trans b2.frozen⟩,hB0.trans (hB1.mono (by rw [hs];omega)),by have:=hB1.size;omega⟩
 rw [hB1.cell (p:=⟨w.heap.size,2,none⟩) (by rw [hs];show w.heap.size<_;omega)]
 have k1:Below (w.heap.size+1) (w.alloc (.cells #[vs,ss,sv] 26)) (((w.alloc (.cells #[vs,ss,sv] 26)).alloc (.cells #[.slice none 0 0] 29)).alloc (.cells #[.int .i64 0] 30)):=((Below.refl _ _).alloc (by simp) _).alloc (by simp) _
 rw [k1.cell (p:=⟨w.heap.size,2,none⟩) (by show w.heap.size<_;omega)]
 exact box3_cell w vs ss sv 26
def rowA (hs:List Int):Array Value:=(hs.map (Value.int .i64)).toArray
theorem rowA_zero (n:Nat):madeCells #[Value.int .i64 0] n=rowA (List.replicate n 0):=by
 apply Array.toList_inj.1
 rw [toList_madeCells_one]
 simp [rowA]
theorem wpListIn_make_ints {F:Fence}{n:Nat}{P:Program}(w:World){ops:Array Oper}{rest:List Oper}{o:Oper}{a:Act}{Q:Exit→Act→World→Prop}
  (hg:o.guard=none) (l c:Operand) (t:TypeId) (hop:o.op=Op.makeSlice t l c)
  (e:TypeId) (i:TypeInfo) (h1:P.underlying t=some (.slice e)) (h2:P.info? e=some i) (h3:i.zero=some (.int .i64 0)) (h4:i.size=1) (h5:i.bytes=8)
  (m:Nat) (hl:a.eval l= .int .i64 m) (hc:a.eval c= .int .i64 m) (b2:m≤1000000)
  (hK:wpListIn F n P ops Q rest (a.put o.dst (.slice (some ⟨w.heap.size,0,none⟩) m m)) (w.alloc (.cells (rowA (List.replicate m 0)) e))) :
  wpListIn F n P ops Q (o::rest) a w:=by
 refine wpListIn_plain hg fun K hK' => ?_
 have hrun:=run_make (P:=P) w t e i (.int .i64 0) h1 h2 h3 .i64 .i64 m m (by omega) (Int.le_refl _) (by rw [h5];omega) (by omega)
 have e1:(Value.int IntKind.i64 0).cells= #[Value.int .i64 0]:=rfl
 rw [h4,e1,Int.toNat_natCast,Nat.mul_one,rowA_zero] at hrun
 unfold Oper.wpIn
 refine ⟨?_,?_⟩
 ·simp [Oper.about,hop]
 ·rw [Oper.semAt_plain F _ _ (by rw [hop];intro c hc';cases hc')]
  simp [execOp,hop,hl,hc,hrun,Result.andThen]
  exact hK' _ _ hK
theorem wpIn_val {F:Fence}{n:Nat}{P:Program}{o:Oper}{a:Act}{w w' :World}{K:Act→World→Prop}{Q:Exit→Act→World→Prop}{l:Nat}(hF:F.fn=fun _=>True)(hd:∀ c,o.op≠ .defer c){v:Value}(hrun:(execOp a.eval o).run P w= .ok (.value v) w')(hK:K (a.put o.dst v) w'):o.wpIn (F.inRound l) n P a w K Q:=by
 unfold Oper.wpIn
 refine ⟨fun f _=>by simp [hF],?_⟩
 rw [Oper.semAt_plain (F.inRound l) _ _ hd]
 simp only [hrun]
 exact hK
theorem wpIn_skp {F:Fence}{n:Nat}{P:Program}{o:Oper}{a:Act}{w w' :World}{K:Act→World→Prop}{Q:Exit→Act→World→Prop}{l:Nat}(hF:F.fn=fun _=>True)(hd:∀ c,o.op≠ .defer c)(hrun:(execOp a.eval o).run P w= .ok .skip w')(hK:K (a.put o.dst undef) w'):o.wpIn (F.inRound l) n P a w K Q:=by
 unfold Oper.wpIn
 refine ⟨fun f _=>by simp [hF],?_⟩
 rw [Oper.semAt_plain (F.inRound l) _ _ hd]
 simp only [hrun]
 exact hK
theorem info3:(Tryz.prog.info? 3).map (fun i=>(i.zero,i.size,i.bytes))=some (some (.int .i64 0),1,8):=by kernel_rfl
theorem StepsAt.slice {W:World}{n:Nat}{sv:Value}{af:List (List Nat)}(h:StepsAt W n sv af):∃ sa sc,sv= .slice sa af.length sc:=by
 rcases h with ⟨rfl,a,c,rfl⟩|⟨b,o,c,rfl,_⟩
 ·exact ⟨_,_,rfl⟩
 ·exact ⟨_,_,rfl⟩
theorem NumsAt.slice {W:World}{n:Nat}{sv:Value}{af:List Nat}(h:NumsAt W n sv af):∃ sa sc,sv= .slice sa af.length sc:=by
 rcases h with ⟨rfl,a,c,rfl⟩|⟨b,o,c,rfl,_⟩
 ·exact ⟨_,_,rfl⟩
 ·exact ⟨_,_,rfl⟩
theorem setCell_self (W:World){b o:Nat}{v:Value}(h:W.cell? ⟨b,o,none⟩=some v):W.setCell ⟨b,o,none⟩ v=W:=by
 have:(W.setCell ⟨b,o,none⟩ v).heap=W.heap:=by
  apply Array.ext_getElem?
  intro i
  simp only [World.setCell,Array.getElem?_modify]
  split
  ·rename_i hi
   subst hi
   unfold World.cell? at h
   cases hb:W.heap[b]? with
   |none=>rfl
   |some ob =>
    rw [hb] at h
    cases ob with
    |cells c t fz =>
     simp only [Option.isSome_none,Bool.false_eq_true,if_false] at h
     simp only [Option.map_some,Option.isSome_none,Bool.false_eq_true,if_false]
     have:c.setIfInBounds o v=c:=by
      apply Array.ext_getElem?
      intro k
      rw [Array.getElem?_setIfInBounds]
      split
      ·rename_i hk
       subst hk
       split
       ·exact h.symm
       ·rename_i hlt
        rw [Array.getElem?_eq_none (by omega)]
      ·rfl
     rw [this]
    |_=>rfl
  ·rfl
 have e:W.setCell ⟨b,o,none⟩ v={ W with heap:=(W.setCell ⟨b,o,none⟩ v).heap }:=rfl
 rw [e,this]
theorem IntsAt.sliceN {h n:Nat}{W:World}{sv:Value}{ord:List Nat}(x:IntsAt h n W sv (ord.map Int.ofNat)):∃ sa sc,sv= .slice sa ord.length sc:=by
 rcases x with ⟨⟨_,_,rfl⟩,e⟩|⟨b,o,c,rfl,_⟩
 ·have:ord.length=0:=by simpa using congrArg List.length e
  rw [this]
  exact ⟨_,_,rfl⟩
 ·exact ⟨_,_,by rw [List.length_map]⟩
def mx (a b:Int):Int:=if a<b then b else a
def bump (num:Nat)(hs:List Int)(k:Nat):List Int:=hs.set k (mx (hs[k]?.getD 0) (IntKind.i64.wrap (hs[num]?.getD 0+1)))
def bumps (num:Nat)(l:List Nat)(hs:List Int):List Int:=l.foldl (bump num) hs
theorem bumps_len (num:Nat):∀ (l:List Nat) (hs:List Int),(bumps num l hs).length=hs.length
 |[],_=>rfl
 |k::l,hs=>by
  show (bumps num l (bump num hs k)).length=_
  rw [bumps_len num l,bump,List.length_set]
theorem rowA_set (hs:List Int)(q:Nat)(v:Int):(rowA hs).setIfInBounds q (.int .i64 v)=rowA (hs.set q v):=by
 apply Array.toList_inj.1
 simp [rowA,List.map_set]
theorem bumps_snoc (num q:Nat)(l:List Nat)(hs:List Int):bumps num (l++[q]) hs=bump num (bumps num l hs) q:=by simp [bumps]
theorem wrap64_eq (x:Int):IntKind.i64.wrap x=wrap64 x:=by first|rfl|(rw [IntKind.wrap_i64];rfl)|(unfold wrap64;rw [IntKind.wrap_i64])
abbrev Nm (n:Nat):={ p:Nat×Nat // p.2<n∨n=0 }
def encN {n:Nat}(x:Nm n):Array Value:= #[.int .i64 (x.1.1:Int),.int .i64 (x.1.2:Int)]
def hsOf (af:List (List Nat))(pre:List (Nm af.length)):List Int:=pre.foldl (fun hs x=>bumps x.1.2 (af[x.1.2]?.getD []) hs) (List.replicate af.length 0)
theorem hsOf_snoc (af:List (List Nat))(pre:List (Nm af.length))(x:Nm af.length):hsOf af (pre++[x])=bumps x.1.2 (af[x.1.2]?.getD []) (hsOf af pre):=by simp [hsOf]
theorem hsOf_len (af:List (List Nat))(pre:List (Nm af.length)):(hsOf af pre).length=af.length:=by
 suffices h:∀ (pre:List (Nm af.length)) (hs:List Int),(pre.foldl (fun hs x=>bumps x.1.2 (af[x.1.2]?.getD []) hs) hs).length=hs.length by
  unfold hsOf
  rw [h,List.length_replicate]
 intro pre
 induction pre with
 |nil=>intro hs;rfl
 |cons x pre ih=>intro hs;rw [List.foldl_cons,ih,bumps_len]
def bkN (n:Nat)(ord:List Nat)(hord:∀ a ∈ ord,a<n)(k:Nat):Nm n:=if h:k<ord.length then ⟨(ord.length - 1 - k,ord[ord.length - 1 - k]'(by omega)),.inl (hord _ (List.getElem_mem _))⟩ else if h0:0<n then ⟨(0,0),.inl h0⟩ else ⟨(0,0),.inr (by omega)⟩
set_option maxRecDepth 100000 in
set_option maxHeartbeats 4000000 in
theorem heights_walk (w:World)(vs ss sv:Value)(af:List (List Nat))(ord:List Nat)(hsteps:StepsAt w w.heap.size sv af)(hlen:af.length≤128)(hol:ord.length≤128)(hord:∀ a ∈ ord,a<af.length)(haf:∀ l ∈ af,l.length≤1000000∧∀ a ∈ l,a<af.length)
  (horder:∀ W,Below w.heap.size w W→Calls Tryz.prog 10 #[.agg #[vs,ss,sv]] W fun e W' =>∃ ov,e= .returned (.tuple #[ov,.int .i64 0])∧Below W.heap.size W W' ∧IntsAt W'.heap.size W'.heap.size W' ov (ord.map Int.ofNat)) :
  Calls Tryz.prog 8 #[.agg #[vs,ss,sv]] w fun e w' =>∃ hb,e= .returned (.tuple #[.slice (some ⟨hb,0,none⟩) af.length af.length,.int .i64 0])∧w.heap.size≤hb∧w'.heap[hb]? =some (.cells (rowA (hsOf af (upto (bkN af.length ord hord) ord.length))) 3)∧Below w.heap.size w w' :=by
 refine (callsIn_wide (n:=68)).1 ?_
 refine callsIn_of_wp_marks Tryz.func8 rfl trivial ?_ rfl
 simp only [Tryz.ntmps8,List.size_toArray,List.length_cons,List.length_nil,Nat.reduceAdd,Nat.reduceSub,Array.replicate_succ,Array.replicate_zero,List.push_toArray,List.append_toArray,List.nil_append,List.cons_append]
 have hB0:Below w.heap.size w (((w.alloc (.cells #[vs,ss,sv] 26)).alloc (.cells #[.slice none 0 0] 29)).alloc (.cells #[.int .i64 0] 30)):=(((Below.refl _ w).alloc (Nat.le_refl _) _).alloc (by simp) _).alloc (by simp;omega) _
 have hc:=horder _ hB0
 obtain ⟨sa,sc,hsv⟩:=hsteps.slice
 subst hsv
 obtain ⟨i0,hi,hz0,hz1,hz2⟩:=info_parts info3
 gi_wp2_with (first
  |(refine ⟨trivial,?_⟩;gi_at_call 10;refine ((callsIn_wide).2 hc).mono ?_;rintro e W1 ⟨ov,rfl,hB1,hov⟩;obtain ⟨f1,⟨f2,f3⟩,⟨f4,f5⟩,hB2,hs1⟩:=after_order w vs ss _ W1 hB1;clear hB1 hc)
  |(gi_at_make;go_loud (refine wpListIn_make_ints _ rfl _ _ 29 rfl 3 i0 Tryz.underlying29 hi hz0 hz1 hz2 af.length rfl rfl (by omega) ?_))
  |(refine ⟨trivial,?_⟩;gi_at_call 21;obtain ⟨oa,oc,rfl⟩:=hov.sliceN;refine (back_in Fence.wide 67 trivial rfl _ _ _ _).mono ?_;rintro e W2 ⟨rfl,rfl⟩)
  |gi_in)
 rw [setCell_self W1 f4]
 have g1:=World.alloc_heap_new W1 (.cells (rowA (List.replicate af.length 0)) 3)
 have b1:=Boxed.new (W1.alloc (.cells (rowA (List.replicate af.length 0)) 3)) 29 (.slice (some ⟨W1.heap.size,0,none⟩) af.length af.length)
 have b1:=b1.alloc (.cells #[.slice oa ord.length oc] 29)
 have b2:=Boxed.new ((W1.alloc (.cells (rowA (List.replicate af.length 0)) 3)).alloc (.cells #[.slice (some ⟨W1.heap.size,0,none⟩) af.length af.length] 29)) 29 (.slice oa ord.length oc)
 have k1:Below (W1.heap.size+1) (W1.alloc (.cells (rowA (List.replicate af.length 0)) 3)) (((W1.alloc (.cells (rowA (List.replicate af.length 0)) 3)).alloc (.cells #[.slice (some ⟨W1.heap.size,0,none⟩) af.length af.length] 29)).alloc (.cells #[.slice oa ord.length oc] 29)):=((Below.refl _ _).alloc (by simp) _).alloc (by simp) _
 have k0:Below W1.heap.size W1 (((W1.alloc (.cells (rowA (List.replicate af.length 0)) 3)).alloc (.cells #[.slice (some ⟨W1.heap.size,0,none⟩) af.length af.length] 29)).alloc (.cells #[.slice oa ord.length oc] 29)):=(((Below.refl _ _).alloc (Nat.le_refl _) _).alloc (by simp) _).alloc (by simp;omega) _
 have g1:=(k1.block _ (Nat.lt_succ_self _)).trans g1
 have hs3:(((W1.alloc (.cells (rowA (List.replicate af.length 0)) 3)).alloc (.cells #[.slice (some ⟨W1.heap.size,0,none⟩) af.length af.length] 29)).alloc (.cells #[.slice oa ord.length oc] 29)).heap.size=W1.heap.size+3:=by simp
 simp only [World.size_alloc] at b1 b2
 obtain ⟨W3,hW3⟩:∃ W3,(((W1.alloc (.cells (rowA (List.replicate af.length 0)) 3)).alloc (.cells #[.slice (some ⟨W1.heap.size,0,none⟩) af.length af.length] 29)).alloc (.cells #[.slice oa ord.length oc] 29))=W3:=⟨_,rfl⟩
 simp only [hW3] at g1 b1 b2 k0 hs3 ⊢
 have hp3:W3.cell? ⟨w.heap.size,2,none⟩=some (.slice sa af.length sc):=(k0.cell (p:=⟨w.heap.size,2,none⟩) (by show w.heap.size<_;omega)).trans f1
 have hB3:Below w.heap.size w W3:=hB2.trans (k0.mono (by omega))
 have hq2:W3.cell? ⟨w.heap.size+1,0,none⟩=some (.slice none 0 0)∧W3.frozen? ⟨w.heap.size+1,0,none⟩=false:=⟨(k0.cell (p:=⟨w.heap.size+1,0,none⟩) (by show w.heap.size+1<_;omega)).trans f2,(k0.frozen (p:=⟨w.heap.size+1,0,none⟩) (by show w.heap.size+1<_;omega)).trans f3⟩
 have hq4:W3.frozen? ⟨w.heap.size+1+1,0,none⟩=false:=(k0.frozen (p:=⟨w.heap.size+1+1,0,none⟩) (by show w.heap.size+1+1<_;omega)).trans f5
 have hq3:W3.cell? ⟨w.heap.size+1+1,0,none⟩=some (.int .i64 0):=(k0.cell (p:=⟨w.heap.size+1+1,0,none⟩) (by show w.heap.size+1+1<_;omega)).trans f4
 have hI3:IntsAt W1.heap.size (W1.heap.size+3) W3 (.slice oa ord.length oc) (ord.map Int.ofNat):=by
  rcases hov with e|⟨b,o,c,e,hb,hcs⟩
  ·exact Or.inl e
  ·refine Or.inr ⟨b,o,c,e,fun h0=> ?_,fun j hj=> ?_⟩
   ·have:=hb h0
    omega
   ·rw [k0.cell (p:=⟨b,o+j,none⟩) (hb (by omega)).1]
    exact hcs j hj
 refine wpIn_rangeFunc_ownG (α:=Nm af.length) rfl (by decide) (gf:=53) (lb:= #[.pointer (some ⟨W1.heap.size+1+1,0,none⟩)]) rfl trivial (enters_of Tryz.func53 (by kernel_rfl) rfl)
  (back_stops encN (bkN af.length ord hord) Fence.wide 67 trivial rfl (by decide) (W1.heap.size+1+1) W1.heap.size (W1.heap.size+3) _ _ (by simp;omega) W3 (by omega) (by omega) (by omega) b2.cell hI3 ?hf)
  (fun h k=>h.trans k) ?hKb (Below.refl _ _) (fun _=>rfl)
  (fun pre W=>W.heap[W1.heap.size]? =some (.cells (rowA (hsOf af pre)) 3)∧Apart W1.heap.size (W1.heap.size+3) W3 W∧W1.heap.size+3≤W.heap.size∧Below w.heap.size w W)
  (fun _ _ _=>False) ?own (fun _ _ _ _ _ hs _ _=>hs)
  ⟨g1,Apart.refl _ _ _,by omega,hB3⟩
  (fun x=>{ tmps:= #[.agg #[vs,ss,.slice sa af.length sc],.pointer (some ⟨w.heap.size,0,none⟩),.pointer (some ⟨w.heap.size+1,0,none⟩),.pointer (some ⟨w.heap.size+1+1,0,none⟩),.slice oa ord.length oc,.pointer (some ⟨W1.heap.size+1,0,none⟩),undef,.int .i64 (x.1.2:Int),undef,undef,
   .func (.func 20) #[] #[.pointer (some ⟨w.heap.size+1,0,none⟩),.pointer (some ⟨w.heap.size+1+1,0,none⟩)],.tuple #[.slice oa ord.length oc,.int .i64 0],.agg #[vs,ss,.slice sa af.length sc],.tuple #[.slice oa ord.length oc,.int .i64 0],.slice oa ord.length oc,.int .i64 0,.int .i64 0,.bool false,undef,
   .pointer (some ⟨w.heap.size,2,none⟩),.slice sa af.length sc,.int .i64 af.length,.slice (some ⟨W1.heap.size,0,none⟩) af.length af.length,.slice oa ord.length oc,.func (.func 53) #[] #[.pointer (some ⟨W1.heap.size+1+1,0,none⟩)],.int .i64 (x.1.1:Int),.int .i64 (x.1.2:Int),
   undef,undef,undef,undef,undef,undef,undef,undef,undef,undef,undef,undef,undef,undef,undef,undef,undef,undef,undef,undef,undef,undef,undef,undef,undef,undef],defers:=[] }) ?assign ?body ?done ?stop
 case hf =>
  intro k hk
  rw [List.length_map] at hk ⊢
  have hk' :ord.length - 1 - k<ord.length:=by omega
  simp only [encN,bkN,hk,dif_pos,List.getElem?_map,List.getElem?_eq_getElem hk',Option.map_some,Option.getD_some,Int.ofNat_eq_natCast]
 case hKb =>
  intro W l o o' hl _ _ _ k h1 h2
  exact World.putObj_heap_other (by omega)
 case own =>
  intro pre A B row ⟨h1,h2,h3,h4⟩ hg hrow
  have hb:∀ k,k<W1.heap.size+3→B.heap[k]? =A.heap[k]? :=fun k hk=>hg.block k (by omega) (fun e=>by have:=(hrow k e.symm).1;omega)
  refine ⟨(hb _ (by omega)).trans h1,fun k hk hne=>(hb k hk).trans (h2 k hk hne),Nat.le_trans h3 hg.size,h4.grown hg h4.size (fun k e=>by have:=(hrow k e).1;omega)⟩
 case assign =>
  intro l x W K hK
  unfold encN
  gi_wp2
  exact hK
 case body =>
  rintro l pre x W ⟨hr,hA,hn,hB⟩ hpre
  rw [List.length_map] at hpre
  have hpos:0<af.length:=by
   have:=hord _ (List.getElem_mem (show 0<ord.length by omega))
   omega
  obtain ⟨⟨xi,num⟩,hx⟩:=x
  have hnum:num<af.length:=by
   rcases hx with h|h
   ·exact h
   ·omega
  rcases hsteps with ⟨h0,_⟩|⟨b,o,c,e,hb,hst⟩
  ·rw [h0] at hpos
   cases hpos
  cases e
  obtain ⟨av,hav,hnav⟩:=hst num hnum
  obtain ⟨ls,hls⟩:∃ ls,af[num]?.getD []=ls:=⟨_,rfl⟩
  rw [hls] at hnav
  have hlm:ls ∈ af:=by
   rw [← hls,List.getElem?_eq_getElem hnum]
   exact List.getElem_mem _
  obtain ⟨hl1,hl2⟩:=haf _ hlm
  obtain ⟨hs0,hhs0⟩:∃ hs0,hsOf af pre=hs0:=⟨_,rfl⟩
  have hlen0:hs0.length=af.length:=by rw [← hhs0,hsOf_len]
  rw [hhs0] at hr
  have c1:W.cell? ⟨w.heap.size,2,none⟩=some (.slice (some ⟨b,o,none⟩) af.length sc):=(hA.cell (p:=⟨w.heap.size,2,none⟩) (by show w.heap.size<_;omega) (by show w.heap.size≠_;omega)).trans hp3
  have c2:W.cell? ⟨b,o+num * 5+3,none⟩=some av:=(hB.cell (p:=⟨b,o+num * 5+3,none⟩) (hb hpos)).trans hav
  obtain ⟨aa,ac,rfl⟩:=hnav.slice
  have hnumi:(num:Int)<(af.length:Int):=by omega
  have hnum0:(0:Int)≤(num:Int):=by omega
  have hgoal:Hid (hsOf af (pre++[⟨(xi,num),hx⟩])=bumps num ls hs0):=by
   show _=_
   rw [hsOf_snoc,hhs0,hls]
  clear hav hpre hls hlm hhs0 hI3 hst hov g1 b2 hq2 hq3 f1 f2 f3 f4 f5
  gi_wp2
  gi_loopw [34] (fun i wr=>∃ (k:Nat) (hs:List Int),k≤ls.length∧i= .int .i64 k∧hs=bumps num (ls.take k) hs0∧wr.heap[W1.heap.size]? =some (.cells (rowA hs) 3)∧Apart W1.heap.size (W1.heap.size+3) W3 wr∧W1.heap.size+3≤wr.heap.size∧Below w.heap.size w wr∧KeepsFrom W3.heap.size W wr∧Apart W1.heap.size (W1.heap.size+3) W wr)
   (fun i _=>ls.length - (intOf i).toNat)
  case atStart=>exact ⟨0,hs0,Nat.zero_le _,rfl,rfl,hr,hA,hn,hB,KeepsFrom.refl _ _,Apart.refl _ _ _⟩
  case round =>
   obtain ⟨k,hs,hk,rfl,hhs,hr',hA',hn',hB',hK',hAW⟩:=hrel
   have hlen1:hs.length=af.length:=by rw [hhs,bumps_len,hlen0]
   by_cases hlt:k<ls.length
   ·obtain ⟨q,hq⟩:∃ q,ls[k]?.getD 0=q:=⟨_,rfl⟩
    have hqm:q ∈ ls:=by
     rw [← hq,List.getElem?_eq_getElem hlt]
     exact List.getElem_mem _
    have hqn:=hl2 _ hqm
    rcases hnav with ⟨e0,_⟩|⟨ab,ao,ac',e1,hab,hcs⟩
    ·rw [e0] at hlt
     cases hlt
    cases e1
    have c3:wr.cell? ⟨ab,ao+k,none⟩=some (.int .i64 (q:Int)):=by
     rw [hB'.cell (p:=⟨ab,ao+k,none⟩) (hab (by omega)),hcs k hlt,hq]
    have c5:wr.cell? ⟨W1.heap.size+1,0,none⟩=some (.slice (some ⟨W1.heap.size,0,none⟩) af.length af.length):=(hA'.cell (p:=⟨W1.heap.size+1,0,none⟩) (by show W1.heap.size+1<_;omega) (by show W1.heap.size+1≠_;omega)).trans b1.cell
    have hrow:∀ j,j<af.length→wr.cell? ⟨W1.heap.size,j,none⟩=some (.int .i64 (hs[j]?.getD 0)):=by
     intro j hj
     unfold World.cell?
     rw [hr']
     simp [rowA,hj,hlen1]
    have r1:=hrow q hqn
    have r2:=hrow num hnum
    have hfz:wr.frozen? ⟨W1.heap.size,q,none⟩=false:=frozen_of_row wr _ _ _ _ hr'
    obtain ⟨y1,hy1⟩:∃ y1,hs[q]?.getD 0=y1:=⟨_,rfl⟩
    obtain ⟨y2,hy2⟩:∃ y2,hs[num]?.getD 0=y2:=⟨_,rfl⟩
    rw [hy1] at r1
    rw [hy2] at r2
    have hq0:(0:Int)≤(q:Int):=by omega
    have hqi:(q:Int)<(af.length:Int):=by omega
    have hHs:Hid (bump num hs q=hs.set q (mx y1 (IntKind.i64.wrap (y2+1)))):=by
     show _=_
     rw [bump,hy1,hy2]
    have hHq:Hid (ls.take (k+1)=ls.take k++[q]):=by
     show _=_
     rw [List.take_add_one,List.getElem?_eq_getElem hlt]
     rw [List.getElem?_eq_getElem hlt] at hq
     simp only [Option.getD_some] at hq
     rw [hq]
     rfl
    clear hy1 hy2 hrow hq hqm hcs
    gi_wp2
    refine wpIn_region_any (by kernel_rfl) (Go.Abs.reads_any (m:=13) (nt:=53) (by kernel_rfl) (fun i=>match i with
     |0=> .slice (some ⟨W1.heap.size,0,none⟩) af.length af.length|1=> .int .i64 (q:Int)|2=> .slice (some ⟨W1.heap.size,0,none⟩) af.length af.length|3=> .int .i64 (q:Int)|4=> .pointer (some ⟨W1.heap.size,q,none⟩)|5=> .int .i64 y1
     |6=> .slice (some ⟨W1.heap.size,0,none⟩) af.length af.length|7=> .int .i64 (num:Int)|8=> .pointer (some ⟨W1.heap.size,num,none⟩)|9=> .int .i64 y2|10=> .int .i64 (IntKind.i64.wrap (y2+1))|11=> .int .i64 (mx y1 (IntKind.i64.wrap (y2+1)))|12=> .pointer (some ⟨W1.heap.size,q,none⟩)|_=>undef) _ _ _ rfl ?hread ?hlast)
    case hread =>
     intro i hi oo ho a hA K hK
     have c5' :wr.drew.cell? ⟨W1.heap.size+1,0,none⟩=some (.slice (some ⟨W1.heap.size,0,none⟩) af.length af.length):=c5
     have r1' :wr.drew.cell? ⟨W1.heap.size,q,none⟩=some (.int .i64 y1):=r1
     have r2' :wr.drew.cell? ⟨W1.heap.size,num,none⟩=some (.int .i64 y2):=r2
     match i,hi with
     |0,_ =>
      cases ho
      have b5' :=hA.base_at (t:=5) (by kernel_rfl)
      refine wpIn_val rfl (by simp) ?_ hK
      simp only [List.getElem_toArray,List.getElem_cons_zero,List.getElem_cons_succ,execOp,b5']
      simp [go_sem,c5',r1',r2',hq0,hqi,hnum0,hnumi,Act.eval]
     |1,_ =>
      cases ho
      have b9' :=hA.base_at (t:=9) (by kernel_rfl)
      refine wpIn_val rfl (by simp) ?_ hK
      simp only [List.getElem_toArray,List.getElem_cons_zero,List.getElem_cons_succ,execOp,b9']
      simp [go_sem,c5',r1',r2',hq0,hqi,hnum0,hnumi,Act.eval]
     |2,_ =>
      cases ho
      have b5' :=hA.base_at (t:=5) (by kernel_rfl)
      refine wpIn_val rfl (by simp) ?_ hK
      simp only [List.getElem_toArray,List.getElem_cons_zero,List.getElem_cons_succ,execOp,b5']
      simp [go_sem,c5',r1',r2',hq0,hqi,hnum0,hnumi,Act.eval]
     |3,_ =>
      cases ho
      have b9' :=hA.base_at (t:=9) (by kernel_rfl)
      refine wpIn_val rfl (by simp) ?_ hK
      simp only [List.getElem_toArray,List.getElem_cons_zero,List.getElem_cons_succ,execOp,b9']
      simp [go_sem,c5',r1',r2',hq0,hqi,hnum0,hnumi,Act.eval]
     |4,_ =>
      cases ho
      have d2:=hA.got_at (t:=40) 2 (by omega) (List.mem_of_elem_eq_true (by kernel_rfl)) rfl
      have d3:=hA.got_at (t:=41) 3 (by omega) (List.mem_of_elem_eq_true (by kernel_rfl)) rfl
      refine wpIn_val rfl (by simp) ?_ hK
      simp only [List.getElem_toArray,List.getElem_cons_zero,List.getElem_cons_succ,execOp,d2,d3]
      simp [go_sem,c5',r1',r2',hq0,hqi,hnum0,hnumi,Act.eval]
     |5,_ =>
      cases ho
      have d4:=hA.got_at (t:=42) 4 (by omega) (List.mem_of_elem_eq_true (by kernel_rfl)) rfl
      refine wpIn_val rfl (by simp) ?_ hK
      simp only [List.getElem_toArray,List.getElem_cons_zero,List.getElem_cons_succ,execOp,d4]
      simp [go_sem,c5',r1',r2',hq0,hqi,hnum0,hnumi,Act.eval]
     |6,_ =>
      cases ho
      have b5' :=hA.base_at (t:=5) (by kernel_rfl)
      refine wpIn_val rfl (by simp) ?_ hK
      simp only [List.getElem_toArray,List.getElem_cons_zero,List.getElem_cons_succ,execOp,b5']
      simp [go_sem,c5',r1',r2',hq0,hqi,hnum0,hnumi,Act.eval]
     |7,_ =>
      cases ho
      have b7' :=hA.base_at (t:=7) (by kernel_rfl)
      refine wpIn_val rfl (by simp) ?_ hK
      simp only [List.getElem_toArray,List.getElem_cons_zero,List.getElem_cons_succ,execOp,b7']
      simp [go_sem,c5',r1',r2',hq0,hqi,hnum0,hnumi,Act.eval]
     |8,_ =>
      cases ho
      have d6:=hA.got_at (t:=44) 6 (by omega) (List.mem_of_elem_eq_true (by kernel_rfl)) rfl
      have d7:=hA.got_at (t:=45) 7 (by omega) (List.mem_of_elem_eq_true (by kernel_rfl)) rfl
      refine wpIn_val rfl (by simp) ?_ hK
      simp only [List.getElem_toArray,List.getElem_cons_zero,List.getElem_cons_succ,execOp,d6,d7]
      simp [go_sem,c5',r1',r2',hq0,hqi,hnum0,hnumi,Act.eval]
     |9,_ =>
      cases ho
      have d8:=hA.got_at (t:=46) 8 (by omega) (List.mem_of_elem_eq_true (by kernel_rfl)) rfl
      refine wpIn_val rfl (by simp) ?_ hK
      simp only [List.getElem_toArray,List.getElem_cons_zero,List.getElem_cons_succ,execOp,d8]
      simp [go_sem,c5',r1',r2',hq0,hqi,hnum0,hnumi,Act.eval]
     |10,_ =>
      cases ho
      have d9:=hA.got_at (t:=47) 9 (by omega) (List.mem_of_elem_eq_true (by kernel_rfl)) rfl
      refine wpIn_val rfl (by simp) ?_ hK
      simp only [List.getElem_toArray,List.getElem_cons_zero,List.getElem_cons_succ,execOp,d9]
      simp [go_sem,c5',r1',r2',hq0,hqi,hnum0,hnumi,Act.eval]
     |11,_ =>
      cases ho
      have d5:=hA.got_at (t:=43) 5 (by omega) (List.mem_of_elem_eq_true (by kernel_rfl)) rfl
      have d10:=hA.got_at (t:=48) 10 (by omega) (List.mem_of_elem_eq_true (by kernel_rfl)) rfl
      have d5' :a.tmps[43]?.getD undef= .int .i64 y1:=by simpa [Act.eval] using d5
      have d10' :a.tmps[48]?.getD undef= .int .i64 (IntKind.i64.wrap (y2+1)):=by simpa [Act.eval] using d10
      refine wpIn_val rfl (by simp) ?_ hK
      simp only [List.getElem_toArray,List.getElem_cons_zero,List.getElem_cons_succ,execOp,d5,d10]
      simp [go_sem,Act.eval,d5',d10',Builtin.max_,Builtin.max2,mx]
      trace_state
     |12,_ =>
      cases ho
      have d0:=hA.got_at (t:=38) 0 (by omega) (List.mem_of_elem_eq_true (by kernel_rfl)) rfl
      have d1:=hA.got_at (t:=39) 1 (by omega) (List.mem_of_elem_eq_true (by kernel_rfl)) rfl
      refine wpIn_val rfl (by simp) ?_ hK
      simp only [List.getElem_toArray,List.getElem_cons_zero,List.getElem_cons_succ,execOp,d0,d1]
      simp [go_sem,c5',r1',r2',hq0,hqi,hnum0,hnumi,Act.eval]
    case hlast =>
     intro oo ho
     cases ho
     have r1' :wr.drew.cell? ⟨W1.heap.size,q,none⟩=some (.int .i64 y1):=r1
     have hfz' :wr.drew.frozen? ⟨W1.heap.size,q,none⟩=false:=hfz
     simp only [List.getElem_toArray,List.getElem_cons_zero,List.getElem_cons_succ,Go.Abs.putsA,List.getElem?_toArray,List.getElem?_cons_zero,List.getElem?_cons_succ,Option.bind_some,Act.put,List.setIfInBounds_toArray,List.set_cons_succ,List.set_cons_zero]
     refine wpIn_skp (w' :=wr.drew.setCell ⟨W1.heap.size,q,none⟩ (.int .i64 (mx y1 (IntKind.i64.wrap (y2+1))))) rfl (by simp) ?_ ?_
     ·simp only [execOp]
      simp [go_sem,Act.eval,r1',hfz']
     ·obtain ⟨wd,hwd⟩:∃ wd,wr.drew=wd:=⟨_,rfl⟩
      have hr2:wd.heap[W1.heap.size]? =some (.cells (rowA hs) 3):=by rw [← hwd];exact hr'
      have hAd:Apart W1.heap.size (W1.heap.size+3) W3 wd:=by rw [← hwd];exact hA'
      have hnd:W1.heap.size+3≤wd.heap.size:=by rw [← hwd];exact hn'
      have hBd:Below w.heap.size w wd:=by rw [← hwd];exact hB'.drew
      have hKd:KeepsFrom W3.heap.size W wd:=by rw [← hwd];exact ⟨hK'.size,hK'.same⟩
      have hAWd:Apart W1.heap.size (W1.heap.size+3) W wd:=by rw [← hwd];exact hAW
      rw [hwd]
      clear hwd hr' hA' hn' hB' hK' hAW c3 c5 r1 r2 hfz r1' hfz'
      simp only [Act.put]
      gi_wp2
      have hAp:∀ X:World,Apart W1.heap.size (W1.heap.size+3) X wd→Apart W1.heap.size (W1.heap.size+3) X (wd.setCell ⟨W1.heap.size,q,none⟩ (.int .i64 (mx y1 (wrap64 (y2+1))))):=fun X h j h1 h2=>(Below.heap_setCell wd _ _ j h2).trans (h j h1 h2)
      have hHs' :bump num hs q=hs.set q (mx y1 (wrap64 (y2+1))):=by
       have:=hHs.out
       rw [wrap64_eq] at this
       exact this
      refine ⟨⟨k+1,bump num hs q,by omega,by simp,by rw [hHq.out,bumps_snoc,← hhs],?_,hAp _ hAd,by simp [World.setCell];omega,hBd.setCell (p:=⟨W1.heap.size,q,none⟩) (by show w.heap.size≤W1.heap.size;omega) _,hKd.trans ((KeepsOthers.setCell _ _ _).from _),hAp _ hAWd⟩,by simp [intOf];omega⟩
      rw [heap_setCell_same wd _ _ _ _ _ hr2,rowA_set,hHs']
   ·obtain rfl:k=ls.length:=by omega
    gi_wp2
    refine ⟨hK',hAW,?_,hA',hn',hB'⟩
    rw [hgoal.out,hr',hhs,List.take_length]
 case done =>
  rintro D ys W hD rfl ⟨hr,hA,hn,hB⟩ hK
  have c2:W.cell? ⟨w.heap.size+1,0,none⟩=some (.slice none 0 0):=(hA.cell (p:=⟨w.heap.size+1,0,none⟩) (by show w.heap.size+1<_;omega) (by show w.heap.size+1≠_;omega)).trans hq2.1
  have c3:W.cell? ⟨w.heap.size+1+1,0,none⟩=some (.int .i64 0):=(hA.cell (p:=⟨w.heap.size+1+1,0,none⟩) (by show w.heap.size+1+1<_;omega) (by show w.heap.size+1+1≠_;omega)).trans hq3
  have c5:W.cell? ⟨W1.heap.size+1,0,none⟩=some (.slice (some ⟨W1.heap.size,0,none⟩) af.length af.length):=(hA.cell (p:=⟨W1.heap.size+1,0,none⟩) (by show W1.heap.size+1<_;omega) (by show W1.heap.size+1≠_;omega)).trans b1.cell
  have z2:W.frozen? ⟨w.heap.size+1,0,none⟩=false:=(World.frozen?_of_block (hA _ (by show w.heap.size+1<_;omega) (by show w.heap.size+1≠_;omega))).trans hq2.2
  have z3:W.frozen? ⟨w.heap.size+1+1,0,none⟩=false:=(World.frozen?_of_block (hA _ (by show w.heap.size+1+1<_;omega) (by show w.heap.size+1+1≠_;omega))).trans hq4
  clear hsteps
  gi_wp2
  rw [setCell_self (W.setCell ⟨w.heap.size+1,0,none⟩ _) (b:=w.heap.size+1+1) (o:=0) (by
   rw [World.cell?_of_block (w:=W) (Below.heap_setCell W _ _ _ (by show w.heap.size+1+1≠w.heap.size+1;omega))]
   exact c3)]
  have hK' :=(Below.heap_setCell W ⟨w.heap.size+1,0,none⟩ (.slice (some ⟨W1.heap.size,0,none⟩) af.length af.length) D (by show D≠w.heap.size+1;omega)).trans hK
  refine ⟨by simp,.inl ⟨_,_,rfl,run_takeDeferred hK',?_⟩⟩
  refine ⟨by simp,.inr ⟨by simp,_,_,20,#[.pointer (some ⟨w.heap.size+1,0,none⟩),.pointer (some ⟨w.heap.size+1+1,0,none⟩)],rfl,by simp [go_sem],fun _ _=>trivial,(idle20 _ _ _ rfl).mono ?_⟩⟩
  rintro e u' w' ⟨rfl,rfl,rfl⟩
  have hD2:∀ k,k≠w.heap.size+1→k≠D→(((W.setCell ⟨w.heap.size+1,0,none⟩ (.slice (some ⟨W1.heap.size,0,none⟩) af.length af.length)).putObj D (.deferred none))).heap[k]? =W.heap[k]? :=fun k h1 h2=>(World.putObj_heap_other h2).trans (Below.heap_setCell W _ _ k h1)
  have hDne:w.heap.size+1≠D:=by omega
  have e2:(((W.setCell ⟨w.heap.size+1,0,none⟩ (.slice (some ⟨W1.heap.size,0,none⟩) af.length af.length)).putObj D (.deferred none))).cell? ⟨w.heap.size+1,0,none⟩=some (.slice (some ⟨W1.heap.size,0,none⟩) af.length af.length):=by
   rw [World.cell?_of_block (w:=W.setCell ⟨w.heap.size+1,0,none⟩ (.slice (some ⟨W1.heap.size,0,none⟩) af.length af.length)) (World.putObj_heap_other hDne)]
   exact World.cell?_setCell_same' _ _ _ (by rw [c2];rfl)
  have e3:(((W.setCell ⟨w.heap.size+1,0,none⟩ (.slice (some ⟨W1.heap.size,0,none⟩) af.length af.length)).putObj D (.deferred none))).cell? ⟨w.heap.size+1+1,0,none⟩=some (.int .i64 0):=by
   rw [World.cell?_of_block (w:=W) (hD2 _ (by show w.heap.size+1+1≠w.heap.size+1;omega) (by show w.heap.size+1+1≠D;omega))]
   exact c3
  have hBf:Below w.heap.size w ((W.setCell ⟨w.heap.size+1,0,none⟩ (.slice (some ⟨W1.heap.size,0,none⟩) af.length af.length)).putObj D (.deferred none)):=(hB.setCell (p:=⟨w.heap.size+1,0,none⟩) (by show w.heap.size≤w.heap.size+1;omega) _).grown (grownBy_putObj' _ D _) (by simp [World.setCell];have:=hB.size;omega) (fun k e=>by cases e;omega)
  have hrf:=(hD2 W1.heap.size (by omega) (by omega)).trans hr
  refine ⟨.tuple #[.slice (some ⟨W1.heap.size,0,none⟩) af.length af.length,.int .i64 0],?_,W1.heap.size,rfl,by omega,?_,hBf⟩
  ·simp [results,Tryz.results8,go_sem,e2,e3]
  ·rw [List.length_map] at hrf
   exact hrf
 case stop =>
  rintro D c pre W _ _ h _
  exact h.elim
set_option maxRecDepth 100000 in
set_option maxHeartbeats 4000000 in
theorem heights_err (w:World)(vs ss sv:Value)(err:Int)(herr:err≠0)
  (horder:∀ W,Below w.heap.size w W→Calls Tryz.prog 10 #[.agg #[vs,ss,sv]] W fun e W' =>∃ ov,e= .returned (.tuple #[ov,.int .i64 err])∧Below W.heap.size W W') :
  Calls Tryz.prog 8 #[.agg #[vs,ss,sv]] w fun e w' =>e= .returned (.tuple #[.slice none 0 0,.int .i64 err])∧Below w.heap.size w w' :=by
 refine (callsIn_wide (n:=68)).1 ?_
 refine callsIn_of_wp_marks Tryz.func8 rfl trivial ?_ rfl
 simp only [Tryz.ntmps8,List.size_toArray,List.length_cons,List.length_nil,Nat.reduceAdd,Nat.reduceSub,Array.replicate_succ,Array.replicate_zero,List.push_toArray,List.append_toArray,List.nil_append,List.cons_append]
 have hB0:Below w.heap.size w (((w.alloc (.cells #[vs,ss,sv] 26)).alloc (.cells #[.slice none 0 0] 29)).alloc (.cells #[.int .i64 0] 30)):=(((Below.refl _ w).alloc (Nat.le_refl _) _).alloc (by simp) _).alloc (by simp;omega) _
 have hc:=horder _ hB0
 gi_wp2_with (first
  |(refine ⟨trivial,?_⟩;gi_at_call 10;refine ((callsIn_wide).2 hc).mono ?_;rintro e W1 ⟨ov,rfl,hB1⟩;obtain ⟨f1,⟨f2,f3⟩,⟨f4,f5⟩,hB2,hs1⟩:=after_order w vs ss sv W1 hB1;clear hB1 hc)
  |gi_in)
 gi_region
 gi_wp2
 refine ⟨by simp,.inr ⟨by simp,_,_,20,#[.pointer (some ⟨w.heap.size+1,0,none⟩),.pointer (some ⟨w.heap.size+1+1,0,none⟩)],rfl,by simp [go_sem],fun _ _=>trivial,(idle20 _ _ _ rfl).mono ?_⟩⟩
 rintro e u' w' ⟨rfl,rfl,rfl⟩
 have c2:(W1.setCell ⟨w.heap.size+1+1,0,none⟩ (.int .i64 err)).cell? ⟨w.heap.size+1,0,none⟩=some (.slice none 0 0):=by
  rw [World.cell?_of_block (w:=W1) (Below.heap_setCell W1 _ _ _ (by show w.heap.size+1≠w.heap.size+1+1;omega))]
  exact f2
 have d3:((W1.setCell ⟨w.heap.size+1+1,0,none⟩ (.int .i64 err)).setCell ⟨w.heap.size+1,0,none⟩ (.slice none 0 0)).cell? ⟨w.heap.size+1+1,0,none⟩=some (.int .i64 err):=by
  rw [World.cell?_of_block (w:=W1.setCell ⟨w.heap.size+1+1,0,none⟩ (.int .i64 err)) (Below.heap_setCell _ _ _ _ (by show w.heap.size+1+1≠w.heap.size+1;omega))]
  exact World.cell?_setCell_same' _ _ _ (by rw [f4];rfl)
 rw [setCell_self _ d3]
 have e2:((W1.setCell ⟨w.heap.size+1+1,0,none⟩ (.int .i64 err)).setCell ⟨w.heap.size+1,0,none⟩ (.slice none 0 0)).drew.cell? ⟨w.heap.size+1,0,none⟩=some (.slice none 0 0):=World.cell?_setCell_same' _ _ _ (by rw [c2];rfl)
 have e3:((W1.setCell ⟨w.heap.size+1+1,0,none⟩ (.int .i64 err)).setCell ⟨w.heap.size+1,0,none⟩ (.slice none 0 0)).drew.cell? ⟨w.heap.size+1+1,0,none⟩=some (.int .i64 err):=d3
 refine ⟨.tuple #[.slice none 0 0,.int .i64 err],?_,rfl,?_⟩
 ·simp [results,Tryz.results8,go_sem,e2,e3]
 ·exact ((hB2.setCell (p:=⟨w.heap.size+1+1,0,none⟩) (by show w.heap.size≤w.heap.size+1+1;omega) _).setCell (p:=⟨w.heap.size+1,0,none⟩) (by show w.heap.size≤w.heap.size+1;omega) _).drew
end Go.Proofs.YtjnkccpijofgiaaGreat
namespace Go.Proofs.YtjnkccpijofgiaaGreat
open Go.RowKit Go.Lib
theorem infoC40:(Tryz.prog.info? 74).map (fun i=>(i.zero,i.size,i.bytes))=some (some (.agg #[.int .i64 0,.int .i64 0,.int .i64 0]),3,24):=by kernel_rfl
set_option maxRecDepth 100000 in
set_option maxHeartbeats 2000000 in
theorem clone40 (ad:Addr)(n c:Nat)(news:List Value)(w:World)(hl:news.length=n * 3)(hn:n≤1000000)(hc:∀ (j:Nat) (u:Value),news[j]? =some u→w.cell? (ad.add j)=some u)(h1:∀ u ∈ news,u.oneCell' =true) :
  Calls Tryz.prog 40 #[.slice (some ad) n c] w fun e w' =>∃ v',e= .returned v' ∧w'.ownsRow w.heap.size 74 3 v' n news∧Below w.heap.size w w' :=by
 obtain ⟨i0,hi,hz0,hz1,hz2⟩:=info_parts infoC40
 have q:∀ (w:World) (a:Option Addr) (n c n' c' :Nat),(binOp .eql 22 (.slice a n c) (.slice none n' c')).run Tryz.prog w= .ok (.bool a.isNone) w:=fun w a n c n' c' =>Lib.run_eql_slice_nil w _ _ a n c n' c' Tryz.underlying22
 refine (callsIn_wide (n:=68)).1 ?_
 refine callsIn_of_wp Tryz.func40 rfl trivial ?_ rfl
 simp only [Tryz.ntmps40,List.size_toArray,List.length_cons,List.length_nil,Nat.reduceAdd,Nat.reduceSub,Array.replicate_succ,Array.replicate_zero,List.push_toArray,List.append_toArray,List.nil_append,List.cons_append]
 gi_wp2_with (gi_at_builtin;refine wpListIn_append_own _ rfl _ _ 22 rfl w.heap.size 74 i0 (.agg #[.int .i64 0,.int .i64 0,.int .i64 0]) 3 24 Tryz.underlying22 hi hz0 hz1 hz2 rfl (by decide) _ _ _ rfl (World.ownsRow_made w #[] 0 (Nat.le_refl _) (Nat.zero_le _) rfl) ad n c news rfl hl ?qc2 h1 ?qc4 ?qc5 ?qc6 ?_)
 case qc2 =>
  intro j u hj
  exact Lib.cell?_alloc_some _ (hc j u hj)
 case qc4=>unfold maxLen;omega
 case qc5=>omega
 case qc6=>simp
 intro v' w1 hown hgrow hnil
 gi_wp2
 exact ⟨rfl,_,results_tmp rfl _ _ _,v',rfl,by simpa using hown,((Below.refl _ w).alloc (Nat.le_refl _) _).grown hgrow (by simp) (by intro k hk;simp [Value.ownBlock] at hk;omega)⟩
set_option maxRecDepth 100000 in
set_option maxHeartbeats 2000000 in
theorem clone40_nil (n c:Nat)(w:World):Calls Tryz.prog 40 #[.slice none n c] w fun e w' =>e= .returned (.slice none 0 0)∧w' =w:=by
 have q:∀ (w:World) (a:Option Addr) (n c n' c' :Nat),(binOp .eql 22 (.slice a n c) (.slice none n' c')).run Tryz.prog w= .ok (.bool a.isNone) w:=fun w a n c n' c' =>Lib.run_eql_slice_nil w _ _ a n c n' c' Tryz.underlying22
 refine (callsIn_wide (n:=68)).1 ?_
 refine callsIn_of_wp Tryz.func40 rfl trivial ?_ rfl
 simp only [Tryz.ntmps40,List.size_toArray,List.length_cons,List.length_nil,Nat.reduceAdd,Nat.reduceSub,Array.replicate_succ,Array.replicate_zero,List.push_toArray,List.append_toArray,List.nil_append,List.cons_append]
 gi_wp2
 exact ⟨rfl,_,results_tmp rfl _ _ _,rfl,rfl⟩
theorem infoC41:(Tryz.prog.info? 87).map (fun i=>(i.zero,i.size,i.bytes))=some (some (.agg #[.int .i64 0,.int .i64 0]),2,16):=by kernel_rfl
set_option maxRecDepth 100000 in
set_option maxHeartbeats 2000000 in
theorem clone41 (ad:Addr)(n c:Nat)(news:List Value)(w:World)(hl:news.length=n * 2)(hn:n≤1000000)(hc:∀ (j:Nat) (u:Value),news[j]? =some u→w.cell? (ad.add j)=some u)(h1:∀ u ∈ news,u.oneCell' =true) :
  Calls Tryz.prog 41 #[.slice (some ad) n c] w fun e w' =>∃ v',e= .returned v' ∧w'.ownsRow w.heap.size 87 2 v' n news∧Below w.heap.size w w' :=by
 obtain ⟨i0,hi,hz0,hz1,hz2⟩:=info_parts infoC41
 have q:∀ (w:World) (a:Option Addr) (n c n' c' :Nat),(binOp .eql 23 (.slice a n c) (.slice none n' c')).run Tryz.prog w= .ok (.bool a.isNone) w:=fun w a n c n' c' =>Lib.run_eql_slice_nil w _ _ a n c n' c' Tryz.underlying23
 refine (callsIn_wide (n:=68)).1 ?_
 refine callsIn_of_wp Tryz.func41 rfl trivial ?_ rfl
 simp only [Tryz.ntmps41,List.size_toArray,List.length_cons,List.length_nil,Nat.reduceAdd,Nat.reduceSub,Array.replicate_succ,Array.replicate_zero,List.push_toArray,List.append_toArray,List.nil_append,List.cons_append]
 gi_wp2_with (gi_at_builtin;refine wpListIn_append_own _ rfl _ _ 23 rfl w.heap.size 87 i0 (.agg #[.int .i64 0,.int .i64 0]) 2 16 Tryz.underlying23 hi hz0 hz1 hz2 rfl (by decide) _ _ _ rfl (World.ownsRow_made w #[] 0 (Nat.le_refl _) (Nat.zero_le _) rfl) ad n c news rfl hl ?qc2 h1 ?qc4 ?qc5 ?qc6 ?_)
 case qc2 =>
  intro j u hj
  exact Lib.cell?_alloc_some _ (hc j u hj)
 case qc4=>unfold maxLen;omega
 case qc5=>omega
 case qc6=>simp
 intro v' w1 hown hgrow hnil
 gi_wp2
 exact ⟨rfl,_,results_tmp rfl _ _ _,v',rfl,by simpa using hown,((Below.refl _ w).alloc (Nat.le_refl _) _).grown hgrow (by simp) (by intro k hk;simp [Value.ownBlock] at hk;omega)⟩
set_option maxRecDepth 100000 in
set_option maxHeartbeats 2000000 in
theorem clone41_nil (n c:Nat)(w:World):Calls Tryz.prog 41 #[.slice none n c] w fun e w' =>e= .returned (.slice none 0 0)∧w' =w:=by
 have q:∀ (w:World) (a:Option Addr) (n c n' c' :Nat),(binOp .eql 23 (.slice a n c) (.slice none n' c')).run Tryz.prog w= .ok (.bool a.isNone) w:=fun w a n c n' c' =>Lib.run_eql_slice_nil w _ _ a n c n' c' Tryz.underlying23
 refine (callsIn_wide (n:=68)).1 ?_
 refine callsIn_of_wp Tryz.func41 rfl trivial ?_ rfl
 simp only [Tryz.ntmps41,List.size_toArray,List.length_cons,List.length_nil,Nat.reduceAdd,Nat.reduceSub,Array.replicate_succ,Array.replicate_zero,List.push_toArray,List.append_toArray,List.nil_append,List.cons_append]
 gi_wp2
 exact ⟨rfl,_,results_tmp rfl _ _ _,rfl,rfl⟩
theorem infoC100:(Tryz.prog.info? 3).map (fun i=>(i.zero,i.size,i.bytes))=some (some (.int .i64 0),1,8):=by kernel_rfl
set_option maxRecDepth 100000 in
set_option maxHeartbeats 2000000 in
theorem clone100 (ad:Addr)(n c:Nat)(news:List Value)(w:World)(hl:news.length=n * 1)(hn:n≤1000000)(hc:∀ (j:Nat) (u:Value),news[j]? =some u→w.cell? (ad.add j)=some u)(h1:∀ u ∈ news,u.oneCell' =true) :
  Calls Tryz.prog 100 #[.slice (some ad) n c] w fun e w' =>∃ v',e= .returned v' ∧w'.ownsRow w.heap.size 3 1 v' n news∧Below w.heap.size w w' :=by
 obtain ⟨i0,hi,hz0,hz1,hz2⟩:=info_parts infoC100
 have q:∀ (w:World) (a:Option Addr) (n c n' c' :Nat),(binOp .eql 29 (.slice a n c) (.slice none n' c')).run Tryz.prog w= .ok (.bool a.isNone) w:=fun w a n c n' c' =>Lib.run_eql_slice_nil w _ _ a n c n' c' Tryz.underlying29
 refine (callsIn_wide (n:=68)).1 ?_
 refine callsIn_of_wp Tryz.func100 rfl trivial ?_ rfl
 simp only [Tryz.ntmps100,List.size_toArray,List.length_cons,List.length_nil,Nat.reduceAdd,Nat.reduceSub,Array.replicate_succ,Array.replicate_zero,List.push_toArray,List.append_toArray,List.nil_append,List.cons_append]
 gi_wp2_with (gi_at_builtin;refine wpListIn_append_own _ rfl _ _ 29 rfl w.heap.size 3 i0 (.int .i64 0) 1 8 Tryz.underlying29 hi hz0 hz1 hz2 rfl (by decide) _ _ _ rfl (World.ownsRow_made w #[] 0 (Nat.le_refl _) (Nat.zero_le _) rfl) ad n c news rfl hl ?qc2 h1 ?qc4 ?qc5 ?qc6 ?_)
 case qc2 =>
  intro j u hj
  exact Lib.cell?_alloc_some _ (hc j u hj)
 case qc4=>unfold maxLen;omega
 case qc5=>omega
 case qc6=>simp
 intro v' w1 hown hgrow hnil
 gi_wp2
 exact ⟨rfl,_,results_tmp rfl _ _ _,v',rfl,by simpa using hown,((Below.refl _ w).alloc (Nat.le_refl _) _).grown hgrow (by simp) (by intro k hk;simp [Value.ownBlock] at hk;omega)⟩
set_option maxRecDepth 100000 in
set_option maxHeartbeats 2000000 in
theorem clone100_nil (n c:Nat)(w:World):Calls Tryz.prog 100 #[.slice none n c] w fun e w' =>e= .returned (.slice none 0 0)∧w' =w:=by
 have q:∀ (w:World) (a:Option Addr) (n c n' c' :Nat),(binOp .eql 29 (.slice a n c) (.slice none n' c')).run Tryz.prog w= .ok (.bool a.isNone) w:=fun w a n c n' c' =>Lib.run_eql_slice_nil w _ _ a n c n' c' Tryz.underlying29
 refine (callsIn_wide (n:=68)).1 ?_
 refine callsIn_of_wp Tryz.func100 rfl trivial ?_ rfl
 simp only [Tryz.ntmps100,List.size_toArray,List.length_cons,List.length_nil,Nat.reduceAdd,Nat.reduceSub,Array.replicate_succ,Array.replicate_zero,List.push_toArray,List.append_toArray,List.nil_append,List.cons_append]
 gi_wp2
 exact ⟨rfl,_,results_tmp rfl _ _ _,rfl,rfl⟩
theorem infoG209:(Tryz.prog.info? 129).map (fun i=>(i.zero,i.size,i.bytes))=some (some (.agg #[.int .i64 0,.int .i64 0]),2,16):=by kernel_rfl
set_option maxRecDepth 100000 in
set_option maxHeartbeats 4000000 in
theorem grow209 (n:Nat)(w:World)(h0:0<n)(hn:n≤1000000):Calls Tryz.prog 209 #[.slice none 0 0,.int .i64 n] w fun e w' =>∃ (cap:Nat) (c:Array Value),e= .returned (.slice (some ⟨w.heap.size,0,none⟩) 0 cap)∧w' =w.drew.alloc (.cells c 129)∧c.size=cap * 2:=by
 obtain ⟨i0,hi,hz0,hz1,hz2⟩:=info_parts infoG209
 have h1:¬ ((n:Int)<0):=by omega
 have h2:wrap64 ((0:Int) - 0)=0:=by unfold wrap64;omega
 have h3:wrap64 ((n:Int) - 0)=(n:Int):=by unfold wrap64;omega
 have h4:(n:Int)>0:=by omega
 have hGn:0+n≤grownCap w (0+n) 0 129:=grownCap_ge w _ _ _
 have hrz:∀ ty,(Builtin.append_ #[102,3] ty #[.slice none 0 0,.int .i64 (n:Int)]).run Tryz.prog w =
   .ok (.slice (some ⟨w.heap.size,0,none⟩) (0+n) (grownCap w (0+n) 0 129)) (w.drew.alloc (.cells ((#[]:Array Value)++Builtin.zeroCells (.agg #[.int .i64 0,.int .i64 0]:Value).cells n++Builtin.zeroCells (.agg #[.int .i64 0,.int .i64 0]:Value).cells (grownCap w (0+n) 0 129 - (0+n))) 129)):=fun ty=>by
  have h:=Lib.run_append_grow_zeros w 102 3 ty 129 i0 (.agg #[.int .i64 0,.int .i64 0]) .i64 .i64 Tryz.underlying102 Tryz.underlying3 hi hz0 none 0 0 [] (run_firstCells_none w.drew i0.size 0 0 0) n h0 (by omega) (by omega) (by omega) (by rw [hz2];omega) (growslice_fits (by omega) (by rw [hz2];omega))
  exact h
 have hG63:grownCap w (0+n) 0 129≤9223372036854775807:=by
  have:=grownCap_le_maxLen w (0+n) 0 129 (by unfold maxLen;omega)
  unfold maxLen at this
  omega
 obtain ⟨G,hG⟩:∃ G,G=grownCap w (0+n) 0 129:=⟨_,rfl⟩
 rw [← hG] at hrz hGn hG63
 have hsz:((#[]:Array Value)++Builtin.zeroCells (.agg #[.int .i64 0,.int .i64 0]:Value).cells n++Builtin.zeroCells (.agg #[.int .i64 0,.int .i64 0]:Value).cells (G - (0+n))).size=G * 2:=by
  simp only [Array.size_append,size_zeroCells,Value.cells,List.size_toArray,List.length_cons,List.length_nil]
  omega
 obtain ⟨c0,hc0⟩:∃ c0,c0=((#[]:Array Value)++Builtin.zeroCells (.agg #[.int .i64 0,.int .i64 0]:Value).cells n++Builtin.zeroCells (.agg #[.int .i64 0,.int .i64 0]:Value).cells (G - (0+n))):=⟨_,rfl⟩
 rw [← hc0] at hrz hsz
 clear hG hc0 hi hz0 hz1 hz2
 go_enter Tryz.func209,Tryz.ntmps209
 go_wp2_with (at_builtin;refine Lib.wpList_append_run _ rfl _ _ _ _ rfl _ _ rfl rfl _ _ (hrz _) ?_)
 all_goals (go_ret;exact ⟨G,rfl,c0,rfl,by first|exact hsz|omega⟩)
theorem infoG215:(Tryz.prog.info? 3).map (fun i=>(i.zero,i.size,i.bytes))=some (some (.int .i64 0),1,8):=by kernel_rfl
set_option maxRecDepth 100000 in
set_option maxHeartbeats 4000000 in
theorem grow215 (n:Nat)(w:World)(h0:0<n)(hn:n≤1000000):Calls Tryz.prog 215 #[.slice none 0 0,.int .i64 n] w fun e w' =>∃ (cap:Nat) (c:Array Value),e= .returned (.slice (some ⟨w.heap.size,0,none⟩) 0 cap)∧w' =w.drew.alloc (.cells c 3)∧c.size=cap * 1:=by
 obtain ⟨i0,hi,hz0,hz1,hz2⟩:=info_parts infoG215
 have h1:¬ ((n:Int)<0):=by omega
 have h2:wrap64 ((0:Int) - 0)=0:=by unfold wrap64;omega
 have h3:wrap64 ((n:Int) - 0)=(n:Int):=by unfold wrap64;omega
 have h4:(n:Int)>0:=by omega
 have hGn:0+n≤grownCap w (0+n) 0 3:=grownCap_ge w _ _ _
 have hrz:∀ ty,(Builtin.append_ #[29,3] ty #[.slice none 0 0,.int .i64 (n:Int)]).run Tryz.prog w =
   .ok (.slice (some ⟨w.heap.size,0,none⟩) (0+n) (grownCap w (0+n) 0 3)) (w.drew.alloc (.cells ((#[]:Array Value)++Builtin.zeroCells (.int .i64 0:Value).cells n++Builtin.zeroCells (.int .i64 0:Value).cells (grownCap w (0+n) 0 3 - (0+n))) 3)):=fun ty=>by
  have h:=Lib.run_append_grow_zeros w 29 3 ty 3 i0 (.int .i64 0) .i64 .i64 Tryz.underlying29 Tryz.underlying3 hi hz0 none 0 0 [] (run_firstCells_none w.drew i0.size 0 0 0) n h0 (by omega) (by omega) (by omega) (by rw [hz2];omega) (growslice_fits (by omega) (by rw [hz2];omega))
  exact h
 have hG63:grownCap w (0+n) 0 3≤9223372036854775807:=by
  have:=grownCap_le_maxLen w (0+n) 0 3 (by unfold maxLen;omega)
  unfold maxLen at this
  omega
 obtain ⟨G,hG⟩:∃ G,G=grownCap w (0+n) 0 3:=⟨_,rfl⟩
 rw [← hG] at hrz hGn hG63
 have hsz:((#[]:Array Value)++Builtin.zeroCells (.int .i64 0:Value).cells n++Builtin.zeroCells (.int .i64 0:Value).cells (G - (0+n))).size=G * 1:=by
  simp only [Array.size_append,size_zeroCells,Value.cells,List.size_toArray,List.length_cons,List.length_nil]
  omega
 obtain ⟨c0,hc0⟩:∃ c0,c0=((#[]:Array Value)++Builtin.zeroCells (.int .i64 0:Value).cells n++Builtin.zeroCells (.int .i64 0:Value).cells (G - (0+n))):=⟨_,rfl⟩
 rw [← hc0] at hrz hsz
 clear hG hc0 hi hz0 hz1 hz2
 go_enter Tryz.func215,Tryz.ntmps215
 go_wp2_with (at_builtin;refine Lib.wpList_append_run _ rfl _ _ _ _ rfl _ _ rfl rfl _ _ (hrz _) ?_)
 all_goals (go_ret;exact ⟨G,rfl,c0,rfl,by first|exact hsz|omega⟩)
end Go.Proofs.YtjnkccpijofgiaaGreat

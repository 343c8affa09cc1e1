/-
  The plain law: the state behind g declarations; names; tables.; The plain law: tables.; The plain law: indexes, sketches, caches, streams, backups, releases.; The plain law: sketches, releases, streams, backups.; The plain law: views.; The plain law: the store of a view.; Stores of a checked catalogue have columns, and not too many.
  (Put together by a small program out of several texts; blanks left out to keep the folder small.)
-/
import Derived.Test.YtkmclibmmlgogaaGreatE1
import Derived.Test.YtkmclibmmlgogaaGreatB6
set_option linter.unusedVariables false
set_option linter.unusedSimpArgs false
namespace Go.Proofs.YtkmclibmmlgogaaGreat
open Go.Abs Go.Abs.S
def stNms (c:Cat)(prev:List (List Str))(k:Nat):List Str :=
 if k<c.tabs.length then (nth c.tabs k).cols.map Col.name
 else if eqB (nth c.views (k - c.tabs.length)).kind 2 then nth prev (findC c (nth c.views (k - c.tabs.length)).left k).toNat
 else (ents (nth c.views (k - c.tabs.length))).map Ent.name
def nmsU (c:Cat):Nat→List (List Str)
 |0=>[]
 |k+1=>nmsU c k++[stNms c (nmsU c k) k]
def cnm (c:Cat)(k:Nat):List Str:=stNms c (nmsU c k) k
theorem nmsU_len (c:Cat):∀ k,(nmsU c k).length=k
 |0=>rfl
 |k+1=>by simp [nmsU,nmsU_len c k]
theorem nmsU_nth (c:Cat):∀ {k j:Nat},j<k→nth (nmsU c k) j=cnm c j
 |k+1,j,h=>by
  have hl:=nmsU_len c k
  rcases Nat.lt_or_ge j k with h1|h1
  ·rw [← nmsU_nth c h1,nmsU,nth_eq (by simp;omega),nth_eq (by omega),List.getElem_append_left (by omega)]
  ·obtain rfl:j=k:=by omega
   rw [nmsU,nth_eq (by simp [hl]),List.getElem_append_right (by omega)]
   simp [hl,cnm]
def stoAt (c:Cat)(j:Nat):Sto:=(nth (Cat.sn c) j,cnm c j,ctys c j)
def stors (c:Cat)(k:Nat):List Sto:=(List.range k).map (stoAt c)
theorem stors_len (c:Cat)(k:Nat):(stors c k).length=k:=by simp [stors]
theorem stors_nth (c:Cat){k j:Nat}(h:j<k):nth (stors c k) j=stoAt c j:=by
 rw [nth_eq (by rw [stors_len];exact h)]
 simp [stors]
theorem stors_succ (c:Cat)(k:Nat):stors c (k+1)=stors c k++[stoAt c k]:=by simp [stors,List.range_succ]
theorem stors_names (c:Cat){k:Nat}(h:k≤Cat.ns c):(stors c k).map (·.1)=(Cat.sn c).take k:=by
 apply List.ext_getElem
 ·have:=sn_len c
  simp [stors]
  omega
 ·intro i h1 h2
  have h3:i<k:=by simpa [stors] using h1
  have h4:i<(Cat.sn c).length:=by rw [sn_len];omega
  simp [stors,stoAt,nth_eq h4]
theorem stors_idx (c:Cat){k:Nat}(h:k≤Cat.ns c)(s:Str):idxS s ((stors c k).map (·.1)) 0=findC c s k:=by rw [stors_names c h];rfl
theorem names_tab (c:Cat){g:Nat}(h:g<c.tabs.length):nth c.names g=(nth c.tabs g).name:=by
 rw [nth_eq (by simp [Cat.names];omega),nth_eq h]
 simp [Cat.names,List.getElem_append,h]
theorem decl_err (c:Cat)(g:Nat)(s:Str)(h:nth c.names g=s)(e:Int)(he:errAt c g=(if !isNameB (nth c.names g) then 3 else if (c.names.take g).any fun y=>seB y (nth c.names g) then 4 else e)) :
  errAt c g=if !eqB (declE (c.names.take g) s) 0 then declE (c.names.take g) s else e:=by
 rw [he,h]
 unfold declE
 have h3:eqB 3 0=false:=by simp [eqB_eq]
 have h4:eqB 4 0=false:=by simp [eqB_eq]
 have h0:eqB 0 0=true:=by simp [eqB_eq]
 rcases Bool.eq_false_or_eq_true (isNameB s) with c1|c1
 ·rcases Bool.eq_false_or_eq_true ((c.names.take g).any fun y=>seB y s) with c2|c2
  ·simp only [c1,c2,Bool.not_true,Bool.false_eq_true,if_false,if_true,h4,Bool.not_false]
  ·simp only [c1,c2,Bool.not_true,Bool.false_eq_true,if_false,h0]
 ·simp only [c1,Bool.not_false,if_true,h3]
theorem decl_take (c:Cat)(g:Nat)(hg:g<c.names.length)(h:errAt c g=0):declD (c.names.take g) (nth c.names g)=c.names.take (g+1):=by
 have h1:=errAt_name h
 have e1:declE (c.names.take g) (nth c.names g)=0:=by unfold declE;rw [h1.1,h1.2];rfl
 unfold declD
 rw [e1,take_nth hg]
 simp [eqB_eq]
theorem sub_any (c:Cat){g:Nat}(h:g≤Cat.ns c)(s:Str)(hs:((c.names.take g).any fun y=>seB y s)=false):(((stors c g).map (·.1)).any fun y=>seB y s)=false:=by
 rw [stors_names c h]
 have h1:c.names=Cat.sn c++(c.idxs.map Idx.name++c.skts.map Skt.name++c.cchs.map Cch.name++c.rlss.map Rls.name++c.stms.map Stm.name++c.bkps.map Bkp.name):=by simp [Cat.names,Cat.sn]
 have h2:c.names.take g=(Cat.sn c).take g:=by
  rw [h1,List.take_append_of_le_length (by rw [sn_len];exact h)]
 rw [← h2]
 exact hs
end Go.Proofs.YtkmclibmmlgogaaGreat
namespace Go.Proofs.YtkmclibmmlgogaaGreat
open Go.Abs Go.Abs.S
theorem idxS_nil:∀ (l:List Str) (i:Nat),(∀ x,x ∈ l→x≠[])→idxS [] l i= -1
 |[],_,_=>rfl
 |x::l,i,h=>by
  have h1:seB x []=false:=by simp [seB_eq,h x (List.mem_cons_self)]
  simp only [idxS,h1,Bool.false_eq_true,if_false]
  exact idxS_nil l (i+1) fun y hy=>h y (List.mem_cons_of_mem _ hy)
theorem name_ne {s:Str}(h:isNameB s=true):s≠[]:=by
 rintro rfl
 simp [isNameB] at h
theorem sn_take (c:Cat){g:Nat}(h:g≤Cat.ns c):(Cat.sn c).take g=c.names.take g:=by
 have h1:c.names=Cat.sn c++(c.idxs.map Idx.name++c.skts.map Skt.name++c.cchs.map Cch.name++c.rlss.map Rls.name++c.stms.map Stm.name++c.bkps.map Bkp.name):=by simp [Cat.names,Cat.sn]
 rw [h1,List.take_append_of_le_length (by rw [sn_len];exact h)]
theorem find_nil {c:Cat}{g:Nat}(hg:g≤Cat.ns c)(hok:okTo c g):findC c [] g= -1:=by
 unfold findC
 apply idxS_nil
 intro x hx
 rw [sn_take c hg] at hx
 obtain ⟨j,hj,rfl⟩:=List.getElem_of_mem hx
 have h1:j<g:=by simp at hj;omega
 have h2:=errAt_name (hok j h1)
 have h3:j<c.names.length:=by simp at hj;omega
 rw [nth_eq h3] at h2
 have h4:=h2.1
 simp only [Bool.not_eq_false'] at h4
 simpa using name_ne h4
theorem tab_find (c:Cat){g:Nat}(h:g≤c.tabs.length)(s:Str):tabC c s g=findC c s g:=by
 unfold tabC
 rw [Nat.min_eq_left h]
theorem ctys_tab (c:Cat){k:Nat}(h:k<c.tabs.length):ctys c k=(nth c.tabs k).cols.map Col.type:=by
 unfold ctys stTys
 rw [if_pos h]
theorem nth_map {α β:Type} [Inhabited α] [Inhabited β] (f:α→β){l:List α}{i:Nat}(h:i<l.length):nth (l.map f) i=f (nth l i):=by
 rw [nth_eq (by simpa using h),nth_eq h]
 simp
theorem eqB_comm (a b:Int):eqB a b=eqB b a:=by
 simp only [eqB_eq]
 rw [Bool.eq_iff_iff]
 simp only [beq_iff_eq]
 exact eq_comm
theorem rules_eq (t:Tab)(x:Col):(!rulesB t x)=((!withinB x.joint 0 1||(eqB x.owners.length 0&&(!eqB x.joint 0|| !eqB x.duty 0)))||(!withinB x.duty 0 1048576||(!eqB t.retain 0&&ltB t.retain x.duty))):=by
 have h1:eqB x.owners.length 0= !ltB 0 x.owners.length:=by
  simp only [eqB_eq,ltB_eq]
  rw [Bool.eq_iff_iff]
  simp only [beq_iff_eq,Bool.not_eq_true',decide_eq_false_iff_not]
  omega
 have h2:withinB x.joint 0 1=(eqB x.joint 0||eqB x.joint 1):=by
  simp only [withinB,leB_eq,eqB_eq]
  rw [Bool.eq_iff_iff]
  simp only [Bool.and_eq_true,Bool.or_eq_true,decide_eq_true_eq,beq_iff_eq]
  omega
 have h3:ltB t.retain x.duty= !leB x.duty t.retain:=by
  simp only [leB_eq,ltB_eq]
  rw [Bool.eq_iff_iff]
  simp only [decide_eq_true_eq,Bool.not_eq_true',decide_eq_false_iff_not]
  omega
 unfold rulesB
 rw [h1,h2,h3]
 generalize eqB x.joint 0=a1
 generalize eqB x.joint 1=a2
 generalize ltB 0 (x.owners.length:Int)=a3
 generalize withinB x.duty 0 1048576=a4
 generalize eqB x.duty 0=a5
 generalize eqB t.retain 0=a6
 generalize leB x.duty t.retain=a7
 revert a1 a2 a3 a4 a5 a6 a7
 decide
theorem key1:∀ (A B C ow wj Z wd ret E:Bool),(if A=true then (3:Int) else if B=true then 4 else if C=true then 5 else if (ow||((wj||Z)||(wd||ret)))=true then 1 else if E=true then 1 else 0)=(if A=true then (3:Int) else if B=true then 4 else if C=true then 5 else if (ow||wj||Z)=true then 1 else if (wd||ret||E)=true then 1 else 0):=by decide
theorem key2:∀ (A B C sp ow wj Z wd ret E F:Bool),(if A=true then (3:Int) else if B=true then 4 else if C=true then 5 else if (sp||ow||((wj||Z)||(wd||ret)))=true then 1 else if E=true then 1 else if F=true then 1 else 0)=(if A=true then (3:Int) else if B=true then 4 else if C=true then 5 else if (sp||ow||wj||Z)=true then 1 else if (wd||ret||E)=true then 1 else if F=true then 1 else 0):=by decide
theorem if11 (p q:Bool):(if p=true then (1:Int) else if q=true then 1 else 0)=if (p||q)=true then 1 else 0:=by
 cases p<;>cases q<;>rfl
set_option maxHeartbeats 4000000 in
theorem colP_eq {c:Cat}{g i:Nat}(hg:g<c.tabs.length)(hok:okTo c g):colP c (stors c g) (nth c.tabs g) i=colErr c g i:=by
 have hns:g≤Cat.ns c:=by unfold Cat.ns;omega
 unfold colP colErr
 rw [stors_idx c hns,tab_find c (by omega)]
 generalize hx:nth (nth c.tabs g).cols i=x
 generalize ht:nth c.tabs g=t
 have hTO:=findC_bound c x.refs g
 have hnil:seB x.refs []=true→findC c x.refs g= -1:=fun h=>by rw [seB_t h];exact find_nil hns hok
 have hty:0≤findC c x.refs g→nth (nth (stors c g) (findC c x.refs g).toNat).2.2 0=(nth (nth c.tabs (findC c x.refs g).toNat).cols 0).type:=fun h=>by
  have h1:(findC c x.refs g).toNat<g:=by omega
  rw [stors_nth c h1]
  show nth (ctys c _) 0=_
  rw [ctys_tab c (by omega),nth_map _ (tabErr_cols (errAt_tab (hok _ h1) (by omega))).1]
 generalize findC c x.refs g=TO at *
 rcases Bool.eq_false_or_eq_true (seB x.refs []) with hr|hr
 ·have h1:=hnil hr
  subst h1
  have h2:leB 0 (-1)=false:=by simp [leB_eq]
  simp only [hr,h2,Bool.not_true,Bool.false_and,Bool.and_false,Bool.or_false,Bool.false_eq_true,if_false]
  rw [rules_eq]
  simp only [Bool.false_or,Bool.not_or]
  exact key1 _ _ _ _ _ _ _ _ _
 ·rcases Bool.eq_false_or_eq_true (leB 0 TO) with h0|h0
  ·rw [hty (leB_t h0)]
   have h2:ltB TO 0=false:=by have:=leB_t h0;simp [ltB_eq];omega
   simp only [hr,h0,h2,Bool.not_false,Bool.true_and,Bool.and_true,Bool.and_false,Bool.false_eq_true,if_false]
   rw [rules_eq,eqB_comm x.type (nth (nth c.tabs TO.toNat).cols 0).type]
   simp only [Bool.not_or,hasB]
   exact key2 _ _ _ _ _ _ _ _ _ _ _
  ·have h2:ltB TO 0=true:=by have:=leB_f h0;simp [ltB_eq];omega
   simp only [hr,h0,h2,Bool.not_false,Bool.and_self,if_true]
theorem colsP_eq {c:Cat}{g:Nat}(hg:g<c.tabs.length)(hok:okTo c g):∀ k i,colsP c (stors c g) (nth c.tabs g) k i=colsErr c g k i
 |0,_=>rfl
 |k+1,i=>by
  rw [colsP,colsErr,colP_eq hg hok,colsP_eq hg hok k (i+1)]
theorem tabBad_eq (t:Tab):tabBad t=(!withinB t.cols.length 1 8|| !withinB t.erase 0 1|| !withinB t.retain 0 1048576):=by
 have h2:withinB t.erase 0 1=(eqB t.erase 0||eqB t.erase 1):=by
  simp only [withinB,leB_eq,eqB_eq]
  rw [Bool.eq_iff_iff]
  simp only [Bool.and_eq_true,Bool.or_eq_true,decide_eq_true_eq,beq_iff_eq]
  omega
 unfold tabBad
 rw [h2,Bool.not_or]
theorem tabM_eq {c:Cat}{g:Nat}(hg:g<c.tabs.length)(hok:okTo c g):tabM c (stors c g) (c.names.take g) (nth c.tabs g)=errAt c g:=by
 have he:=decl_err c g (nth c.tabs g).name (names_tab c hg) (tabErr c g) (by unfold errAt;rw [if_pos hg])
 rw [he]
 unfold tabM tabErr
 rw [tabBad_eq,colsP_eq hg hok]
theorem tabS_eq {c:Cat}{g:Nat}(hg:g<c.tabs.length)(hok:okTo c g)(h0:errAt c g=0):tabS c (stors c g) (c.names.take g) (nth c.tabs g)=stors c (g+1):=by
 unfold tabS
 rw [tabM_eq hg hok,h0,stors_succ]
 have h1:stoAt c g=((nth c.tabs g).name,(nth c.tabs g).cols.map Col.name,(nth c.tabs g).cols.map Col.type):=by
  unfold stoAt
  rw [ctys_tab c hg,← names_sn c (by unfold Cat.ns;omega),names_tab c hg]
  unfold cnm stNms
  rw [if_pos hg]
 rw [h1]
 simp [eqB_eq]
end Go.Proofs.YtkmclibmmlgogaaGreat
namespace Go.Proofs.YtkmclibmmlgogaaGreat
open Go.Abs Go.Abs.S
theorem srcP_eq (c:Cat)(s:Str)(col:Int):srcP (stors c (Cat.ns c)) s col=srcE c s col:=by
 unfold srcP srcE
 rw [stors_idx c (Nat.le_refl _)]
 have hb:=findC_bound c s (Cat.ns c)
 rcases Bool.eq_false_or_eq_true (ltB (findC c s (Cat.ns c)) 0) with h|h
 ·simp only [h,if_true]
 ·have h1:=ltB_f h
  rw [stors_nth c (by omega)]
  rfl
theorem isTab_eq (c:Cat)(s:Str):(!isTabB c (stors c (Cat.ns c)) s)=ltB (tabC c s c.tabs.length) 0:=by
 unfold isTabB
 rw [stors_idx c (Nat.le_refl _),tab_find c (Nat.le_refl _)]
 unfold findC
 have h0:(Cat.sn c).take (Cat.ns c)=Cat.sn c:=List.take_of_length_le (by rw [sn_len];exact Nat.le_refl _)
 rw [h0]
 have h1:∀ (l:List Str) (k i:Nat),(idxS s (l.take k) i= -1∧(idxS s l i= -1∨((i:Int)+k≤idxS s l i∧k≤l.length)))∨(idxS s (l.take k) i=idxS s l i∧(i:Int)≤idxS s l i∧idxS s l i<i+k):=by
  intro l
  induction l with
  |nil=>intro k i;simp [idxS]
  |cons x l ih =>
   intro k i
   cases k with
   |zero =>
    left
    rcases idxS_bound s (x::l) i with h|h
    ·exact ⟨rfl,Or.inl h⟩
    ·exact ⟨rfl,Or.inr ⟨by omega,by omega⟩⟩
   |succ k =>
    simp only [List.take_succ_cons,idxS]
    rcases Bool.eq_false_or_eq_true (seB x s) with hs|hs
    ·right
     simp only [hs,if_true]
     exact ⟨trivial,by omega,by omega⟩
    ·simp only [hs,Bool.false_eq_true,if_false]
     rcases ih k (i+1) with h|h
     ·left
      refine ⟨h.1,?_⟩
      rcases h.2 with h|h
      ·exact Or.inl h
      ·exact Or.inr ⟨by omega,by simp;omega⟩
     ·right
      omega
 rcases h1 (Cat.sn c) c.tabs.length 0 with h|h
 ·have e1:ltB (idxS s ((Cat.sn c).take c.tabs.length) 0) 0=true:=by simp only [ltB_eq,decide_eq_true_eq];omega
  have e2:withinB (idxS s (Cat.sn c) 0) 0 (c.tabs.length - 1)=false:=by simp only [withinB,leB_eq,Bool.and_eq_false_iff,decide_eq_false_iff_not];omega
  rw [e1,e2]
  rfl
 ·have e1:ltB (idxS s ((Cat.sn c).take c.tabs.length) 0) 0=false:=by simp only [ltB_eq,decide_eq_false_iff_not];omega
  have e2:withinB (idxS s (Cat.sn c) 0) 0 (c.tabs.length - 1)=true:=by simp only [withinB,leB_eq,Bool.and_eq_true,decide_eq_true_eq];omega
  rw [e1,e2]
  rfl
theorem bkL_eq (c:Cat):∀ seen l,bkL c (stors c (Cat.ns c)) seen l=bkE c seen l
 |_,[]=>rfl
 |seen,t::r=>by
  rw [bkL,bkE,isTab_eq,bkL_eq c (seen++[t]) r]
theorem names_at (c:Cat){g i:Nat}{α:Type} [Inhabited α] (l1 l3:List Str)(l2:List α)(f:α→Str)(h:c.names=l1++l2.map f++l3)(hl:l1.length=g)(hi:i<l2.length):nth c.names (g+i)=f (nth l2 i):=by
 subst hl
 rw [h,List.append_assoc,nth_eq (by simp;omega),List.getElem_append_right (by omega)]
 simp only [Nat.add_sub_cancel_left]
 rw [List.getElem_append_left (by simpa using hi),nth_eq hi]
 simp
theorem err_rest {c:Cat}{g:Nat}(h:Cat.ns c≤g):errAt c g=(if !isNameB (nth c.names g) then 3 else if (c.names.take g).any fun y=>seB y (nth c.names g) then 4 else restE c (g - Cat.ns c)):=by
 have h1:¬ g<c.tabs.length:=by unfold Cat.ns at h;omega
 have h2:¬ g<Cat.ns c:=by omega
 unfold errAt
 simp only [h1,h2,if_false]
theorem idxM_eq {c:Cat}{g i:Nat}(hg:g=Cat.ns c+i)(hi:i<c.idxs.length):idxM (stors c (Cat.ns c)) (c.names.take g) (nth c.idxs i)=errAt c g:=by
 have hn:nth c.names g=(nth c.idxs i).name:=by
  rw [hg]
  exact names_at c (Cat.sn c) (c.skts.map Skt.name++c.cchs.map Cch.name++c.rlss.map Rls.name++c.stms.map Stm.name++c.bkps.map Bkp.name) c.idxs Idx.name (by simp [Cat.names,Cat.sn]) (sn_len c) hi
 have he:=decl_err c g _ hn (restE c (g - Cat.ns c)) (err_rest (by omega))
 rw [he]
 have e1:restE c (g - Cat.ns c)=idxE c (nth c.idxs i):=by
  rw [hg,Nat.add_sub_cancel_left]
  unfold restE
  rw [if_pos hi]
 rw [e1]
 unfold idxM idxE
 rw [srcP_eq]
 rcases Bool.eq_false_or_eq_true (eqB (srcE c (nth c.idxs i).source (nth c.idxs i).col).2 0) with h|h
 ·have h2:=eqB_t h
  simp only [h,Bool.not_true,Bool.false_eq_true,if_false,Bool.true_and]
  rw [h2]
 ·simp only [h,Bool.not_false,if_true,Bool.false_and,Bool.false_eq_true,if_false]
theorem cchM_eq {c:Cat}{g i:Nat}(hg:g=Cat.ns c+(c.idxs.length+c.skts.length)+i)(hi:i<c.cchs.length):cchM (stors c (Cat.ns c)) (c.names.take g) (nth c.cchs i)=errAt c g:=by
 have hn:nth c.names g=(nth c.cchs i).name:=by
  rw [hg]
  exact names_at c (Cat.sn c++c.idxs.map Idx.name++c.skts.map Skt.name) (c.rlss.map Rls.name++c.stms.map Stm.name++c.bkps.map Bkp.name) c.cchs Cch.name (by simp [Cat.names,Cat.sn]) (by simp [sn_len,Nat.add_assoc]) hi
 have he:=decl_err c g _ hn (restE c (g - Cat.ns c)) (err_rest (by omega))
 rw [he]
 have e1:restE c (g - Cat.ns c)=cchE c (nth c.cchs i):=by
  have hm:g - Cat.ns c=c.idxs.length+c.skts.length+i:=by omega
  rw [hm]
  unfold restE
  rw [if_neg (by omega),if_neg (by omega),if_pos (by omega)]
  congr 2
  omega
 rw [e1]
 unfold cchM cchE
 rw [srcP_eq]
 rcases Bool.eq_false_or_eq_true (eqB (srcE c (nth c.cchs i).source (nth c.cchs i).col).2 0) with h|h
 ·have h2:=eqB_t h
  simp only [h,Bool.not_true,Bool.false_eq_true,if_false,Bool.true_and]
  rw [h2]
 ·simp only [h,Bool.not_false,if_true,Bool.false_and,Bool.false_eq_true,if_false]
end Go.Proofs.YtkmclibmmlgogaaGreat
namespace Go.Proofs.YtkmclibmmlgogaaGreat
open Go.Abs Go.Abs.S
theorem stmM_eq {c:Cat}{g i:Nat}(hg:g=Cat.ns c+(c.idxs.length+c.skts.length+c.cchs.length+c.rlss.length)+i)(hi:i<c.stms.length):stmM c (stors c (Cat.ns c)) (c.names.take g) (nth c.stms i)=errAt c g:=by
 have hn:nth c.names g=(nth c.stms i).name:=by
  rw [hg]
  exact names_at c (Cat.sn c++c.idxs.map Idx.name++c.skts.map Skt.name++c.cchs.map Cch.name++c.rlss.map Rls.name) (c.bkps.map Bkp.name) c.stms Stm.name (by simp [Cat.names,Cat.sn]) (by simp [sn_len,Nat.add_assoc]) hi
 have he:=decl_err c g _ hn (restE c (g - Cat.ns c)) (err_rest (by omega))
 rw [he]
 have e1:restE c (g - Cat.ns c)=stmE c (nth c.stms i):=by
  have hm:g - Cat.ns c=(c.idxs.length+c.skts.length+c.cchs.length+c.rlss.length)+i:=by omega
  rw [hm]
  unfold restE
  rw [if_neg (by omega),if_neg (by omega),if_neg (by omega),if_neg (by omega),if_pos (by omega)]
  congr 2
  omega
 rw [e1]
 unfold stmM stmE
 rw [isTab_eq]
theorem bkM_eq {c:Cat}{g i:Nat}(hg:g=Cat.ns c+(c.idxs.length+c.skts.length+c.cchs.length+c.rlss.length+c.stms.length)+i)(hi:i<c.bkps.length):bkM c (stors c (Cat.ns c)) (c.names.take g) (nth c.bkps i)=errAt c g:=by
 have hn:nth c.names g=(nth c.bkps i).name:=by
  rw [hg]
  exact names_at c (Cat.sn c++c.idxs.map Idx.name++c.skts.map Skt.name++c.cchs.map Cch.name++c.rlss.map Rls.name++c.stms.map Stm.name) ([]) c.bkps Bkp.name (by simp [Cat.names,Cat.sn]) (by simp [sn_len,Nat.add_assoc]) hi
 have he:=decl_err c g _ hn (restE c (g - Cat.ns c)) (err_rest (by omega))
 rw [he]
 have e1:restE c (g - Cat.ns c)=bkpE c (nth c.bkps i):=by
  have hm:g - Cat.ns c=(c.idxs.length+c.skts.length+c.cchs.length+c.rlss.length+c.stms.length)+i:=by omega
  rw [hm]
  unfold restE
  rw [if_neg (by omega),if_neg (by omega),if_neg (by omega),if_neg (by omega),if_neg (by omega)]
  congr 2
  omega
 rw [e1]
 unfold bkM bkpE
 rw [bkL_eq]
theorem sktM_eq {c:Cat}{g i:Nat}(hg:g=Cat.ns c+(c.idxs.length)+i)(hi:i<c.skts.length):sktM (stors c (Cat.ns c)) (c.names.take g) (nth c.skts i)=errAt c g:=by
 have hn:nth c.names g=(nth c.skts i).name:=by
  rw [hg]
  exact names_at c (Cat.sn c++c.idxs.map Idx.name) (c.cchs.map Cch.name++c.rlss.map Rls.name++c.stms.map Stm.name++c.bkps.map Bkp.name) c.skts Skt.name (by simp [Cat.names,Cat.sn]) (by simp [sn_len,Nat.add_assoc]) hi
 have he:=decl_err c g _ hn (restE c (g - Cat.ns c)) (err_rest (by omega))
 rw [he]
 have e1:restE c (g - Cat.ns c)=sktE c (nth c.skts i):=by
  have hm:g - Cat.ns c=(c.idxs.length)+i:=by omega
  rw [hm]
  unfold restE
  rw [if_neg (by omega),if_pos (by omega)]
  congr 2
  omega
 rw [e1]
 unfold sktM sktE sktB
 rw [srcP_eq]
 generalize nth c.skts i=x
 have h2:withinB x.kind 0 2=(eqB x.kind 0||eqB x.kind 1||eqB x.kind 2):=by
  simp only [withinB,leB_eq,eqB_eq]
  rw [Bool.eq_iff_iff]
  simp only [Bool.and_eq_true,Bool.or_eq_true,decide_eq_true_eq,beq_iff_eq]
  omega
 rw [h2]
 simp only [Bool.not_or]
 rcases Bool.eq_false_or_eq_true (!eqB x.kind 0&& !eqB x.kind 1&& !eqB x.kind 2) with h|h
 ·simp only [h,if_true,Bool.true_or]
 ·simp only [h,Bool.false_eq_true,if_false,Bool.false_or]
theorem rlsM_eq {c:Cat}{g i:Nat}(hg:g=Cat.ns c+(c.idxs.length+c.skts.length+c.cchs.length)+i)(hi:i<c.rlss.length):rlsM c (stors c (Cat.ns c)) (c.names.take g) (nth c.rlss i)=errAt c g:=by
 have hn:nth c.names g=(nth c.rlss i).name:=by
  rw [hg]
  exact names_at c (Cat.sn c++c.idxs.map Idx.name++c.skts.map Skt.name++c.cchs.map Cch.name) (c.stms.map Stm.name++c.bkps.map Bkp.name) c.rlss Rls.name (by simp [Cat.names,Cat.sn]) (by simp [sn_len,Nat.add_assoc]) hi
 have he:=decl_err c g _ hn (restE c (g - Cat.ns c)) (err_rest (by omega))
 rw [he]
 have e1:restE c (g - Cat.ns c)=rlsE c (nth c.rlss i):=by
  have hm:g - Cat.ns c=(c.idxs.length+c.skts.length+c.cchs.length)+i:=by omega
  rw [hm]
  unfold restE
  rw [if_neg (by omega),if_neg (by omega),if_neg (by omega),if_pos (by omega)]
  congr 2
  omega
 rw [e1]
 unfold rlsM rlsE rlV
 rw [stors_idx c (Nat.le_refl _)]
 have h2:ltB (findC c (nth c.rlss i).source (Cat.ns c) - c.tabs.length) 0=ltB (findC c (nth c.rlss i).source (Cat.ns c)) c.tabs.length:=by
  simp only [ltB_eq]
  exact decide_eq_decide.2 (by omega)
 rw [h2]
end Go.Proofs.YtkmclibmmlgogaaGreat
namespace Go.Proofs.YtkmclibmmlgogaaGreat
open Go.Abs Go.Abs.S
theorem within02 (k:Int):withinB k 0 2=(eqB k 0||eqB k 1||eqB k 2):=by
 simp only [withinB,leB_eq,eqB_eq]
 rw [Bool.eq_iff_iff]
 simp only [Bool.and_eq_true,Bool.or_eq_true,decide_eq_true_eq,beq_iff_eq]
 omega
theorem shape_eq {v:Vw}(h:withinB v.kind 0 2=true):shapeP v=shapeB v:=by
 have h1:ltB 0 v.on.length= !eqB v.on.length 0:=by
  simp only [eqB_eq,ltB_eq]
  rw [Bool.eq_iff_iff]
  simp only [decide_eq_true_eq,Bool.not_eq_true',beq_eq_false_iff_ne]
  omega
 have h2:ltB 8 v.on.length= !leB v.on.length 8:=by
  simp only [leB_eq,ltB_eq]
  rw [Bool.eq_iff_iff]
  simp only [decide_eq_true_eq,Bool.not_eq_true',decide_eq_false_iff_not]
  omega
 rw [within02] at h
 unfold shapeP shapeB shapeR
 rw [h1,h2]
 have hx:eqB v.kind 0=true→eqB v.kind 1=false∧eqB v.kind 2=false:=fun h=>by
  have:=eqB_t h
  simp [eqB_eq]
  omega
 have hy:eqB v.kind 1=true→eqB v.kind 2=false:=fun h=>by
  have:=eqB_t h
  simp [eqB_eq]
  omega
 revert h hx hy
 generalize eqB v.kind 0=a0
 generalize eqB v.kind 1=a1
 generalize eqB v.kind 2=a2
 generalize seB v.right []=a3
 generalize eqB (v.on.length:Int) 0=a4
 generalize leB (v.on.length:Int) 8=a5
 generalize eqB (v.items.length:Int) 0=a6
 generalize ltB 0 (v.aggs.length:Int)=a7
 generalize eqB (v.aggs.length:Int) 0=a8
 generalize v.distinct=a9
 generalize leB ((v.items.length:Int)+v.aggs.length) 8=b1
 generalize eqB (v.wh.length:Int) 0=b2
 cases a0<;>cases a1<;>cases a2<;>cases a3<;>cases a4<;>cases a5<;>simp
theorem lT_eq {c:Cat}{g:Nat}(hg:g≤Cat.ns c)(h:0≤findC c (vOf c g).left g):(stoOf (stors c g) (vOf c g).left).2.2=lT c g:=by
 have hb:=findC_bound c (vOf c g).left g
 unfold stoOf lT
 rw [stors_idx c hg,stors_nth c (by omega),tysU_nth c (by omega)]
 rfl
theorem rT_eq {c:Cat}{g:Nat}(hg:g≤Cat.ns c)(h:seB (vOf c g).right []=false→0≤findC c (vOf c g).right g):(rgt (stors c g) (vOf c g)).2.2=rT c g:=by
 have hb:=findC_bound c (vOf c g).right g
 unfold rgt rT stoOf
 rcases Bool.eq_false_or_eq_true (seB (vOf c g).right []) with hr|hr
 ·rw [hr];rfl
 ·have:=h hr
  rw [hr,if_neg (by simp),if_neg (by simp),stors_idx c hg,stors_nth c (by omega),tysU_nth c (by omega)]
  rfl
theorem names_view (c:Cat){g:Nat}(h:c.tabs.length≤g)(h2:g<Cat.ns c):nth c.names g=(vOf c g).name:=by
 have hv:g - c.tabs.length<c.views.length:=by unfold Cat.ns at h2;omega
 have:=names_at c (i:=g - c.tabs.length) (c.tabs.map Tab.name) (c.idxs.map Idx.name++c.skts.map Skt.name++c.cchs.map Cch.name++c.rlss.map Rls.name++c.stms.map Stm.name++c.bkps.map Bkp.name) c.views Vw.name (by simp [Cat.names]) (g:=c.tabs.length) (by simp) hv
 rw [show c.tabs.length+(g - c.tabs.length)=g by omega] at this
 exact this
theorem viewM_eq {c:Cat}{g:Nat}(h:c.tabs.length≤g)(h2:g<Cat.ns c):viewM (stors c g) (c.names.take g) (vOf c g)=errAt c g:=by
 have hg:g≤Cat.ns c:=by omega
 have he:=decl_err c g _ (names_view c h h2) (viewErr c g) (by
  have h3:¬ g<c.tabs.length:=by omega
  unfold errAt
  simp only [h3,h2,if_false,if_true])
 rw [he]
 unfold viewM viewErr
 rw [within02,stors_idx c hg,stors_idx c hg]
 simp only [Bool.not_or]
 rcases Bool.eq_false_or_eq_true (!eqB (vOf c g).kind 0&& !eqB (vOf c g).kind 1&& !eqB (vOf c g).kind 2) with k1|k1
 ·simp only [k1,if_true]
 ·simp only [k1,Bool.false_eq_true,if_false]
  rcases Bool.eq_false_or_eq_true (ltB (findC c (vOf c g).left g) 0||(!seB (vOf c g).right []&&ltB (findC c (vOf c g).right g) 0)) with k2|k2
  ·simp only [k2,if_true]
  ·have k2' :=k2
   simp only [Bool.or_eq_false_iff] at k2'
   have f1:=ltB_f k2'.1
   have f2:seB (vOf c g).right []=false→0≤findC c (vOf c g).right g:=fun h=>by
    have:=k2'.2
    simp only [h,Bool.not_false,Bool.true_and] at this
    exact ltB_f this
   have hk:withinB (vOf c g).kind 0 2=true:=by
    rw [within02]
    have:=congrArg (! ·) k1
    simpa using this
   rw [shape_eq hk,lT_eq hg f1,rT_eq hg f2]
   simp only [k2,Bool.false_eq_true,if_false]
   rfl
end Go.Proofs.YtkmclibmmlgogaaGreat
namespace Go.Proofs.YtkmclibmmlgogaaGreat
open Go.Abs Go.Abs.S
theorem viewS_eq {c:Cat}{g:Nat}(h:c.tabs.length≤g)(h2:g<Cat.ns c)(h0:errAt c g=0):viewS (stors c g) (c.names.take g) (vOf c g)=stors c (g+1):=by
 have hg:g≤Cat.ns c:=by omega
 have hs:=viewErr_src (errAt_view h0 h h2)
 have hb:=findC_bound c (vOf c g).left g
 have h00:eqB 0 0=true:=by simp [eqB_eq]
 have hn:nth (Cat.sn c) g=(vOf c g).name:=by rw [← names_sn c h2,names_view c h h2]
 have hnt:¬ g<c.tabs.length:=by omega
 unfold viewS
 rw [viewM_eq h h2,h0,h00,if_pos rfl,stors_succ]
 rcases Bool.eq_false_or_eq_true (eqB (vOf c g).kind 2) with hk|hk
 ·have e1:stoAt c g=((vOf c g).name,(stoOf (stors c g) (vOf c g).left).2.1,(stoOf (stors c g) (vOf c g).left).2.2):=by
   have hk' :eqB (nth c.views (g - c.tabs.length)).kind 2=true:=hk
   have f1:0≤findC c (nth c.views (g - c.tabs.length)).left g:=hs.2.1
   have hb' :=findC_bound c (nth c.views (g - c.tabs.length)).left g
   unfold stoAt stoOf
   rw [hn,stors_idx c hg,stors_nth c (by omega)]
   unfold ctys cnm stTys stNms
   rw [if_neg hnt,if_neg hnt,hk',if_pos rfl,if_pos rfl,tysU_nth c (by omega),nmsU_nth c (by omega)]
   rfl
  rw [hk,if_pos rfl,e1]
 ·have e1:stoAt c g=((vOf c g).name,(ents (vOf c g)).map Ent.name,viewTys (vOf c g) ((stoOf (stors c g) (vOf c g).left).2.2++(rgt (stors c g) (vOf c g)).2.2)):=by
   have hk' :eqB (nth c.views (g - c.tabs.length)).kind 2=false:=hk
   rw [lT_eq hg hs.2.1,rT_eq hg hs.2.2.1]
   unfold stoAt
   rw [hn]
   unfold ctys cnm stTys stNms
   rw [if_neg hnt,if_neg hnt,hk',if_neg (by simp),if_neg (by simp)]
   rfl
  rw [hk,if_neg (by simp),e1]
end Go.Proofs.YtkmclibmmlgogaaGreat
namespace Go.Proofs.YtkmclibmmlgogaaGreat
open Go.Abs Go.Abs.S
theorem shape_pos {v:Vw}(hk:withinB v.kind 0 2=true)(h:shapeB v=true)(h2:eqB v.kind 2=false):0<v.items.length+v.aggs.length:=by
 unfold shapeB at h
 rw [h2,if_neg (by simp)] at h
 rcases Bool.eq_false_or_eq_true (eqB v.kind 0) with h0|h0
 ·rw [h0,if_pos rfl] at h
  simp only [Bool.and_eq_true,Bool.not_eq_true',Bool.or_eq_false_iff] at h
  have:=eqB_f h.1.1
  omega
 ·rw [h0,if_neg (by simp)] at h
  simp only [Bool.and_eq_true,Bool.not_eq_true',Bool.or_eq_false_iff] at h
  have:=eqB_f h.1.1
  omega
theorem sto_pos {c:Cat}(hs:Small2 c):∀ (n k:Nat),k<n→n≤Cat.ns c→okTo c n→0<(ctys c k).length∧0<(cnm c k).length∧(cnm c k).length≤2000
 |0,k,h,_,_=>absurd h (by omega)
 |n+1,k,h,hn,ho=>by
  rcases Nat.lt_or_ge k n with h1|h1
  ·exact sto_pos hs n k h1 (by omega) (fun m hm=>ho m (by omega))
  obtain rfl:k=n:=by omega
  rcases Nat.lt_or_ge k c.tabs.length with h2|h2
  ·have h3:=hs.sm.cols k h2
   have h4:=(tabErr_cols (errAt_tab (ho k (by omega)) h2)).1
   unfold ctys cnm stTys stNms
   rw [if_pos h2,if_pos h2]
   simp
   omega
  ·have h3:¬ k<c.tabs.length:=by omega
   have hv:k - c.tabs.length<c.views.length:=by unfold Cat.ns at hn;omega
   have hsr:=viewErr_src (errAt_view (ho k (by omega)) h2 (by omega))
   unfold vOf at hsr
   unfold ctys cnm stTys stNms
   rw [if_neg h3,if_neg h3]
   rcases Bool.eq_false_or_eq_true (eqB (nth c.views (k - c.tabs.length)).kind 2) with hk|hk
   ·have hb:=findC_bound c (nth c.views (k - c.tabs.length)).left k
    have f1:=hsr.2.1
    rw [hk,if_pos rfl,if_pos rfl,tysU_nth c (by omega),nmsU_nth c (by omega)]
    exact sto_pos hs k _ (by omega) (by omega) (fun m hm=>ho m (by omega))
   ·have h5:=shape_pos hsr.1 hsr.2.2.2 hk
    have h6:=hs.items _ hv
    have h7:=hs.aggs _ hv
    rw [hk,if_neg (by simp),if_neg (by simp),List.length_map,ents_len]
    simp only [viewTys,List.length_append,List.length_map]
    omega
end Go.Proofs.YtkmclibmmlgogaaGreat

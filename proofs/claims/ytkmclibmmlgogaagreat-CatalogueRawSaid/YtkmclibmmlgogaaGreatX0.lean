/-
  The program's Check and Valid.; The program's Names and Types.; The program's sources of a store.; The program's Sources.; The program's Names and Types.; The program's sources of a store.; The program's Sources.; The program's Find.
  (Put together by a small program out of several texts; blanks left out to keep the folder small.)
-/
import Derived.Test.YtkmclibmmlgogaaGreatE3
import Derived.Test.YtkmclibmmlgogaaGreatB6
import Derived.Test.YtkmclibmmlgogaaGreatW2
set_option linter.unusedVariables false
set_option linter.unusedSimpArgs false
namespace Go.Proofs.YtkmclibmmlgogaaGreat
open Go.Abs Go.Abs.S
attribute [local irreducible] Rx Ry Rn Ex Pf
theorem chkFrom_zero (c:Cat):∀ k i,(chkFrom c k i).2=0→chkFrom c k i=(0,0)∧∀ m,i≤m→m<i+k→errAt c m=0
 |0,i,_=>⟨rfl,fun m h1 h2=>absurd h1 (by omega)⟩
 |k+1,i,h=>by
  rw [chkFrom] at h ⊢
  cases e:eqB (errAt c i) 0 with
  |false =>
   simp only [e,Bool.not_false,if_true] at h
   exact absurd h (eqB_f e)
  |true =>
   simp only [e,Bool.not_true,Bool.false_eq_true,if_false] at h ⊢
   obtain ⟨h1,h2⟩:=chkFrom_zero c k (i+1) h
   refine ⟨h1,fun m g1 g2=> ?_⟩
   rcases Nat.lt_or_ge i m with g3|g3
   ·exact h2 m g3 (by omega)
   ·obtain rfl:m=i:=by omega
    exact eqB_t e
theorem chkC_zero {c:Cat}(h:(checkC c).2=0):(checkC c).1=0∧tooMany c=false∧okTo c c.names.length:=by
 unfold checkC at h ⊢
 cases e:tooMany c with
 |true=>rw [e] at h;simp at h
 |false =>
  rw [e] at h
  simp only [Bool.false_eq_true,if_false] at h ⊢
  obtain ⟨h1,h2⟩:=chkFrom_zero c _ _ h
  exact ⟨by rw [h1],trivial,fun m hm=>h2 m (by omega) (by omega)⟩
theorem chk_pair {c:Cat}{fds:List Str}{fss:List Sto}{v:AVal}{H1:Heap}(h:chkPost c fds fss v H1):v= .tuple [.d .nilptr,.d (num (checkC c).1),.d (num (checkC c).2)]∨v= .tuple [.ptr 4 0,.d (num (checkC c).1),.d (num (checkC c).2)]:=by
 obtain ⟨_,h1,h2⟩:=h
 cases e:eqB (checkC c).2 0 with
 |false=>exact .inl (h1 e)
 |true =>
  refine .inr ((h2 e).1.trans ?_)
  rw [eqB_t e,(chkC_zero (eqB_t e)).1]
theorem pf26 (c:Cat)(hs:Small2 c):Pf A 26 [cat c] (pair (checkC c)):=by
 obtain ⟨v,H1,hp,hpm⟩:=pq29c c hs
 have hle:=chk_le hp
 refine Pf.run [cat c,.any,.any,.any,.any,.any] rfl rfl rfl rfl ?_
 rcases chk_pair hp with rfl|rfl
 ·repeat' (first|refine cp hpm hle ?_|refine gx ?_|fail)
  exact ⟨_,rfl,rfl⟩
 ·repeat' (first|refine cp hpm hle ?_|refine gx ?_|fail)
  exact ⟨_,rfl,rfl⟩
def validC (c:Cat):Bool:=eqB (checkC c).2 0
theorem pf10 (c:Cat)(hs:Small2 c):Pf A 10 [cat c] (.d (.bool (validC c))):=by
 obtain ⟨v,H1,hp,hpm⟩:=pq29c c hs
 have hle:=chk_le hp
 refine Pf.run [cat c,.any,.any,.any] rfl rfl rfl rfl ?_
 rcases chk_pair hp with rfl|rfl
 ·repeat' (first|refine cp hpm hle ?_|refine gx ?_|fail)
  exact ⟨_,rfl,rfl⟩
 ·repeat' (first|refine cp hpm hle ?_|refine gx ?_|fail)
  exact ⟨_,rfl,rfl⟩
end Go.Proofs.YtkmclibmmlgogaaGreat
namespace Go.Proofs.YtkmclibmmlgogaaGreat
open Go.Abs Go.Abs.S
attribute [local irreducible] Rx Ry Rn Ex Pf
theorem HHr_take (c:Cat)(ds:List Str)(ss:List Sto)(R:Heap):(HH c ds ss++R).take 5=HH c ds ss:=rfl
theorem ck {b:Nat}{dr:Bool}{ais ops:List AIns}{T:List AVal}{n:Nat}{rl:List AVal}{tch:List Abs.Touch}{Q:List AVal→Heap→List AVal→Prop}{c:Cat}{ds:List Str}{ss:List Sto}{R:Heap}{f:FuncId}{xs:List Opd}{u:List Nat}{v:AVal}{args:List AVal}(hc:Pm A f args (HH c ds ss) lR v (HH c ds ss))(h2:Ry A lim0 b dr ais ops T (HH c ds ss++R) (n+1) (v::rl) tch Q)
  (ha:xs.map (rq T n rl)=args:=by rfl) (hb:bndL args=5:=by rfl) (hpr:A.prom f=false:=by rfl) (hm:A.mode f=1:=by rfl):Ry A lim0 b dr ais (⟨.call f xs,none,none,u⟩::ops) T (HH c ds ss++R) n rl tch Q:=by
 have hb5:=HH_bnd c ds ss
 have hd5:=HH_disc c ds ss
 refine c1 hc rfl h2 (m:=5) ?_ ?_ rfl rfl ?_ ha hpr hm
 ·show bndO (HH c ds ss)≤5
  exact hb5
 ·rw [hb]
  exact closeN_of (by show bndO (HH c ds ss)≤5;exact hb5)
 ·show Lim.mk 0 5 5 (strictOf _ 0 5)=lR
  rw [strict5 (by show discFrom (HH c ds ss) 0=true;exact hd5)]
  rfl
def isSto (c:Cat)(n:Int):Bool:=validC c&&(leB 0 n&&ltB n (Cat.ns c))
def namesC (c:Cat)(n:Int):List Str:=if isSto c n then cnm c n.toNat else []
def typesC (c:Cat)(n:Int):List Int:=if isSto c n then ctys c n.toNat else []
theorem sto_at (c:Cat){n:Int}(h:0≤n∧n<(Cat.ns c)):nth (stors c (Cat.ns c)) n.toNat=stoAt c n.toNat:=stors_nth c (by omega)
theorem isSto_t {c:Cat}{n:Int}(h:isSto c n=true):eqB (checkC c).2 0=true∧(leB 0 n&&ltB n (Cat.ns c))=true∧0≤n∧n<(Cat.ns c):=by
 unfold isSto validC at h
 rw [Bool.and_eq_true] at h
 exact ⟨h.1,h.2,by simpa [leB_eq,ltB_eq] using h.2⟩
theorem pf14f (c:Cat)(hs:Small2 c)(n:Int)(h:isSto c n=false):Pf A 14 [cat c,.d (num n)] (.own 1 0 []):=by
 obtain ⟨v,H1,hp,hpm⟩:=pq29c c hs
 have hle:=chk_le hp
 obtain ⟨_,hp1,hp2⟩:=hp
 refine Pf.run [cat c,.d (num n),.any,.any,.any,.any] rfl rfl rfl rfl ?_
 cases e:eqB (checkC c).2 0 with
 |false =>
  obtain rfl:=hp1 e
  repeat' (first|refine cp hpm hle ?_|refine gx ?_|fail)
  first|refine Ex.testB (true) (Rn.text ?_) (fun h1=> ?_) (fun h1=> ?_)|refine Ex.testB (true) (Rn.draw ?_) (fun h1=> ?_) (fun h1=> ?_)
  ·repeat' (first|refine cl (e) ?_|refine gx ?_|refine fk (h1:=fun hw=> ?_) (h2:=fun hw=> ?_)|refine fpk (h1:=fun hw=> ?_) (h2:=fun hw=> ?_)|refine ⟨rfl,rfl,_,rfl,?_⟩|refine ⟨rfl,rfl⟩|fail)
   all_goals first|(simp [*,oneOrTuple];done)|(simp_all [oneOrTuple];done)|(simp_all [oneOrTuple,ltB_eq,leB_eq,eqB_eq,seB_eq];done)|(simp_all [oneOrTuple,ltB_eq,leB_eq,eqB_eq,seB_eq]<;>omega)
  ·repeat' (first|refine gx ?_|fail)
   exact ⟨_,rfl,rfl⟩
  ·cases h1
 |true =>
  obtain ⟨rfl,rfl⟩:=hp2 e
  have p38:=pm38 c c.names (stors c (Cat.ns c)) n
  rw [stors_len] at p38
  have h2:(leB 0 n&&ltB n (Cat.ns c))=false:=by unfold isSto validC at h;rw [e] at h;exact h
  rw [h2] at p38
  repeat' (first|refine cp hpm hle ?_|refine gx ?_|fail)
  first|refine Ex.testB (true) (Rn.text ?_) (fun h1=> ?_) (fun h1=> ?_)|refine Ex.testB (true) (Rn.draw ?_) (fun h1=> ?_) (fun h1=> ?_)
  ·repeat' (first|refine ck p38 ?_|refine gx ?_|refine fk (h1:=fun hw=> ?_) (h2:=fun hw=> ?_)|refine fpk (h1:=fun hw=> ?_) (h2:=fun hw=> ?_)|refine ⟨rfl,rfl,_,rfl,?_⟩|refine ⟨rfl,rfl⟩|fail)
   all_goals first|(simp [*,oneOrTuple];done)|(simp_all [oneOrTuple];done)|(simp_all [oneOrTuple,ltB_eq,leB_eq,eqB_eq,seB_eq];done)|(simp_all [oneOrTuple,ltB_eq,leB_eq,eqB_eq,seB_eq]<;>omega)
  ·repeat' (first|refine gx ?_|fail)
   exact ⟨_,rfl,rfl⟩
  ·cases h1
theorem pf14t (c:Cat)(hs:Small2 c)(n:Int)(h:isSto c n=true):Pf A 14 [cat c,.d (num n)] (.d (encL encS (cnm c n.toNat))):=by
 obtain ⟨v,H1,hp,hpm⟩:=pq29c c hs
 have hle:=chk_le hp
 obtain ⟨_,hp1,hp2⟩:=hp
 obtain ⟨e,h2,h3⟩:=isSto_t h
 obtain ⟨rfl,rfl⟩:=hp2 e
 have h4:=sto_at c h3
 have h6:=stors_len c (Cat.ns c)
 have p38:=pm38 c c.names (stors c (Cat.ns c)) n
 rw [stors_len,h2] at p38
 refine Pf.run [cat c,.d (num n),.any,.any,.any,.any] rfl rfl rfl rfl ?_
 repeat' (first|refine cp hpm hle ?_|refine gx ?_|fail)
 first|refine Ex.testB (false) (Rn.text ?_) (fun h1=> ?_) (fun h1=> ?_)|refine Ex.testB (false) (Rn.draw ?_) (fun h1=> ?_) (fun h1=> ?_)
 ·repeat' (first|refine ck p38 ?_|refine gx ?_|refine fk (h1:=fun hw=> ?_) (h2:=fun hw=> ?_)|refine fpk (h1:=fun hw=> ?_) (h2:=fun hw=> ?_)|refine ⟨rfl,rfl,_,rfl,?_⟩|refine ⟨rfl,rfl⟩|fail)
  all_goals first|(simp [*,oneOrTuple];done)|(simp_all [oneOrTuple];done)|(simp_all [oneOrTuple,ltB_eq,leB_eq,eqB_eq,seB_eq];done)|(simp_all [oneOrTuple,ltB_eq,leB_eq,eqB_eq,seB_eq]<;>omega)
 ·cases h1
 repeat' (first|refine gx ?_|fail)
 exact ⟨_,rfl,by rw [h4];rfl⟩
theorem pf15f (c:Cat)(hs:Small2 c)(n:Int)(h:isSto c n=false):Pf A 15 [cat c,.d (num n)] (.own 1 0 []):=by
 obtain ⟨v,H1,hp,hpm⟩:=pq29c c hs
 have hle:=chk_le hp
 obtain ⟨_,hp1,hp2⟩:=hp
 refine Pf.run [cat c,.d (num n),.any,.any,.any,.any] rfl rfl rfl rfl ?_
 cases e:eqB (checkC c).2 0 with
 |false =>
  obtain rfl:=hp1 e
  repeat' (first|refine cp hpm hle ?_|refine gx ?_|fail)
  first|refine Ex.testB (true) (Rn.text ?_) (fun h1=> ?_) (fun h1=> ?_)|refine Ex.testB (true) (Rn.draw ?_) (fun h1=> ?_) (fun h1=> ?_)
  ·repeat' (first|refine cl (e) ?_|refine gx ?_|refine fk (h1:=fun hw=> ?_) (h2:=fun hw=> ?_)|refine fpk (h1:=fun hw=> ?_) (h2:=fun hw=> ?_)|refine ⟨rfl,rfl,_,rfl,?_⟩|refine ⟨rfl,rfl⟩|fail)
   all_goals first|(simp [*,oneOrTuple];done)|(simp_all [oneOrTuple];done)|(simp_all [oneOrTuple,ltB_eq,leB_eq,eqB_eq,seB_eq];done)|(simp_all [oneOrTuple,ltB_eq,leB_eq,eqB_eq,seB_eq]<;>omega)
  ·repeat' (first|refine gx ?_|fail)
   exact ⟨_,rfl,rfl⟩
  ·cases h1
 |true =>
  obtain ⟨rfl,rfl⟩:=hp2 e
  have p38:=pm38 c c.names (stors c (Cat.ns c)) n
  rw [stors_len] at p38
  have h2:(leB 0 n&&ltB n (Cat.ns c))=false:=by unfold isSto validC at h;rw [e] at h;exact h
  rw [h2] at p38
  repeat' (first|refine cp hpm hle ?_|refine gx ?_|fail)
  first|refine Ex.testB (true) (Rn.text ?_) (fun h1=> ?_) (fun h1=> ?_)|refine Ex.testB (true) (Rn.draw ?_) (fun h1=> ?_) (fun h1=> ?_)
  ·repeat' (first|refine ck p38 ?_|refine gx ?_|refine fk (h1:=fun hw=> ?_) (h2:=fun hw=> ?_)|refine fpk (h1:=fun hw=> ?_) (h2:=fun hw=> ?_)|refine ⟨rfl,rfl,_,rfl,?_⟩|refine ⟨rfl,rfl⟩|fail)
   all_goals first|(simp [*,oneOrTuple];done)|(simp_all [oneOrTuple];done)|(simp_all [oneOrTuple,ltB_eq,leB_eq,eqB_eq,seB_eq];done)|(simp_all [oneOrTuple,ltB_eq,leB_eq,eqB_eq,seB_eq]<;>omega)
  ·repeat' (first|refine gx ?_|fail)
   exact ⟨_,rfl,rfl⟩
  ·cases h1
theorem pf15t (c:Cat)(hs:Small2 c)(n:Int)(h:isSto c n=true):Pf A 15 [cat c,.d (num n)] (.d (ints (ctys c n.toNat))):=by
 obtain ⟨v,H1,hp,hpm⟩:=pq29c c hs
 have hle:=chk_le hp
 obtain ⟨_,hp1,hp2⟩:=hp
 obtain ⟨e,h2,h3⟩:=isSto_t h
 obtain ⟨rfl,rfl⟩:=hp2 e
 have h4:=sto_at c h3
 have h6:=stors_len c (Cat.ns c)
 have p38:=pm38 c c.names (stors c (Cat.ns c)) n
 rw [stors_len,h2] at p38
 refine Pf.run [cat c,.d (num n),.any,.any,.any,.any] rfl rfl rfl rfl ?_
 repeat' (first|refine cp hpm hle ?_|refine gx ?_|fail)
 first|refine Ex.testB (false) (Rn.text ?_) (fun h1=> ?_) (fun h1=> ?_)|refine Ex.testB (false) (Rn.draw ?_) (fun h1=> ?_) (fun h1=> ?_)
 ·repeat' (first|refine ck p38 ?_|refine gx ?_|refine fk (h1:=fun hw=> ?_) (h2:=fun hw=> ?_)|refine fpk (h1:=fun hw=> ?_) (h2:=fun hw=> ?_)|refine ⟨rfl,rfl,_,rfl,?_⟩|refine ⟨rfl,rfl⟩|fail)
  all_goals first|(simp [*,oneOrTuple];done)|(simp_all [oneOrTuple];done)|(simp_all [oneOrTuple,ltB_eq,leB_eq,eqB_eq,seB_eq];done)|(simp_all [oneOrTuple,ltB_eq,leB_eq,eqB_eq,seB_eq]<;>omega)
 ·cases h1
 repeat' (first|refine gx ?_|fail)
 exact ⟨_,rfl,by rw [h4];rfl⟩
end Go.Proofs.YtkmclibmmlgogaaGreat
namespace Go.Proofs.YtkmclibmmlgogaaGreat
open Go.Abs Go.Abs.S
attribute [local irreducible] Rx Ry Rn Ex Pf
def iv (n:Int):AVal:= .d (num n)
theorem intsOf_map:∀ xs:List Int,intsOf? (xs.map iv)=some xs
 |[]=>rfl
 |x::xs=>by
  have:=intsOf_map xs
  simp only [List.map_cons,iv,num,intsOf?]
  rw [this]
theorem sortI_len:∀ xs:List Int,(sortI xs).length=xs.length
 |[]=>rfl
 |x::xs=>by
  have h:∀ l:List Int,(insI x l).length=l.length+1:=fun l=>by
   induction l with
   |nil=>rfl
   |cons y l ih=>simp only [insI];split<;>simp [ih]
  simp [sortI,h,sortI_len xs]
theorem dedI_len:∀ xs:List Int,(dedI xs).length≤xs.length
 |[]=>Nat.le_refl _
 |[x]=>Nat.le_refl _
 |x::y::l=>by
  have:=dedI_len (y::l)
  simp only [dedI]
  split<;>simp at this ⊢<;>omega
theorem wr_all {H:Heap}{id:Nat}{old vs:List AVal}(ho:H[id]? =some (.cells old))(hl:vs.length=old.length):wr H id 0 vs=some (H.set id (.cells vs)):=by
 simp [wr,ho,hl,splice,List.drop_of_length_le]
theorem rd_all {H:Heap}{id len:Nat}{old:List AVal}(ho:H[id]? =some (.cells old))(hl:old.length=len):rd H id 0 len=some old:=by
 simp [rd,ho,hl,List.take_of_length_le]
theorem pSort_at {H:Heap}{id len:Nat}{l:Lim}{xs:List Int}(hm:l.may id=true)(ho:H[id]? =some (.cells (xs.map iv)))(hl:xs.length=len)(hb:Nat.ble len 1000000=true:=by rfl):pSort [.sref id 1 0 len] H l=some (.tuple [],H.set id (.cells ((sortI xs).map iv))):=by
 have h1:=rd_all (len:=len) ho (by simp [hl])
 have h2:=wr_all (vs:=(sortI xs).map iv) ho (by simp [sortI_len])
 simp only [pSort,hm,hb,Bool.and_self,if_true,h1,intsOf_map]
 rw [show ((sortI xs).map fun n=>AVal.d (.int .i64 n))=(sortI xs).map iv from rfl,h2]
theorem pCompact_at {H:Heap}{id len:Nat}{l:Lim}{xs:List Int}(hm:l.may id=true)(ho:H[id]? =some (.cells (xs.map iv)))(hl:xs.length=len)(hb:Nat.ble len 1000000=true:=by rfl) :
  pCompact [.sref id 1 0 len] H l=some (.sref id 1 0 (dedI xs).length,H.set id (.cells ((dedI xs++List.replicate (xs.length - (dedI xs).length) 0).map iv))):=by
 have h1:=rd_all (len:=len) ho (by simp [hl])
 have h3:=dedI_len xs
 have h2:=wr_all (vs:=(dedI xs++List.replicate (xs.length - (dedI xs).length) 0).map iv) ho (by simp;omega)
 simp only [pCompact,hm,hb,Bool.and_self,if_true,h1,intsOf_map]
 have h4:wr H id 0 ((dedI xs++List.replicate (xs.length - (dedI xs).length) 0).map fun n=>AVal.d (.int .i64 n))=_:=h2
 rw [h4]
def srcL (v:Vw)(ns:List Str):List Int:=dedI (sortI (if seB v.right [] then [idxS v.left ns 0] else [idxS v.left ns 0,idxS v.right ns 0]))
theorem pm45t (c:Cat)(ds:List Str)(ss:List Sto)(n:Int)(hn:n<c.tabs.length):Pm A 45 [.ptr 4 0,.d (num n)] (HH c ds ss) lR (.d (ints [])) (HH c ds ss):=by
 suffices h:Pq A 45 [.ptr 4 0,.d (num n)] (HH c ds ss) lR fun w H1=>w= .d (ints [])∧H1=HH c ds ss by
  obtain ⟨w,H1,⟨rfl,rfl⟩,h⟩:=h;exact h
 unfold HH at *
 refine Pq.run (b:=5) [.ptr 4 0,.d (num n),.any,.any,.any] rfl rfl rfl rfl rfl ?_
 repeat' (first|refine mn (h2:= ?_)|refine gx ?_|fail)
 refine tb (ltB n c.tabs.length) (fun g1=> ?_) (fun g1=> ?_)
 ·repeat' (first|refine mn (h2:= ?_)|refine gx ?_|fail)
  exact ⟨_,_,rfl,rfl,rfl⟩
 ·have:=ltB_f g1
  omega
def l57:Lim:=⟨0,5,7,7⟩
theorem pmS (a0 a1 a2 a3 a4 a5:AObj)(xs ys:List Int)(h:sortI xs=ys)(hb:Nat.ble xs.length 1000000=true:=by rfl):Pm A 42 [.sref 6 1 0 xs.length] [a0,a1,a2,a3,a4,a5,.cells (xs.map iv)] l57 (.tuple []) [a0,a1,a2,a3,a4,a5,.cells (ys.map iv)]:=by
 subst h
 exact Pm.prim rfl (pSort_at rfl rfl rfl hb)
theorem pmC (a0 a1 a2 a3 a4 a5:AObj)(xs ys:List Int)(h:dedI xs=ys)(hb:Nat.ble xs.length 1000000=true:=by rfl):Pm A 43 [.sref 6 1 0 xs.length] [a0,a1,a2,a3,a4,a5,.cells (xs.map iv)] l57 (.sref 6 1 0 ys.length) [a0,a1,a2,a3,a4,a5,.cells ((ys++List.replicate (xs.length - ys.length) 0).map iv)]:=by
 subst h
 exact Pm.prim rfl (pCompact_at rfl rfl rfl hb)
theorem sort2 (i j:Int):(sortI [i,j]=[i,i]∧dedI [i,i]=[i])∨(sortI [i,j]=[i,j]∧dedI [i,j]=[i,j])∨(sortI [i,j]=[j,i]∧dedI [j,i]=[j,i]):=by
 rcases Int.lt_trichotomy i j with h|h|h
 ·refine .inr (.inl ⟨?_,?_⟩)
  ·simp only [sortI,insI];rw [if_pos (by omega)]
  ·simp only [dedI];rw [if_neg (by omega)]
 ·subst h
  refine .inl ⟨?_,?_⟩
  ·simp only [sortI,insI];rw [if_pos (by omega)]
  ·simp [dedI]
 ·refine .inr (.inr ⟨?_,?_⟩)
  ·simp only [sortI,insI];rw [if_neg (by omega)]
  ·simp only [dedI];rw [if_neg (by omega)]
set_option maxHeartbeats 4000000 in
theorem pm45v (c:Cat)(ds:List Str)(ss:List Sto)(n:Int)(hn:c.tabs.length≤n)(hn2:n<(Cat.ns c))(hvl:c.views.length≤1000):Pm A 45 [.ptr 4 0,.d (num n)] (HH c ds ss) lR (.d (ints (srcL (nth c.views (n - c.tabs.length).toNat) (ss.map (·.1))))) (HH c ds ss):=by
 have hns:Cat.ns c=c.tabs.length+c.views.length:=rfl
 obtain ⟨v,hv⟩:∃ v,nth c.views (n - c.tabs.length).toNat=v:=⟨_,rfl⟩
 rw [hv]
 suffices h:Pq A 45 [.ptr 4 0,.d (num n)] (HH c ds ss) lR fun w H1=>w= .d (ints (srcL v (ss.map (·.1))))∧H1=HH c ds ss by
  obtain ⟨w,H1,⟨rfl,rfl⟩,h⟩:=h;exact h
 have pL:=pm61 c ds ss v.left
 have pR:=pm61 c ds ss v.right
 unfold HH at *
 refine Pq.run (b:=5) [.ptr 4 0,.d (num n),.any,.any,.any] rfl rfl rfl rfl rfl ?_
 repeat' (first|refine mn (h2:= ?_)|refine gx ?_|fail)
 refine tb (ltB n c.tabs.length) (fun g1=> ?_) (fun g1=> ?_)
 ·have:=ltB_t g1
  omega
 repeat' (first|refine gx ?_|fail)
 refine Ex.region (Rn.z 3 5 [.cells (c.enc.map .d),.cells (c.enc.map .d),.map (dmap ds),.map (nmap (ss.map (·.1)) 0),.cells (c.enc.map .d++[.map 2,.map 3,ownL 2 encSt ss]),.dead] rfl rfl (by decide) rfl rfl ?_)
 refine zm ?_
 refine zp (rs:=[]) (.ptr 4 0) rfl ?_
 refine zp (rs:=[]) (.ptr 4 0) rfl ?_
 refine zp (rs:=[]) (.ptr 4 1) rfl ?_
 refine zp (rs:=[4]) (.d (encL Vw.enc c.views)) rfl ?_
 refine zm ?_
 refine zm ?_
 refine zp (rs:=[]) (.ptr 4 0) rfl ?_
 refine zp (rs:=[]) (.ptr 4 0) rfl ?_
 refine zp (rs:=[]) (.ptr 4 0) rfl ?_
 refine zp (rs:=[4]) (.d (encL Tab.enc c.tabs)) rfl ?_
 refine zp (rs:=[]) (.d (num c.tabs.length)) rfl ?_
 refine zsb (c:=n) (d:=c.tabs.length) (by omega) ?_
 refine zix (xs:=c.views) (enc:=Vw.enc) (e:=n - c.tabs.length) (by omega) ?_
 refine zle ?_
 rw [hv]
 refine za (h2:= ?_)
 refine zs (h2:= ?_)
 refine zn ?_
 repeat' (first|refine c1 pL rfl ?_|refine bso [iv (idxS v.left (ss.map (·.1)) 0)] rfl ⟨by decide,rfl⟩ (h2:= ?_)|refine gx ?_|fail)
 obtain ⟨i,hi⟩:∃ i,idxS v.left (ss.map (·.1)) 0=i:=⟨_,rfl⟩
 obtain ⟨j,hj⟩:∃ j,idxS v.right (ss.map (·.1)) 0=j:=⟨_,rfl⟩
 rw [hi] at pL ⊢
 rw [hj] at pR
 refine tb (!seB v.right []) (fun g2=> ?_) (fun g2=> ?_)
 ·repeat' (first|refine c1 pR rfl ?_|refine bso [iv j] rfl ⟨by decide,rfl⟩ (h2:= ?_)|refine apo (m:=1) (len:=1) (k2:=2) (old:=[iv i]) (cs:=[iv j]) (T2:=[.ptr 4 0,.d (num n),.d (.slice 0 []),.ptr 5 0,.any]) (rl2:=[.sref 7 1 0 1,.d (num j),.d (.str v.right),.ptr 5 3,.ptr 4 0,.any]) (H2:=[.cells (c.enc.map .d),.cells (c.enc.map .d),.map (dmap ds),.map (nmap (ss.map (·.1)) 0),.cells (c.enc.map .d++[.map 2,.map 3,ownL 2 encSt ss]),.cells (v.enc.map .d),.cells [iv i,iv j],.cells [iv j]]) rfl rfl rfl rfl rfl (h2:= ?_)|refine gx ?_|fail)
  have e1:srcL v (ss.map (·.1))=dedI (sortI [i,j]):=by unfold srcL;rw [hi,hj];simp only [Bool.not_eq_true'] at g2;rw [g2];rfl
  rcases sort2 i j with ⟨h1,h2⟩|⟨h1,h2⟩|⟨h1,h2⟩
  ·repeat' (first|refine c0 (pmS _ _ _ _ _ _ [i,j] [i,i] h1) rfl (h2:= ?_)|refine c0 (pmC _ _ _ _ _ _ [i,i] [i] h2) rfl (h2:= ?_)|refine gx ?_|fail)
   exact ⟨_,_,rfl,by rw [e1,h1,h2];rfl,rfl⟩
  ·repeat' (first|refine c0 (pmS _ _ _ _ _ _ [i,j] [i,j] h1) rfl (h2:= ?_)|refine c0 (pmC _ _ _ _ _ _ [i,j] [i,j] h2) rfl (h2:= ?_)|refine gx ?_|fail)
   exact ⟨_,_,rfl,by rw [e1,h1,h2];rfl,rfl⟩
  ·repeat' (first|refine c0 (pmS _ _ _ _ _ _ [i,j] [j,i] h1) rfl (h2:= ?_)|refine c0 (pmC _ _ _ _ _ _ [j,i] [j,i] h2) rfl (h2:= ?_)|refine gx ?_|fail)
   exact ⟨_,_,rfl,by rw [e1,h1,h2];rfl,rfl⟩
 ·have e1:srcL v (ss.map (·.1))=[i]:=by unfold srcL;rw [hi,hj];simp only [Bool.not_eq_false'] at g2;rw [g2];rfl
  repeat' (first|refine c0 (pmS _ _ _ _ _ _ [i] [i] rfl) rfl (h2:= ?_)|refine c0 (pmC _ _ _ _ _ _ [i] [i] rfl) rfl (h2:= ?_)|refine gx ?_|fail)
  exact ⟨_,_,rfl,by rw [e1];rfl,rfl⟩
end Go.Proofs.YtkmclibmmlgogaaGreat
namespace Go.Proofs.YtkmclibmmlgogaaGreat
open Go.Abs Go.Abs.S
attribute [local irreducible] Rx Ry Rn Ex Pf
def sns (c:Cat):List Str:=(stors c (Cat.ns c)).map (·.1)
def srcC (c:Cat)(n:Int):List Int:=if ltB n c.tabs.length then [] else srcL (nth c.views (n - c.tabs.length).toNat) (sns c)
theorem pm45 (c:Cat)(ds:List Str)(n:Int)(hn2:n<(Cat.ns c))(hvl:c.views.length≤1000):Pm A 45 [.ptr 4 0,.d (num n)] (HH c ds (stors c (Cat.ns c))) lR (.d (ints (srcC c n))) (HH c ds (stors c (Cat.ns c))):=by
 unfold srcC
 cases h:ltB n c.tabs.length with
 |true=>exact pm45t c ds _ n (ltB_t h)
 |false=>exact pm45v c ds _ n (by have:=ltB_f h;omega) hn2 hvl
theorem pf19f (c:Cat)(hs:Small2 c)(n:Int)(h:isSto c n=false):Pf A 19 [cat c,.d (num n)] (.own 1 0 []):=by
 obtain ⟨v,H1,hp,hpm⟩:=pq29c c hs
 have hle:=chk_le hp
 obtain ⟨_,hp1,hp2⟩:=hp
 refine Pf.run [cat c,.d (num n),.any,.any,.any,.any] rfl rfl rfl rfl ?_
 cases e:eqB (checkC c).2 0 with
 |false =>
  obtain rfl:=hp1 e
  repeat' (first|refine cp hpm hle ?_|refine gx ?_|fail)
  first|refine Ex.testB (true) (Rn.text ?_) (fun h1=> ?_) (fun h1=> ?_)|refine Ex.testB (true) (Rn.draw ?_) (fun h1=> ?_) (fun h1=> ?_)
  ·repeat' (first|refine cl (e) ?_|refine gx ?_|refine fk (h1:=fun hw=> ?_) (h2:=fun hw=> ?_)|refine fpk (h1:=fun hw=> ?_) (h2:=fun hw=> ?_)|refine ⟨rfl,rfl,_,rfl,?_⟩|refine ⟨rfl,rfl⟩|fail)
   all_goals first|(simp [*,oneOrTuple];done)|(simp_all [oneOrTuple];done)|(simp_all [oneOrTuple,ltB_eq,leB_eq,eqB_eq,seB_eq];done)|(simp_all [oneOrTuple,ltB_eq,leB_eq,eqB_eq,seB_eq]<;>omega)
  ·repeat' (first|refine gx ?_|fail)
   exact ⟨_,rfl,rfl⟩
  ·cases h1
 |true =>
  obtain ⟨rfl,rfl⟩:=hp2 e
  have p38:=pm38 c c.names (stors c (Cat.ns c)) n
  rw [stors_len] at p38
  have h2:(leB 0 n&&ltB n (Cat.ns c))=false:=by unfold isSto validC at h;rw [e] at h;exact h
  rw [h2] at p38
  repeat' (first|refine cp hpm hle ?_|refine gx ?_|fail)
  first|refine Ex.testB (true) (Rn.text ?_) (fun h1=> ?_) (fun h1=> ?_)|refine Ex.testB (true) (Rn.draw ?_) (fun h1=> ?_) (fun h1=> ?_)
  ·repeat' (first|refine ck p38 ?_|refine gx ?_|refine fk (h1:=fun hw=> ?_) (h2:=fun hw=> ?_)|refine fpk (h1:=fun hw=> ?_) (h2:=fun hw=> ?_)|refine ⟨rfl,rfl,_,rfl,?_⟩|refine ⟨rfl,rfl⟩|fail)
   all_goals first|(simp [*,oneOrTuple];done)|(simp_all [oneOrTuple];done)|(simp_all [oneOrTuple,ltB_eq,leB_eq,eqB_eq,seB_eq];done)|(simp_all [oneOrTuple,ltB_eq,leB_eq,eqB_eq,seB_eq]<;>omega)
  ·repeat' (first|refine gx ?_|fail)
   exact ⟨_,rfl,rfl⟩
  ·cases h1
theorem pf19t (c:Cat)(hs:Small2 c)(n:Int)(h:isSto c n=true):Pf A 19 [cat c,.d (num n)] (.d (ints (srcC c n))):=by
 obtain ⟨v,H1,hp,hpm⟩:=pq29c c hs
 have hle:=chk_le hp
 obtain ⟨_,hp1,hp2⟩:=hp
 obtain ⟨e,h2,h3⟩:=isSto_t h
 obtain ⟨rfl,rfl⟩:=hp2 e
 have h4:=sto_at c h3
 have h6:=stors_len c (Cat.ns c)
 have p38:=pm38 c c.names (stors c (Cat.ns c)) n
 rw [stors_len,h2] at p38
 refine Pf.run [cat c,.d (num n),.any,.any,.any,.any] rfl rfl rfl rfl ?_
 repeat' (first|refine cp hpm hle ?_|refine gx ?_|fail)
 have p45:=pm45 c c.names n h3.2 hs.sm.few.2.1
 first|refine Ex.testB (false) (Rn.text ?_) (fun h1=> ?_) (fun h1=> ?_)|refine Ex.testB (false) (Rn.draw ?_) (fun h1=> ?_) (fun h1=> ?_)
 ·repeat' (first|refine ck p38 ?_|refine gx ?_|refine fk (h1:=fun hw=> ?_) (h2:=fun hw=> ?_)|refine fpk (h1:=fun hw=> ?_) (h2:=fun hw=> ?_)|refine ⟨rfl,rfl,_,rfl,?_⟩|refine ⟨rfl,rfl⟩|fail)
  all_goals first|(simp [*,oneOrTuple];done)|(simp_all [oneOrTuple];done)|(simp_all [oneOrTuple,ltB_eq,leB_eq,eqB_eq,seB_eq];done)|(simp_all [oneOrTuple,ltB_eq,leB_eq,eqB_eq,seB_eq]<;>omega)
 ·cases h1
 repeat' (first|refine ck p45 ?_|refine gx ?_|fail)
 exact ⟨_,rfl,rfl⟩
end Go.Proofs.YtkmclibmmlgogaaGreat
namespace Go.Proofs.YtkmclibmmlgogaaGreat.Two
open Go.Abs Go.Abs.S
attribute [local irreducible] Rx Ry Rn Ex Pf
variable [Inhabited XO]
theorem HHr_take (c:Cat)(ds:List Str)(ss:List Sto)(R:Heap):(HH c ds ss++R).take 6=HH c ds ss:=rfl
theorem ck {b:Nat}{dr:Bool}{ais ops:List AIns}{T:List AVal}{n:Nat}{rl:List AVal}{tch:List Abs.Touch}{Q:List AVal→Heap→List AVal→Prop}{c:Cat}{ds:List Str}{ss:List Sto}{R:Heap}{f:FuncId}{xs:List Opd}{u:List Nat}{v:AVal}{args:List AVal}(hc:Pm A f args (HH c ds ss) lR v (HH c ds ss))(h2:Ry A lim0 b dr ais ops T (HH c ds ss++R) (n+1) (v::rl) tch Q)
  (ha:xs.map (rq T n rl)=args:=by rfl) (hb:bndL args=6:=by rfl) (hpr:A.prom f=false:=by rfl) (hm:A.mode f=1:=by rfl):Ry A lim0 b dr ais (⟨.call f xs,none,none,u⟩::ops) T (HH c ds ss++R) n rl tch Q:=by
 have hb5:=HH_bnd c ds ss
 have hd5:=HH_disc c ds ss
 refine c1 hc rfl h2 (m:=6) ?_ ?_ rfl rfl ?_ ha hpr hm
 ·show bndO (HH c ds ss)≤6
  exact hb5
 ·rw [hb]
  exact closeN_of (by show bndO (HH c ds ss)≤6;exact hb5)
 ·show Lim.mk 0 6 6 (strictOf _ 0 6)=lR
  rw [strict5 (by show discFrom (HH c ds ss) 0=true;exact hd5)]
  rfl
end Go.Proofs.YtkmclibmmlgogaaGreat.Two
namespace Go.Proofs.YtkmclibmmlgogaaGreat.Two
open Go.Abs Go.Abs.S
attribute [local irreducible] Rx Ry Rn Ex Pf
variable [Inhabited XO]
theorem pm45t (c:Cat)(ds:List Str)(ss:List Sto)(n:Int)(hn:n<c.tabs.length):Pm A 45 [.ptr 5 0,.d (num n)] (HH c ds ss) lR (.d (ints [])) (HH c ds ss):=by
 suffices h:Pq A 45 [.ptr 5 0,.d (num n)] (HH c ds ss) lR fun w H1=>w= .d (ints [])∧H1=HH c ds ss by
  obtain ⟨w,H1,⟨rfl,rfl⟩,h⟩:=h;exact h
 unfold HH at *
 refine Pq.run (b:=6) [.ptr 5 0,.d (num n),.any,.any,.any] rfl rfl rfl rfl rfl ?_
 repeat' (first|refine mn (h2:= ?_)|refine gx ?_|fail)
 refine tb (ltB n c.tabs.length) (fun g1=> ?_) (fun g1=> ?_)
 ·repeat' (first|refine mn (h2:= ?_)|refine gx ?_|fail)
  exact ⟨_,_,rfl,rfl,rfl⟩
 ·have:=ltB_f g1
  omega
def l57:Lim:=⟨0,6,8,8⟩
theorem pmS (a0 ax a1 a2 a3 a4 a5:AObj)(xs ys:List Int)(h:sortI xs=ys)(hb:Nat.ble xs.length 1000000=true:=by rfl):Pm A 42 [.sref 7 1 0 xs.length] [a0,ax,a1,a2,a3,a4,a5,.cells (xs.map iv)] l57 (.tuple []) [a0,ax,a1,a2,a3,a4,a5,.cells (ys.map iv)]:=by
 have _x:=(default:XO)
 subst h
 exact Pm.prim rfl (pSort_at rfl rfl rfl hb)
theorem pmC (a0 ax a1 a2 a3 a4 a5:AObj)(xs ys:List Int)(h:dedI xs=ys)(hb:Nat.ble xs.length 1000000=true:=by rfl):Pm A 43 [.sref 7 1 0 xs.length] [a0,ax,a1,a2,a3,a4,a5,.cells (xs.map iv)] l57 (.sref 7 1 0 ys.length) [a0,ax,a1,a2,a3,a4,a5,.cells ((ys++List.replicate (xs.length - ys.length) 0).map iv)]:=by
 have _x:=(default:XO)
 subst h
 exact Pm.prim rfl (pCompact_at rfl rfl rfl hb)
set_option maxHeartbeats 4000000 in
theorem pm45v (c:Cat)(ds:List Str)(ss:List Sto)(n:Int)(hn:c.tabs.length≤n)(hn2:n<(Cat.ns c))(hvl:c.views.length≤1000):Pm A 45 [.ptr 5 0,.d (num n)] (HH c ds ss) lR (.d (ints (srcL (nth c.views (n - c.tabs.length).toNat) (ss.map (·.1))))) (HH c ds ss):=by
 have hns:Cat.ns c=c.tabs.length+c.views.length:=rfl
 obtain ⟨v,hv⟩:∃ v,nth c.views (n - c.tabs.length).toNat=v:=⟨_,rfl⟩
 rw [hv]
 suffices h:Pq A 45 [.ptr 5 0,.d (num n)] (HH c ds ss) lR fun w H1=>w= .d (ints (srcL v (ss.map (·.1))))∧H1=HH c ds ss by
  obtain ⟨w,H1,⟨rfl,rfl⟩,h⟩:=h;exact h
 have pL:=pm61 c ds ss v.left
 have pR:=pm61 c ds ss v.right
 unfold HH at *
 refine Pq.run (b:=6) [.ptr 5 0,.d (num n),.any,.any,.any] rfl rfl rfl rfl rfl ?_
 repeat' (first|refine mn (h2:= ?_)|refine gx ?_|fail)
 refine tb (ltB n c.tabs.length) (fun g1=> ?_) (fun g1=> ?_)
 ·have:=ltB_t g1
  omega
 repeat' (first|refine gx ?_|fail)
 refine Ex.region (Rn.z 3 6 [.cells (c.enc.map .d),xo,.cells (c.enc.map .d),.map (dmap ds),.map (nmap (ss.map (·.1)) 0),.cells (c.enc.map .d++[.map 3,.map 4,ownL 2 encSt ss]),.dead] rfl rfl (by decide) rfl rfl ?_)
 refine zm ?_
 refine zp (rs:=[]) (.ptr 5 0) rfl ?_
 refine zp (rs:=[]) (.ptr 5 0) rfl ?_
 refine zp (rs:=[]) (.ptr 5 1) rfl ?_
 refine zp (rs:=[5]) (.d (encL Vw.enc c.views)) rfl ?_
 refine zm ?_
 refine zm ?_
 refine zp (rs:=[]) (.ptr 5 0) rfl ?_
 refine zp (rs:=[]) (.ptr 5 0) rfl ?_
 refine zp (rs:=[]) (.ptr 5 0) rfl ?_
 refine zp (rs:=[5]) (.d (encL Tab.enc c.tabs)) rfl ?_
 refine zp (rs:=[]) (.d (num c.tabs.length)) rfl ?_
 refine zsb (c:=n) (d:=c.tabs.length) (by omega) ?_
 refine zix (xs:=c.views) (enc:=Vw.enc) (e:=n - c.tabs.length) (by omega) ?_
 refine zle ?_
 rw [hv]
 refine za (h2:= ?_)
 refine zs (h2:= ?_)
 refine zn ?_
 repeat' (first|refine c1 pL rfl ?_|refine bso [iv (idxS v.left (ss.map (·.1)) 0)] rfl ⟨by decide,rfl⟩ (h2:= ?_)|refine gx ?_|fail)
 obtain ⟨i,hi⟩:∃ i,idxS v.left (ss.map (·.1)) 0=i:=⟨_,rfl⟩
 obtain ⟨j,hj⟩:∃ j,idxS v.right (ss.map (·.1)) 0=j:=⟨_,rfl⟩
 rw [hi] at pL ⊢
 rw [hj] at pR
 refine tb (!seB v.right []) (fun g2=> ?_) (fun g2=> ?_)
 ·repeat' (first|refine c1 pR rfl ?_|refine bso [iv j] rfl ⟨by decide,rfl⟩ (h2:= ?_)|refine apo (m:=1) (len:=1) (k2:=2) (old:=[iv i]) (cs:=[iv j]) (T2:=[.ptr 5 0,.d (num n),.d (.slice 0 []),.ptr 6 0,.any]) (rl2:=[.sref 8 1 0 1,.d (num j),.d (.str v.right),.ptr 6 3,.ptr 5 0,.any]) (H2:=[.cells (c.enc.map .d),xo,.cells (c.enc.map .d),.map (dmap ds),.map (nmap (ss.map (·.1)) 0),.cells (c.enc.map .d++[.map 3,.map 4,ownL 2 encSt ss]),.cells (v.enc.map .d),.cells [iv i,iv j],.cells [iv j]]) rfl rfl rfl rfl rfl (h2:= ?_)|refine gx ?_|fail)
  have e1:srcL v (ss.map (·.1))=dedI (sortI [i,j]):=by unfold srcL;rw [hi,hj];simp only [Bool.not_eq_true'] at g2;rw [g2];rfl
  rcases sort2 i j with ⟨h1,h2⟩|⟨h1,h2⟩|⟨h1,h2⟩
  ·repeat' (first|refine c0 (pmS _ _ _ _ _ _ _ [i,j] [i,i] h1) rfl (h2:= ?_)|refine c0 (pmC _ _ _ _ _ _ _ [i,i] [i] h2) rfl (h2:= ?_)|refine gx ?_|fail)
   exact ⟨_,_,rfl,by rw [e1,h1,h2];rfl,rfl⟩
  ·repeat' (first|refine c0 (pmS _ _ _ _ _ _ _ [i,j] [i,j] h1) rfl (h2:= ?_)|refine c0 (pmC _ _ _ _ _ _ _ [i,j] [i,j] h2) rfl (h2:= ?_)|refine gx ?_|fail)
   exact ⟨_,_,rfl,by rw [e1,h1,h2];rfl,rfl⟩
  ·repeat' (first|refine c0 (pmS _ _ _ _ _ _ _ [i,j] [j,i] h1) rfl (h2:= ?_)|refine c0 (pmC _ _ _ _ _ _ _ [j,i] [j,i] h2) rfl (h2:= ?_)|refine gx ?_|fail)
   exact ⟨_,_,rfl,by rw [e1,h1,h2];rfl,rfl⟩
 ·have e1:srcL v (ss.map (·.1))=[i]:=by unfold srcL;rw [hi,hj];simp only [Bool.not_eq_false'] at g2;rw [g2];rfl
  repeat' (first|refine c0 (pmS _ _ _ _ _ _ _ [i] [i] rfl) rfl (h2:= ?_)|refine c0 (pmC _ _ _ _ _ _ _ [i] [i] rfl) rfl (h2:= ?_)|refine gx ?_|fail)
  exact ⟨_,_,rfl,by rw [e1];rfl,rfl⟩
end Go.Proofs.YtkmclibmmlgogaaGreat.Two
namespace Go.Proofs.YtkmclibmmlgogaaGreat.Two
open Go.Abs Go.Abs.S
attribute [local irreducible] Rx Ry Rn Ex Pf
variable [Inhabited XO]
theorem pm45 (c:Cat)(ds:List Str)(n:Int)(hn2:n<(Cat.ns c))(hvl:c.views.length≤1000):Pm A 45 [.ptr 5 0,.d (num n)] (HH c ds (stors c (Cat.ns c))) lR (.d (ints (srcC c n))) (HH c ds (stors c (Cat.ns c))):=by
 unfold srcC
 cases h:ltB n c.tabs.length with
 |true=>exact pm45t c ds _ n (ltB_t h)
 |false=>exact pm45v c ds _ n (by have:=ltB_f h;omega) hn2 hvl
end Go.Proofs.YtkmclibmmlgogaaGreat.Two
namespace Go.Proofs.YtkmclibmmlgogaaGreat
open Go.Abs Go.Abs.S
attribute [local irreducible] Rx Ry Rn Ex Pf
def fndC (c:Cat)(s:Str):Int:=if validC c then idxS s (sns c) 0 else -1
theorem pf25 (c:Cat)(hs:Small2 c)(s:Str):Pf A 25 [cat c,.d (.str s)] (.d (num (fndC c s))):=by
 letI:Inhabited Two.XO:=⟨⟨0⟩⟩
 obtain ⟨v,H1,hp,hpm⟩:=Two.pq29c c hs
 have hle:=Two.chk_le hp
 obtain ⟨⟨R,hR⟩,hp1,hp2⟩:=hp
 refine Pf.run [cat c,.d (.str s),.any,.any,.any,.any] rfl rfl rfl rfl ?_
 cases e:eqB (checkC c).2 0 with
 |false =>
  obtain rfl:=hp1 e
  subst hR
  repeat' (first|refine dfl ?_|refine cp hpm hle ?_|refine gx ?_|fail)
  first|refine Ex.testB (true) (Rn.text ?_) (fun h1=> ?_) (fun h1=> ?_)|refine Ex.testB (true) (Rn.draw ?_) (fun h1=> ?_) (fun h1=> ?_)
  ·repeat' (first|refine cl (e) ?_|refine gx ?_|refine fk (h1:=fun hw=> ?_) (h2:=fun hw=> ?_)|refine fpk (h1:=fun hw=> ?_) (h2:=fun hw=> ?_)|refine ⟨rfl,rfl,_,rfl,?_⟩|refine ⟨rfl,rfl⟩|fail)
   all_goals first|(simp [*,oneOrTuple];done)|(simp_all [oneOrTuple];done)|(simp_all [oneOrTuple,ltB_eq,leB_eq,eqB_eq,seB_eq];done)|(simp_all [oneOrTuple,ltB_eq,leB_eq,eqB_eq,seB_eq]<;>omega)
  ·repeat' (first|refine gx ?_|fail)
   exact ⟨_,rfl,by unfold fndC validC;rw [e];rfl⟩
  ·cases h1
 |true =>
  obtain ⟨rfl,hH⟩:=hp2 e
  have p61:=Two.pm61 c c.names (stors c (Cat.ns c)) s
  subst hH
  repeat' (first|refine dfl ?_|refine cp hpm hle ?_|refine gx ?_|fail)
  first|refine Ex.testB (false) (Rn.text ?_) (fun h1=> ?_) (fun h1=> ?_)|refine Ex.testB (false) (Rn.draw ?_) (fun h1=> ?_) (fun h1=> ?_)
  ·repeat' (first|refine cl (e) ?_|refine gx ?_|refine fk (h1:=fun hw=> ?_) (h2:=fun hw=> ?_)|refine fpk (h1:=fun hw=> ?_) (h2:=fun hw=> ?_)|refine ⟨rfl,rfl,_,rfl,?_⟩|refine ⟨rfl,rfl⟩|fail)
   all_goals first|(simp [*,oneOrTuple];done)|(simp_all [oneOrTuple];done)|(simp_all [oneOrTuple,ltB_eq,leB_eq,eqB_eq,seB_eq];done)|(simp_all [oneOrTuple,ltB_eq,leB_eq,eqB_eq,seB_eq]<;>omega)
  ·cases h1
  repeat' (first|refine Two.ck p61 ?_|refine gx ?_|fail)
  exact ⟨_,rfl,by unfold fndC validC;rw [e];rfl⟩
end Go.Proofs.YtkmclibmmlgogaaGreat

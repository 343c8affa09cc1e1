/-
  Personal, of the program and of the reference.; Lists of numbers: sorted, each once.; The program's Fixed.; The program's Fixed, walked.; The reference's Fixed.
  (Put together by a small program out of several texts; blanks left out to keep the folder small.)
-/
import Derived.Test.YtkmclibmmlgogaaGreatX2
import Derived.Test.YtkmclibmmlgogaaGreatB6
set_option linter.unusedVariables false
set_option linter.unusedSimpArgs false
namespace Go.Proofs.YtkmclibmmlgogaaGreat
open Go.Abs Go.Abs.S
attribute [local irreducible] Rx Ry Rn Ex Pf
theorem isTabn_eq (c:Cat)(n:Int):isTab c n=(!(ltB n 0||leB c.tabs.length n|| !validC c)):=by
 unfold isTab isSto Cat.ns
 rw [Bool.eq_iff_iff]
 simp only [Bool.and_eq_true,Bool.not_eq_true',Bool.or_eq_false_iff,leB_eq,ltB_eq,decide_eq_true_eq,decide_eq_false_iff_not,Bool.not_eq_false']
 constructor
 ·rintro ⟨⟨h1,h2,h3⟩,h4⟩;exact ⟨⟨by omega,by omega⟩,h1⟩
 ·rintro ⟨⟨h2,h3⟩,h1⟩;exact ⟨⟨h1,by omega,by omega⟩,by omega⟩
theorem isTab_t {c:Cat}{n:Int}(h:isTab c n=true):isSto c n=true∧0≤n∧n<c.tabs.length:=by
 unfold isTab at h
 rw [Bool.and_eq_true] at h
 have h1:=(isSto_t h.1).2.2
 exact ⟨h.1,h1.1,ltB_t h.2⟩
def perU (cols:List Col):Nat→List Int
 |0=>[]
 |k+1=>perU cols k++(if ltB 0 (nth cols k).owners.length then [(k:Int)] else [])
theorem perU_f {cols:List Col}{k:Nat}(h:ltB 0 (nth cols k).owners.length=false):perU cols (k+1)=perU cols k:=by
 simp only [perU]
 rw [h]
 simp
theorem perU_t {cols:List Col}{k:Nat}(h:ltB 0 (nth cols k).owners.length=true):perU cols (k+1)=perU cols k++[(k:Int)]:=by
 simp only [perU]
 rw [h]
 simp
theorem perU_len (cols:List Col):∀ k,(perU cols k).length≤k
 |0=>Nat.le_refl _
 |k+1=>by
  have:=perU_len cols k
  simp only [perU]
  split<;>simp<;>omega
def perC (c:Cat)(n:Int):List Int:=perU (nth c.tabs n.toNat).cols (nth c.tabs n.toNat).cols.length
theorem pf16f (c:Cat)(hs:Small2 c)(n:Int)(h:isTab c n=false):Pf A 16 [cat c,.d (num n)] (.own 1 0 []):=by
 have p10:=pf10 c hs
 have e:(ltB n 0||leB c.tabs.length n|| !validC c)=true:=by
  have e:=congrArg (!·) (isTabn_eq c n)
  rw [h] at e
  simp only [Bool.not_not,Bool.not_false] at e
  exact e.symm
 refine Pf.run [cat c,.d (num n),.any,.any,.any,.any,.any,.any,.any,.any] rfl rfl rfl rfl ?_
 repeat' (first|refine gx ?_|fail)
 first|refine Ex.testB (ltB n 0||leB c.tabs.length n|| !validC c) (Rn.text ?_) (fun h1=> ?_) (fun h1=> ?_)|refine Ex.testB (ltB n 0||leB c.tabs.length n|| !validC c) (Rn.draw ?_) (fun h1=> ?_) (fun h1=> ?_)
 ·repeat' (first|refine cl (p10) ?_|refine gx ?_|refine fk (h1:=fun hw=> ?_) (h2:=fun hw=> ?_)|refine fpk (h1:=fun hw=> ?_) (h2:=fun hw=> ?_)|refine ⟨rfl,rfl,_,rfl,?_⟩|refine ⟨rfl,rfl⟩|fail)
  all_goals first|(simp [*,oneOrTuple];done)|(simp_all [oneOrTuple];done)|(simp_all [oneOrTuple,ltB_eq,leB_eq,eqB_eq,seB_eq];done)|(simp_all [oneOrTuple,ltB_eq,leB_eq,eqB_eq,seB_eq]<;>omega)
 ·repeat' (first|refine gx ?_|fail)
  exact ⟨_,rfl,rfl⟩
 ·rw [e] at h1;cases h1
set_option maxHeartbeats 8000000 in
theorem pf16t (c:Cat)(hs:Small2 c)(n:Nat)(h:isTab c n=true):Pf A 16 [cat c,.d (num n)] (.d (ints (perC c n))):=by
 have p10:=pf10 c hs
 have e:(ltB n 0||leB c.tabs.length n|| !validC c)=false:=by
  have e:=congrArg (!·) (isTabn_eq c n)
  rw [h] at e
  simp only [Bool.not_not,Bool.not_true] at e
  exact e.symm
 have h3:=isTab_t h
 have hcl:=hs.sm.cols n (by omega)
 obtain ⟨t,ht⟩:∃ t,nth c.tabs n=t:=⟨_,rfl⟩
 have e9:perC c n=perU t.cols t.cols.length:=by unfold perC;rw [Int.toNat_natCast,ht]
 rw [ht] at hcl
 rw [e9]
 refine Pf.run [cat c,.d (num n),.any,.any,.any,.any,.any,.any,.any,.any] rfl rfl rfl rfl ?_
 repeat' (first|refine gx ?_|fail)
 first|refine Ex.testB (ltB n 0||leB c.tabs.length n|| !validC c) (Rn.text ?_) (fun h1=> ?_) (fun h1=> ?_)|refine Ex.testB (ltB n 0||leB c.tabs.length n|| !validC c) (Rn.draw ?_) (fun h1=> ?_) (fun h1=> ?_)
 ·repeat' (first|refine cl (p10) ?_|refine gx ?_|refine fk (h1:=fun hw=> ?_) (h2:=fun hw=> ?_)|refine fpk (h1:=fun hw=> ?_) (h2:=fun hw=> ?_)|refine ⟨rfl,rfl,_,rfl,?_⟩|refine ⟨rfl,rfl⟩|fail)
  all_goals first|(simp [*,oneOrTuple];done)|(simp_all [oneOrTuple];done)|(simp_all [oneOrTuple,ltB_eq,leB_eq,eqB_eq,seB_eq];done)|(simp_all [oneOrTuple,ltB_eq,leB_eq,eqB_eq,seB_eq]<;>omega)
 ·rw [e] at h1;cases h1
 repeat' (first|refine gx ?_|fail)
 rw [ht]
 repeat' (first|refine gx ?_|fail)
 refine Ex.loopC (fun q T H=>∃ (k:Nat),T=[.any,.any,.any,.any,ownL 1 (fun n=>[num n]) (perU t.cols k),.any,.any,.d (encL Col.enc t.cols),.d (num t.cols.length),.d (num k)]∧H=[.cells (c.enc.map .d)]∧k+q=t.cols.length) ?_ (k:=t.cols.length) ⟨0,rfl,rfl,by simp⟩
 rintro q _ _ ⟨k,rfl,rfl,hq⟩
 have hpl:=perU_len t.cols k
 refine Ex.seq ?_
 refine tb (ltB k t.cols.length) (fun g1=> ?_) (fun g1=> ?_)
 ·have g2:=ltB_t g1
  repeat' (first|refine gx ?_|fail)
  refine tb (ltB 0 (nth t.cols k).owners.length) (fun g3=> ?_) (fun g3=> ?_)
  ·repeat' (first|refine gx ?_|fail)
   exact ⟨q - 1,by omega,_,_,rfl,k+1,by rw [perU_t g3];rfl,rfl,by omega⟩
  ·repeat' (first|refine gx ?_|fail)
   exact ⟨q - 1,by omega,_,_,rfl,k+1,by rw [perU_f g3];rfl,rfl,by omega⟩
 ·have g2:=ltB_f g1
  obtain rfl:k=t.cols.length:=by omega
  repeat' (first|refine gx ?_|fail)
  exact ⟨_,rfl,rfl⟩
theorem pf57f (c:Cat)(hs:Small2 c)(n:Int)(h:isTab c n=false):Pf A 57 [cat c,.d (num n)] (.d (ints [])):=by
 have p90:=pf90 c hs n
 rw [h] at p90
 refine Pf.run [cat c,.d (num n),.any,.any,.any,.any] rfl rfl rfl rfl ?_
 repeat' (first|refine gx ?_|fail)
 refine Ex.loopS (fun q T H=>∃ (w0 w3:AVal),T=[w0,.d (num n),.ptr 0 0,w3,.own 1 0 [],.d (num 0)]∧H=[.cells (c.enc.map .d)]) (by rintro _ _ _ ⟨_,_,_,rfl⟩;rfl) ?_ (k:=0) ⟨_,_,rfl,rfl⟩
 rintro q _ _ ⟨w0,w3,rfl,rfl⟩
 refine Ex.nT ?_
 refine Ex.seq ?_
 first|refine Ex.testB (false) (Rn.text ?_) (fun g1=> ?_) (fun g1=> ?_)|refine Ex.testB (false) (Rn.draw ?_) (fun g1=> ?_) (fun g1=> ?_)
 ·repeat' (first|refine cl (p90) ?_|refine gx ?_|refine fk (h1:=fun hw=> ?_) (h2:=fun hw=> ?_)|refine fpk (h1:=fun hw=> ?_) (h2:=fun hw=> ?_)|refine ⟨rfl,rfl,_,rfl,?_⟩|refine ⟨rfl,rfl⟩|fail)
  all_goals first|(simp [*,oneOrTuple];done)|(simp_all [oneOrTuple];done)|(simp_all [oneOrTuple,ltB_eq,leB_eq,eqB_eq,seB_eq];done)|(simp_all [oneOrTuple,ltB_eq,leB_eq,eqB_eq,seB_eq]<;>omega)
 ·cases g1
 repeat' (first|refine gx ?_|fail)
 exact ⟨_,rfl,rfl⟩
set_option maxHeartbeats 8000000 in
theorem pf57t (c:Cat)(hs:Small2 c)(n:Nat)(h:isTab c n=true):Pf A 57 [cat c,.d (num n)] (.d (ints (perC c n))):=by
 have p90:=pf90 c hs n
 rw [h] at p90
 have h3:=isTab_t h
 have hcl:=hs.sm.cols n (by omega)
 have e9:perC c n=perU (nth c.tabs n).cols (nth c.tabs n).cols.length:=by unfold perC;rw [Int.toNat_natCast]
 rw [e9]
 refine Pf.run [cat c,.d (num n),.any,.any,.any,.any] rfl rfl rfl rfl ?_
 repeat' (first|refine gx ?_|fail)
 refine Ex.loopS (fun q T H=>∃ (k:Nat) (w0 w3:AVal),T=[w0,.d (num n),.ptr 0 0,w3,ownL 1 (fun n=>[num n]) (perU (nth c.tabs n).cols k),.d (num k)]∧H=[.cells (c.enc.map .d)]∧k+q=(nth c.tabs n).cols.length) (by rintro _ _ _ ⟨_,_,_,_,rfl,_⟩;rfl) ?_ (k:=(nth c.tabs n).cols.length) ⟨0,_,_,rfl,rfl,by simp⟩
 rintro q _ _ ⟨k,w0,w3,rfl,rfl,hq⟩
 have hpl:=perU_len (nth c.tabs n).cols k
 refine Ex.nT ?_
 refine Ex.seq ?_
 first|refine Ex.testB (ltB k (nth c.tabs n).cols.length) (Rn.text ?_) (fun g1=> ?_) (fun g1=> ?_)|refine Ex.testB (ltB k (nth c.tabs n).cols.length) (Rn.draw ?_) (fun g1=> ?_) (fun g1=> ?_)
 ·repeat' (first|refine cl (p90) ?_|refine gx ?_|refine fk (h1:=fun hw=> ?_) (h2:=fun hw=> ?_)|refine fpk (h1:=fun hw=> ?_) (h2:=fun hw=> ?_)|refine ⟨rfl,rfl,_,rfl,?_⟩|refine ⟨rfl,rfl⟩|fail)
  all_goals first|(simp [*,oneOrTuple];done)|(simp_all [oneOrTuple];done)|(simp_all [oneOrTuple,ltB_eq,leB_eq,eqB_eq,seB_eq];done)|(simp_all [oneOrTuple,ltB_eq,leB_eq,eqB_eq,seB_eq]<;>omega)
 ·have g2:=ltB_t g1
  repeat' (first|refine gx ?_|fail)
  refine tb (ltB 0 (nth (nth c.tabs n).cols k).owners.length) (fun g3=> ?_) (fun g3=> ?_)
  ·repeat' (first|refine gx ?_|fail)
   exact ⟨q - 1,by omega,k+1,_,_,by rw [perU_t g3];rfl,rfl,by omega⟩
  ·repeat' (first|refine gx ?_|fail)
   exact ⟨q - 1,by omega,k+1,_,_,by rw [perU_f g3];rfl,rfl,by omega⟩
 ·have g2:=ltB_f g1
  obtain rfl:k=(nth c.tabs n).cols.length:=by omega
  repeat' (first|refine gx ?_|fail)
  exact ⟨_,rfl,rfl⟩
end Go.Proofs.YtkmclibmmlgogaaGreat
namespace Go.Proofs.YtkmclibmmlgogaaGreat
open Go.Abs Go.Abs.S
theorem asc_ext:∀ {l m:List Int},l.Pairwise (·<·)→m.Pairwise (·<·)→(∀ s,s ∈ l↔s ∈ m)→l=m
 |[],[],_,_,_=>rfl
 |[],y::m,_,_,h=>absurd ((h y).2 (by simp)) (by simp)
 |x::l,[],_,_,h=>absurd ((h x).1 (by simp)) (by simp)
 |x::l,y::m,h1,h2,h=>by
  obtain ⟨a1,b1⟩:=List.pairwise_cons.1 h1
  obtain ⟨a2,b2⟩:=List.pairwise_cons.1 h2
  have hx:=(h x).1 (by simp)
  have hy:=(h y).2 (by simp)
  have e:x=y:=by
   simp only [List.mem_cons] at hx hy
   rcases hx with hx|hx
   ·exact hx
   ·rcases hy with hy|hy
    ·exact hy.symm
    ·have:=a1 y hy
     have:=a2 x hx
     omega
  subst e
  congr 1
  refine asc_ext b1 b2 fun s=>⟨fun hs=> ?_,fun hs=> ?_⟩
  ·have:=a1 s hs
   have h3:=(h s).1 (by simp [hs])
   simp only [List.mem_cons] at h3
   rcases h3 with h3|h3
   ·omega
   ·exact h3
  ·have:=a2 s hs
   have h3:=(h s).2 (by simp [hs])
   simp only [List.mem_cons] at h3
   rcases h3 with h3|h3
   ·omega
   ·exact h3
theorem mem_insI (x s:Int):∀ l:List Int,s ∈ insI x l↔s=x∨s ∈ l
 |[]=>by simp [insI]
 |y::l=>by
  simp only [insI]
  split
  ·simp
  ·simp only [List.mem_cons,mem_insI x s l]
   exact or_left_comm
theorem mem_sortI (s:Int):∀ l:List Int,s ∈ sortI l↔s ∈ l
 |[]=>by simp [sortI]
 |x::l=>by simp only [sortI,mem_insI,mem_sortI s l,List.mem_cons]
theorem sor_insI (x:Int):∀ l:List Int,l.Pairwise (·≤·)→(insI x l).Pairwise (·≤·)
 |[],_=>by simp [insI]
 |y::l,h=>by
  obtain ⟨a,b⟩:=List.pairwise_cons.1 h
  simp only [insI]
  split
  ·rename_i hx
   refine List.pairwise_cons.2 ⟨fun s hs=> ?_,h⟩
   simp only [List.mem_cons] at hs
   rcases hs with rfl|hs
   ·exact hx
   ·have:=a s hs;omega
  ·rename_i hx
   refine List.pairwise_cons.2 ⟨fun s hs=> ?_,sor_insI x l b⟩
   rw [mem_insI] at hs
   rcases hs with rfl|hs
   ·omega
   ·exact a s hs
theorem sor_sortI:∀ l:List Int,(sortI l).Pairwise (·≤·)
 |[]=>by simp [sortI]
 |x::l=>sor_insI x _ (sor_sortI l)
theorem mem_dedI (s:Int):∀ l:List Int,s ∈ dedI l↔s ∈ l
 |[]=>by simp [dedI]
 |[x]=>by simp [dedI]
 |x::y::l=>by
  have ih:=mem_dedI s (y::l)
  simp only [dedI]
  split
  ·rename_i h
   subst h
   rw [ih]
   simp
  ·simp only [List.mem_cons] at ih ⊢
   rw [ih]
theorem asc_dedI:∀ l:List Int,l.Pairwise (·≤·)→(dedI l).Pairwise (·<·)
 |[],_=>by simp [dedI]
 |[x],_=>by simp [dedI]
 |x::y::l,h=>by
  obtain ⟨a,b⟩:=List.pairwise_cons.1 h
  have ih:=asc_dedI (y::l) b
  simp only [dedI]
  split
  ·exact ih
  ·rename_i hx
   refine List.pairwise_cons.2 ⟨fun s hs=> ?_,ih⟩
   rw [mem_dedI] at hs
   have h1:=a y (by simp)
   simp only [List.mem_cons] at hs
   rcases hs with rfl|hs
   ·omega
   ·have:=(List.pairwise_cons.1 b).1 s hs
    omega
theorem mem_addI (x s:Int):∀ l:List Int,s ∈ addI l x↔s=x∨s ∈ l
 |[]=>by simp [addI]
 |y::l=>by
  have ih:=mem_addI x s l
  simp only [addI]
  split
  ·simp only [List.mem_cons,ih]
   exact or_left_comm
  ·split
   ·rename_i h
    subst h
    simp
   ·simp
theorem asc_addI (x:Int):∀ l:List Int,l.Pairwise (·<·)→(addI l x).Pairwise (·<·)
 |[],_=>by simp [addI]
 |y::l,h=>by
  obtain ⟨a,b⟩:=List.pairwise_cons.1 h
  simp only [addI]
  split
  ·rename_i hx
   refine List.pairwise_cons.2 ⟨fun s hs=> ?_,asc_addI x l b⟩
   rw [mem_addI] at hs
   rcases hs with rfl|hs
   ·exact hx
   ·exact a s hs
  ·split
   ·exact h
   ·refine List.pairwise_cons.2 ⟨fun s hs=> ?_,h⟩
    simp only [List.mem_cons] at hs
    rcases hs with rfl|hs
    ·omega
    ·have:=a s hs;omega
theorem add_all:∀ (xs l:List Int),l.Pairwise (·<·)→(xs.foldl addI l).Pairwise (·<·)∧∀ s,s ∈ xs.foldl addI l↔s ∈ l∨s ∈ xs
 |[],l,h=>⟨h,fun s=>by simp⟩
 |x::xs,l,h=>by
  obtain ⟨h1,h2⟩:=add_all xs (addI l x) (asc_addI x l h)
  refine ⟨h1,fun s=> ?_⟩
  simp only [List.foldl_cons,h2,mem_addI,List.mem_cons]
  constructor
  ·rintro ((h|h)|h)<;>simp [h]
  ·rintro (h|h|h)<;>simp [h]
theorem fix_eq (x:Int)(xs:List Int):xs.foldl addI [x]=dedI (sortI (x::xs)):=by
 obtain ⟨h1,h2⟩:=add_all xs [x] (by simp)
 refine asc_ext h1 (asc_dedI _ (sor_sortI _)) fun s=> ?_
 rw [h2,mem_dedI,mem_sortI]
 simp
end Go.Proofs.YtkmclibmmlgogaaGreat
namespace Go.Proofs.YtkmclibmmlgogaaGreat
open Go.Abs Go.Abs.S
attribute [local irreducible] Rx Ry Rn Ex Pf
theorem bnd_iv:∀ xs:List Int,bndL (xs.map iv)=0
 |[]=>rfl
 |x::xs=>by simp [bndL,iv,AVal.bnd,bnd_iv xs]
theorem kill_iv (id:Nat):∀ xs:List Int,killL id (xs.map iv)=xs.map iv
 |[]=>rfl
 |x::xs=>by simp only [List.map_cons,killL,kill_iv id xs];rfl
theorem one_iv (xs:List Int):(xs.map iv).all AVal.one=true:=by
 simp only [List.all_map,List.all_eq_true]
 intro x _
 rfl
theorem fm_num:∀ xs:List Int,(xs.flatMap fun n=>[num n])=xs.map num
 |[]=>rfl
 |x::xs=>by simp [fm_num xs]
theorem sc_ints (H:Heap)(xs:List Int):sliceCells H 1 (.d (ints xs))=some (xs.length,xs.map iv):=by
 have h1:=fm_num xs
 simp only [sliceCells,ints,encL,h1]
 rw [if_pos (by simp)]
 simp [Function.comp_def]
 intro a _
 rfl
theorem frz_iv (H:Heap)(n:Nat):∀ (xs:List Int) (f:Nat),xs.length<f→frzL H n f (xs.map iv)=some (xs.map iv)
 |[],f+1,_=>rfl
 |x::xs,f+1,h=>by
  have ih:=frz_iv H n xs f (by simp at h;omega)
  simp only [List.map_cons,frzL,ih,iv]
theorem dat_iv:∀ xs:List Int,datas? (xs.map iv)=some (xs.map num)
 |[]=>rfl
 |x::xs=>by simp only [List.map_cons,datas?,iv,AVal.data?];rw [dat_iv xs]
theorem fin17 {T:List AVal}{H:Heap}{ds zs:List Int}(hT:T[3]? =some (.sref 1 1 0 ds.length))(hH:H[1]? =some (.cells ((ds++zs).map iv)))(hl:ds.length≤500):finRun a17 0 (some (.ret,⟨T,H⟩))=some (.d (ints ds),[]):=by
 have h1:rd H 1 0 (ds.length * 1)=some (ds.map iv):=by
  simp only [rd,hH]
  rw [if_pos (by simp)]
  simp
 have h2:=frz_iv H 0 ds 999 (by omega)
 have h3:=fm_num ds
 have h4:resVals T H a17.results=some [.sref 1 1 0 ds.length]:=by
  show resVals T H [.slot 3]=_
  simp only [resVals,resVal,hT]
 unfold finRun
 simp only [h4]
 show finish false 0 [.sref 1 1 0 ds.length] H=_
 simp only [finish,Bool.false_eq_true,if_false,oneOrTuple,frzL,Nat.not_lt_zero,h1,h2,dat_iv]
 simp [AVal.bnd,ints,encL,h3]
def HF (c:Cat)(xs:List Int):Heap:=[.cells (c.enc.map .d),.cells (xs.map iv)]
def lF:Lim:=⟨0,0,2,2⟩
theorem HF_bnd (c:Cat)(xs:List Int):bndO (HF c xs)=0:=by
 have e1:bndL (c.enc.map AVal.d)=0:=rfl
 simp only [HF,bndO,AObj.bnd,e1,bnd_iv]
 rfl
theorem HF_disc (c:Cat)(xs:List Int):discFrom (HF c xs) 0=true:=by
 have e1:bndL (c.enc.map AVal.d)=0:=rfl
 simp only [HF,discFrom,AObj.bnd,e1,bnd_iv]
 rfl
section
variable {b:Nat} {ais ops:List AIns} {T:List AVal} {n:Nat} {rl:List AVal} {tch:List Abs.Touch} {Q:List AVal→Heap→List AVal→Prop}
theorem c0F {c:Cat}{xs ys:List Int}{f:FuncId}{os:List Opd}{u:List Nat}{v:AVal}{args:List AVal}(hc:Pm A f args (HF c xs) lF v (HF c ys))(h2:Ry A lim0 b false ais ops T (HF c ys) (n+1) (v::rl) (.below 2::tch) Q)
  (ha:os.map (rq T n rl)=args:=by rfl) (hb:bndL args=2:=by rfl) (hpr:A.prom f=false:=by rfl) (hm:A.mode f=0:=by rfl):Ry A lim0 b false ais (⟨.call f os,none,none,u⟩::ops) T (HF c xs) n rl tch Q:=by
 refine c0 hc rfl (m:=2) ?_ ?_ rfl rfl ?_ (fun h=>by cases h) ha hpr hm rfl (HD:=[]) (H2:=HF c ys) rfl h2
 ·show bndO (HF c xs)≤2
  rw [HF_bnd]
  omega
 ·rw [hb]
  exact closeN_of (by show bndO (HF c xs)≤2;rw [HF_bnd];omega)
 ·show Lim.mk 0 0 2 (strictOf _ 0 2)=lF
  have:strictOf (HF c xs) 0 2=2:=by
   unfold strictOf
   rw [if_neg (by decide),if_pos (by show discFrom (HF c xs) 0=true;exact HF_disc c xs)]
  rw [this]
  rfl
end
theorem pmSF (c:Cat)(xs:List Int)(h:xs.length≤1000000):Pm A 42 [.sref 1 1 0 xs.length] (HF c xs) lF (.tuple []) (HF c (sortI xs)):=Pm.prim rfl (pSort_at rfl rfl rfl (Nat.ble_eq_true_of_le h))
theorem pmCF (c:Cat)(xs:List Int)(h:xs.length≤1000000):Pm A 43 [.sref 1 1 0 xs.length] (HF c xs) lF (.sref 1 1 0 (dedI xs).length) (HF c (dedI xs++List.replicate (xs.length - (dedI xs).length) 0)):=Pm.prim rfl (pCompact_at rfl rfl rfl (Nat.ble_eq_true_of_le h))
def ownU (cols:List Col)(k:Nat):List Int:=(cols.take k).flatMap Col.owners
theorem ownU_succ {cols:List Col}{k:Nat}(h:k<cols.length):ownU cols (k+1)=ownU cols k++(nth cols k).owners:=by
 unfold ownU
 rw [take_nth h]
 simp
theorem ownU_len {cols:List Col}(h:∀ i,i<cols.length→(nth cols i).owners.length≤8):∀ k,k≤cols.length→(ownU cols k).length≤8 * k
 |0,_=>by simp [ownU]
 |k+1,hk=>by
  have:=ownU_len h k (by omega)
  have:=h k (by omega)
  rw [ownU_succ (by omega)]
  simp
  omega
def fixL (t:Tab):List Int:=0::ownU t.cols t.cols.length
def fixC (c:Cat)(n:Int):List Int:=dedI (sortI (fixL (nth c.tabs n.toNat)))
theorem owners_len (t:Tab):∀ (xs:List Int) (p:Int), -1≤p→ownersB t p xs=true→(xs.length:Int)≤max 0 (t.cols.length - 1 - p)
 |[],p,_,_=>by simp;omega
 |o::r,p,hp,h=>by
  simp only [ownersB,Bool.and_eq_true] at h
  obtain ⟨⟨⟨h1,h2⟩,_⟩,h4⟩:=h
  have h1:=ltB_t h1
  have h2:=ltB_t h2
  have ih:=owners_len t r o (by omega) h4
  simp
  omega
theorem colsErr_zero (c:Cat)(n:Nat):∀ k i,colsErr c n k i=0→∀ m,i≤m→m<i+k→colErr c n m=0
 |0,i,_,m,h1,h2=>absurd h1 (by omega)
 |k+1,i,h,m,h1,h2=>by
  rw [colsErr] at h
  cases e:eqB (colErr c n i) 0 with
  |false =>
   simp only [e,Bool.not_false,if_true] at h
   exact absurd h (eqB_f e)
  |true =>
   simp only [e,Bool.not_true,Bool.false_eq_true,if_false] at h
   rcases Nat.lt_or_ge i m with g|g
   ·exact colsErr_zero c n k (i+1) h m (by omega) (by omega)
   ·obtain rfl:m=i:=by omega
    exact eqB_t e
theorem tab_owners {c:Cat}{n:Nat}(hv:validC c=true)(hn:n<c.tabs.length):(nth c.tabs n).cols.length≤8∧∀ i,i<(nth c.tabs n).cols.length→(nth (nth c.tabs n).cols i).owners.length≤8:=by
 have hok:=(valid_ok hv).1
 have hnl:=names_len c
 have ht:=errAt_tab (hok n (by unfold Cat.ns at hnl;omega)) hn
 have h8:=(tabErr_cols ht).2
 refine ⟨h8,fun i hi=> ?_⟩
 have hc:colErr c n i=0:=by
  unfold tabErr at ht
  split at ht
  ·omega
  ·exact colsErr_zero c n _ 0 ht i (by omega) (by omega)
 have ho:ownersB (nth c.tabs n) (-1) (nth (nth c.tabs n).cols i).owners=true:=by
  unfold colErr at hc
  cases h:ownersB (nth c.tabs n) (-1) (nth (nth c.tabs n).cols i).owners with
  |true=>rfl
  |false =>
   rw [h] at hc
   simp only [Bool.not_false,Bool.or_true,Bool.true_or] at hc
   repeat' split at hc
   all_goals first|omega|exact absurd trivial (by assumption)
 have:=owners_len _ _ _ (Int.le_refl _) ho
 omega
end Go.Proofs.YtkmclibmmlgogaaGreat
namespace Go.Proofs.YtkmclibmmlgogaaGreat
open Go.Abs Go.Abs.S
attribute [local irreducible] Rx Ry Rn Ex Pf
theorem pf17f (c:Cat)(hs:Small2 c)(n:Int)(h:isTab c n=false):Pf A 17 [cat c,.d (num n)] (.d (ints [])):=by
 have p10:=pf10 c hs
 have e:(ltB n 0||leB c.tabs.length n|| !validC c)=true:=by
  have e:=congrArg (!·) (isTabn_eq c n)
  rw [h] at e
  simp only [Bool.not_not,Bool.not_false] at e
  exact e.symm
 refine Pf.run [cat c,.d (num n),.any,.any,.any,.any,.any,.any,.any] rfl rfl rfl rfl ?_
 repeat' (first|refine mn (h2:= ?_)|refine gx ?_|fail)
 first|refine Ex.testB (ltB n 0||leB c.tabs.length n|| !validC c) (Rn.text ?_) (fun h1=> ?_) (fun h1=> ?_)|refine Ex.testB (ltB n 0||leB c.tabs.length n|| !validC c) (Rn.draw ?_) (fun h1=> ?_) (fun h1=> ?_)
 ·repeat' (first|refine cl (p10) ?_|refine gx ?_|refine fk (h1:=fun hw=> ?_) (h2:=fun hw=> ?_)|refine fpk (h1:=fun hw=> ?_) (h2:=fun hw=> ?_)|refine ⟨rfl,rfl,_,rfl,?_⟩|refine ⟨rfl,rfl⟩|fail)
  all_goals first|(simp [*,oneOrTuple];done)|(simp_all [oneOrTuple];done)|(simp_all [oneOrTuple,ltB_eq,leB_eq,eqB_eq,seB_eq];done)|(simp_all [oneOrTuple,ltB_eq,leB_eq,eqB_eq,seB_eq]<;>omega)
 ·repeat' (first|refine mn (h2:= ?_)|refine gx ?_|fail)
  exact ⟨_,rfl,rfl⟩
 ·rw [e] at h1;cases h1
set_option maxHeartbeats 8000000 in
theorem pf17t (c:Cat)(hs:Small2 c)(n:Nat)(h:isTab c n=true):Pf A 17 [cat c,.d (num n)] (.d (ints (fixC c n))):=by
 have p10:=pf10 c hs
 have e:(ltB n 0||leB c.tabs.length n|| !validC c)=false:=by
  have e:=congrArg (!·) (isTabn_eq c n)
  rw [h] at e
  simp only [Bool.not_not,Bool.not_true] at e
  exact e.symm
 have h3:=isTab_t h
 have hcl:=tab_owners (isSto_v h3.1) (n:=n) (by omega)
 obtain ⟨t,ht⟩:∃ t,nth c.tabs n=t:=⟨_,rfl⟩
 have e9:fixC c n=dedI (sortI (fixL t)):=by unfold fixC;rw [Int.toNat_natCast,ht]
 rw [ht] at hcl
 rw [e9]
 refine Pf.run [cat c,.d (num n),.any,.any,.any,.any,.any,.any,.any] rfl rfl rfl rfl ?_
 repeat' (first|refine mn (h2:= ?_)|refine gx ?_|fail)
 first|refine Ex.testB (ltB n 0||leB c.tabs.length n|| !validC c) (Rn.text ?_) (fun h1=> ?_) (fun h1=> ?_)|refine Ex.testB (ltB n 0||leB c.tabs.length n|| !validC c) (Rn.draw ?_) (fun h1=> ?_) (fun h1=> ?_)
 ·repeat' (first|refine cl (p10) ?_|refine gx ?_|refine fk (h1:=fun hw=> ?_) (h2:=fun hw=> ?_)|refine fpk (h1:=fun hw=> ?_) (h2:=fun hw=> ?_)|refine ⟨rfl,rfl,_,rfl,?_⟩|refine ⟨rfl,rfl⟩|fail)
  all_goals first|(simp [*,oneOrTuple];done)|(simp_all [oneOrTuple];done)|(simp_all [oneOrTuple,ltB_eq,leB_eq,eqB_eq,seB_eq];done)|(simp_all [oneOrTuple,ltB_eq,leB_eq,eqB_eq,seB_eq]<;>omega)
 ·rw [e] at h1;cases h1
 repeat' (first|refine bso [iv 0] rfl ⟨by decide,rfl⟩ (h2:= ?_)|refine gx ?_|fail)
 rw [ht]
 repeat' (first|refine gx ?_|fail)
 refine Ex.loopC (fun q T H=>∃ (k:Nat),T=[.any,.any,.any,.any,.sref 1 1 0 (0::ownU t.cols k).length,.any,.d (encL Col.enc t.cols),.d (num t.cols.length),.d (num k)]∧H=HF c (0::ownU t.cols k)∧k+q=t.cols.length) ?_ (k:=t.cols.length) ⟨0,rfl,rfl,by simp⟩
 rintro q _ _ ⟨k,rfl,rfl,hq⟩
 refine Ex.seq ?_
 refine tb (ltB k t.cols.length) (fun g1=> ?_) (fun g1=> ?_)
 ·have g2:=ltB_t g1
  have hol:=ownU_len hcl.2 k (by omega)
  have hok:=hcl.2 k (by omega)
  unfold HF
  repeat' (first|refine gx ?_|fail)
  refine apo (m:=(nth t.cols k).owners.length) (len:=(0::ownU t.cols k).length) (k2:=(0::ownU t.cols (k+1)).length) (old:=(0::ownU t.cols k).map iv) (cs:=(nth t.cols k).owners.map iv) (T2:=[.any,.any,.any,.any,.any,.ptr 2 0,.d (encL Col.enc t.cols),.d (num t.cols.length),.d (num k)]) (rl2:=[.d (ints (nth t.cols k).owners),.ptr 2 4,.any]) (H2:=HF c (0::ownU t.cols (k+1))++[.cells ((nth t.cols k).enc.map .d)]) (by simp only [roomFor,decide_eq_true_eq];simp;omega) (sc_ints _ _) (by simp) (one_iv _) (bnd_iv _) (hH:= ?_) (hk2:=by rw [ownU_succ (by omega)];simp;omega) (h2:= ?_)
  ·show [AObj.cells (c.enc.map .d),AObj.cells (killL 1 ((0::ownU t.cols k).map iv)++(nth t.cols k).owners.map iv),AObj.cells ((nth t.cols k).enc.map .d)]=_
   rw [kill_iv,ownU_succ (by omega)]
   simp [HF]
  repeat' (first|refine gx ?_|fail)
  refine ⟨q - 1,by omega,_,_,clean_of (Nat.le_of_ble_eq_true rfl) ?_,k+1,rfl,rfl,by omega⟩
  show bndO (HF c (0::ownU t.cols (k+1)))≤2
  rw [HF_bnd]
  omega
 ·have g2:=ltB_f g1
  obtain rfl:k=t.cols.length:=by omega
  have hol:=ownU_len hcl.2 t.cols.length (by omega)
  have e8:(0::ownU t.cols t.cols.length)=fixL t:=rfl
  rw [e8]
  have hfl:(fixL t).length≤100:=by rw [← e8];simp;omega
  have hsl:=sortI_len (fixL t)
  have pS:=pmSF c (fixL t) (by omega)
  have pC:=pmCF c (sortI (fixL t)) (by omega)
  rw [hsl] at pC
  have hdl:=dedI_len (sortI (fixL t))
  repeat' (first|refine c0F pS ?_|refine c0F pC ?_|refine gx ?_|fail)
  exact ⟨_,fin17 rfl rfl (by omega),rfl⟩
end Go.Proofs.YtkmclibmmlgogaaGreat
namespace Go.Proofs.YtkmclibmmlgogaaGreat
open Go.Abs Go.Abs.S
attribute [local irreducible] Rx Ry Rn Ex Pf
theorem pf58f (c:Cat)(hs:Small2 c)(n:Int)(h:isTab c n=false):Pf A 58 [cat c,.d (num n)] (.own 1 0 []):=by
 have p90:=pf90 c hs n
 rw [h] at p90
 refine Pf.run [cat c,.d (num n),.any,.any,.any,.any,.any,.any] rfl rfl rfl rfl ?_
 repeat' (first|refine gx ?_|fail)
 first|refine Ex.testB (true) (Rn.text ?_) (fun h1=> ?_) (fun h1=> ?_)|refine Ex.testB (true) (Rn.draw ?_) (fun h1=> ?_) (fun h1=> ?_)
 ·repeat' (first|refine cl (p90) ?_|refine gx ?_|refine fk (h1:=fun hw=> ?_) (h2:=fun hw=> ?_)|refine fpk (h1:=fun hw=> ?_) (h2:=fun hw=> ?_)|refine ⟨rfl,rfl,_,rfl,?_⟩|refine ⟨rfl,rfl⟩|fail)
  all_goals first|(simp [*,oneOrTuple];done)|(simp_all [oneOrTuple];done)|(simp_all [oneOrTuple,ltB_eq,leB_eq,eqB_eq,seB_eq];done)|(simp_all [oneOrTuple,ltB_eq,leB_eq,eqB_eq,seB_eq]<;>omega)
 ·repeat' (first|refine gx ?_|fail)
  exact ⟨_,rfl,rfl⟩
 ·cases h1
theorem addI_len (x:Int):∀ l:List Int,(addI l x).length≤l.length+1
 |[]=>by simp [addI]
 |y::l=>by
  have:=addI_len x l
  simp only [addI]
  split
  ·simp;omega
  ·split<;>simp
theorem fold_len:∀ (xs l:List Int),(xs.foldl addI l).length≤l.length+xs.length
 |[],l=>by simp
 |x::xs,l=>by
  have h1:=fold_len xs (addI l x)
  have h2:=addI_len x l
  simp only [List.foldl_cons,List.length_cons]
  omega
set_option maxHeartbeats 8000000 in
theorem pf58t (c:Cat)(hs:Small2 c)(n:Nat)(h:isTab c n=true):Pf A 58 [cat c,.d (num n)] (.d (ints (fixC c n))):=by
 have p90:=pf90 c hs n
 rw [h] at p90
 have h3:=isTab_t h
 have hcl:=tab_owners (isSto_v h3.1) (n:=n) (by omega)
 have e9:fixC c n=(ownU (nth c.tabs n).cols (nth c.tabs n).cols.length).foldl addI [0]:=by rw [fix_eq];unfold fixC fixL;rw [Int.toNat_natCast]
 rw [e9]
 refine Pf.run [cat c,.d (num n),.any,.any,.any,.any,.any,.any] rfl rfl rfl rfl ?_
 repeat' (first|refine gx ?_|fail)
 first|refine Ex.testB (false) (Rn.text ?_) (fun h1=> ?_) (fun h1=> ?_)|refine Ex.testB (false) (Rn.draw ?_) (fun h1=> ?_) (fun h1=> ?_)
 ·repeat' (first|refine cl (p90) ?_|refine gx ?_|refine fk (h1:=fun hw=> ?_) (h2:=fun hw=> ?_)|refine fpk (h1:=fun hw=> ?_) (h2:=fun hw=> ?_)|refine ⟨rfl,rfl,_,rfl,?_⟩|refine ⟨rfl,rfl⟩|fail)
  all_goals first|(simp [*,oneOrTuple];done)|(simp_all [oneOrTuple];done)|(simp_all [oneOrTuple,ltB_eq,leB_eq,eqB_eq,seB_eq];done)|(simp_all [oneOrTuple,ltB_eq,leB_eq,eqB_eq,seB_eq]<;>omega)
 ·cases h1
 repeat' (first|refine gx ?_|fail)
 refine Ex.loopS (fun q T H=>∃ (k:Nat) (w0 w3 w4 w6 w7:AVal),T=[w0,.d (num n),.ptr 0 0,w3,w4,.d (num k),w6,w7]∧H=[.cells (c.enc.map .d)]∧IsL w4 ((ownU (nth c.tabs n).cols k).foldl addI [0])∧k+q=(nth c.tabs n).cols.length) (by rintro _ _ _ ⟨_,_,_,_,_,_,_,rfl,_⟩;rfl) ?_ (k:=(nth c.tabs n).cols.length) ⟨0,_,_,_,_,_,rfl,rfl,.inr rfl,by simp⟩
 rintro q _ _ ⟨k,w0,w3,w4,w6,w7,rfl,rfl,hw,hq⟩
 refine Ex.nT ?_
 refine Ex.seq ?_
 refine tb (ltB k (nth c.tabs n).cols.length) (fun g1=> ?_) (fun g1=> ?_)
 ·have g2:=ltB_t g1
  have hol:=ownU_len hcl.2 k (by omega)
  have hok:=hcl.2 k (by omega)
  obtain ⟨os,hos⟩:∃ os,(nth (nth c.tabs n).cols k).owners=os:=⟨_,rfl⟩
  rw [hos] at hok
  repeat' (first|refine gx ?_|fail)
  rw [hos]
  repeat' (first|refine gx ?_|fail)
  refine Ex.loopS (fun q2 T H=>∃ (j:Nat) (w0 w3 w4:AVal),T=[w0,.d (num n),.ptr 0 0,w3,w4,.d (num k),.d (ints os),.d (num j)]∧H=[.cells (c.enc.map .d)]∧IsL w4 ((ownU (nth c.tabs n).cols k++os.take j).foldl addI [0])∧j+q2=os.length) (by rintro _ _ _ ⟨_,_,_,_,_,rfl,_⟩;rfl) ?_ (k:=os.length) ⟨0,_,_,_,rfl,rfl,by simpa using hw,by simp⟩
  clear hw
  rintro q2 _ _ ⟨j,w0,w3,w4,rfl,rfl,hw,hq2⟩
  refine Ex.nT ?_
  refine Ex.seq ?_
  refine tb (ltB j os.length) (fun g3=> ?_) (fun g3=> ?_)
  ·have g4:=ltB_t g3
   have hfl:=fold_len (ownU (nth c.tabs n).cols k++os.take j) [0]
   simp only [List.length_append,List.length_take,List.length_singleton] at hfl
   obtain ⟨w5,hw5,p88⟩:=pf88 ((ownU (nth c.tabs n).cols k++os.take j).foldl addI [0]) (nth os j) (by omega)
   have hwa:=hw.as
   have e1:(ownU (nth c.tabs n).cols k++os.take (j+1)).foldl addI [0]=addI ((ownU (nth c.tabs n).cols k++os.take j).foldl addI [0]) (nth os j):=by
    rw [take_nth (by omega),← List.append_assoc,List.foldl_append]
    rfl
   rw [← e1] at hw5
   rcases hw5 with rfl|rfl
   ·repeat' (first|refine mvA hwa ?_|refine cl (p88) ?_|refine gx ?_|fail)
    exact ⟨q2 - 1,by omega,j+1,_,_,_,rfl,rfl,.inl rfl,by omega⟩
   ·repeat' (first|refine mvA hwa ?_|refine cl (p88) ?_|refine gx ?_|fail)
    exact ⟨q2 - 1,by omega,j+1,_,_,_,rfl,rfl,.inr rfl,by omega⟩
  ·have g4:=ltB_f g3
   rw [List.take_of_length_le (by omega),← hos,← ownU_succ (by omega)] at hw
   repeat' (first|refine gx ?_|fail)
   exact ⟨q - 1,by omega,k+1,_,_,_,_,_,rfl,rfl,hw,by omega⟩
 ·have g2:=ltB_f g1
  obtain rfl:k=(nth c.tabs n).cols.length:=by omega
  have hwa:=hw.as
  repeat' (first|refine mvA hwa ?_|refine gx ?_|fail)
  exact ⟨_,rfl,rfl⟩
end Go.Proofs.YtkmclibmmlgogaaGreat

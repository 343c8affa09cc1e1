/-
  The program's Dependents.; The program's Dependents of what is no store; the reference's Dependents.
  (Put together by a small program out of several texts; blanks left out to keep the folder small.)
-/
import Derived.Test.YtkmclibmmlgogaaGreatX0
import Derived.Test.YtkmclibmmlgogaaGreatX1
import Derived.Test.YtkmclibmmlgogaaGreatB6
set_option linter.unusedVariables false
set_option linter.unusedSimpArgs false
namespace Go.Proofs.YtkmclibmmlgogaaGreat
open Go.Abs Go.Abs.S
attribute [local irreducible] Rx Ry Rn Ex Pf
def l8:Lim:=⟨0,8,8,8⟩
def depB (st:Int)(deps:List Int)(s:Int):Bool:=eqB s st||deps.any fun y=>eqB y s
theorem pm48 (a0 a2 a3 a4 a5 a6:AObj)(st s:Int)(deps:List Int)(hd:deps.length≤10000):Pm A 48 [.d (num s),.ptr 1 0,.ptr 7 0] [a0,.cells [.d (num st)],a2,a3,a4,a5,a6,.cells [ownL 1 (fun n=>[num n]) deps]] l8 (.d (.bool (depB st deps s))) [a0,.cells [.d (num st)],a2,a3,a4,a5,a6,.cells [ownL 1 (fun n=>[num n]) deps]]:=by
 have p49:=pf49 deps s (by omega)
 suffices h:Pq A 48 [.d (num s),.ptr 1 0,.ptr 7 0] [a0,.cells [.d (num st)],a2,a3,a4,a5,a6,.cells [ownL 1 (fun n=>[num n]) deps]] l8 fun v H1=>v= .d (.bool (depB st deps s))∧H1=[a0,.cells [.d (num st)],a2,a3,a4,a5,a6,.cells [ownL 1 (fun n=>[num n]) deps]] by
  obtain ⟨v,H1,⟨rfl,rfl⟩,h⟩:=h;exact h
 refine Pq.run (b:=8) [.d (num s),.ptr 1 0,.ptr 7 0,.any] rfl rfl rfl rfl rfl ?_
 unfold depB
 repeat' (first|refine cl (p49) ?_|refine gx ?_|refine fk (h1:=fun hw=> ?_) (h2:=fun hw=> ?_)|refine fpk (h1:=fun hw=> ?_) (h2:=fun hw=> ?_)|refine Ex.condP ?_|refine Ex.condN ?_|refine Ex.cond rfl (fun ht=> ?_) (fun ht=> ?_)|refine Ex.test (Rn.text ?_)|refine Ex.test (Rn.draw ?_)|refine ⟨_,rfl,fun ht=> ?_,fun ht=> ?_⟩|refine ⟨_,rfl,?_⟩|fail)
 all_goals exact ⟨_,_,rfl,by simp [*,oneOrTuple],rfl⟩
def fiD (st:Int)(deps:List Int):List Int→Nat→Int
 |[],_=> -1
 |y::r,i=>if depB st deps y then i else fiD st deps r (i+1)
theorem fiD_any (st:Int)(deps:List Int):∀ (l:List Int) (i:Nat),leB 0 (fiD st deps l i)=l.any (depB st deps)
 |[],i=>by simp [fiD,leB_eq]
 |y::r,i=>by
  have h1:=fiD_any st deps r (i+1)
  simp only [fiD,List.any_cons]
  cases h3:depB st deps y with
  |true=>simp [leB_eq]
  |false=>simpa using h1
set_option maxHeartbeats 2000000 in
theorem pm81 (a0 a2 a3 a4 a5 a6:AObj)(st:Int)(deps ys:List Int)(hd:deps.length≤10000)(hy:ys.length≤1000):Pm A 81 [.d (ints ys),.func 48 [] [.ptr 1 0,.ptr 7 0]] [a0,.cells [.d (num st)],a2,a3,a4,a5,a6,.cells [ownL 1 (fun n=>[num n]) deps]] l8 (.d (num (fiD st deps ys 0))) [a0,.cells [.d (num st)],a2,a3,a4,a5,a6,.cells [ownL 1 (fun n=>[num n]) deps]]:=by
 suffices h:Pq A 81 [.d (ints ys),.func 48 [] [.ptr 1 0,.ptr 7 0]] [a0,.cells [.d (num st)],a2,a3,a4,a5,a6,.cells [ownL 1 (fun n=>[num n]) deps]] l8 fun v H1=>v= .d (num (fiD st deps ys 0))∧H1=[a0,.cells [.d (num st)],a2,a3,a4,a5,a6,.cells [ownL 1 (fun n=>[num n]) deps]] by
  obtain ⟨v,H1,⟨rfl,rfl⟩,h⟩:=h;exact h
 refine Pq.run (b:=8) [.d (ints ys),.func 48 [] [.ptr 1 0,.ptr 7 0],.any,.any,.any,.any] rfl rfl rfl rfl rfl ?_
 repeat' (first|refine gx ?_|fail)
 refine Ex.loopS (fun k T H=>∃ (i:Nat) (v w:AVal),T=[.d (ints ys),.func 48 [] [.ptr 1 0,.ptr 7 0],v,w,.d (num ys.length),.d (num i)]∧H=[a0,.cells [.d (num st)],a2,a3,a4,a5,a6,.cells [ownL 1 (fun n=>[num n]) deps]]∧i+k=ys.length∧fiD st deps ys 0=fiD st deps (ys.drop i) i) (by rintro _ _ _ ⟨_,_,_,_,rfl,_⟩;rfl) ?_ (k:=ys.length) ⟨0,_,_,rfl,rfl,by simp,by simp⟩
 rintro k _ _ ⟨i,v,w,rfl,rfl,hk,hi⟩
 refine Ex.nT ?_
 refine Ex.seq ?_
 refine tb (ltB i ys.length) (fun h1=> ?_) (fun h1=> ?_)
 ·have h2:=ltB_t h1
  rw [drop_nth (by omega)] at hi
  have p1:=pm48 a0 a2 a3 a4 a5 a6 st (nth ys i) deps hd
  repeat' (first|refine gx ?_|fail)
  first|refine Ex.testB (depB st deps (nth ys i)) (Rn.text ?_) (fun h3=> ?_) (fun h3=> ?_)|refine Ex.testB (depB st deps (nth ys i)) (Rn.draw ?_) (fun h3=> ?_) (fun h3=> ?_)
  ·repeat' (first|refine cv1 p1 rfl ?_|refine gx ?_|refine fk (h1:=fun hw=> ?_) (h2:=fun hw=> ?_)|refine fpk (h1:=fun hw=> ?_) (h2:=fun hw=> ?_)|refine ⟨rfl,rfl,_,rfl,?_⟩|refine ⟨rfl,rfl⟩|fail)
   all_goals first|(simp [*,oneOrTuple];done)|(simp_all [oneOrTuple];done)|(simp_all [oneOrTuple,ltB_eq,leB_eq,eqB_eq,seB_eq];done)|(simp_all [oneOrTuple,ltB_eq,leB_eq,eqB_eq,seB_eq]<;>omega)
  ·repeat' (first|refine gx ?_|fail)
   exact ⟨_,_,rfl,by rw [hi,fiD,h3];rfl,rfl⟩
  ·repeat' (first|refine gx ?_|fail)
   exact ⟨k - 1,by omega,i+1,_,_,rfl,rfl,by omega,by rw [hi,fiD,h3];rfl⟩
 ·have h2:=ltB_f h1
  rw [List.drop_of_length_le (by omega)] at hi
  repeat' (first|refine gx ?_|fail)
  exact ⟨_,_,rfl,by rw [hi];rfl,rfl⟩
theorem pm47 (a0 a2 a3 a4 a5 a6:AObj)(st:Int)(deps ys:List Int)(hd:deps.length≤10000)(hy:ys.length≤1000):Pm A 47 [.d (ints ys),.func 48 [] [.ptr 1 0,.ptr 7 0]] [a0,.cells [.d (num st)],a2,a3,a4,a5,a6,.cells [ownL 1 (fun n=>[num n]) deps]] l8 (.d (.bool (ys.any (depB st deps)))) [a0,.cells [.d (num st)],a2,a3,a4,a5,a6,.cells [ownL 1 (fun n=>[num n]) deps]]:=by
 have p1:=pm81 a0 a2 a3 a4 a5 a6 st deps ys hd hy
 rw [← fiD_any st deps ys 0]
 suffices h:Pq A 47 [.d (ints ys),.func 48 [] [.ptr 1 0,.ptr 7 0]] [a0,.cells [.d (num st)],a2,a3,a4,a5,a6,.cells [ownL 1 (fun n=>[num n]) deps]] l8 fun v H1=>v= .d (.bool (leB 0 (fiD st deps ys 0)))∧H1=[a0,.cells [.d (num st)],a2,a3,a4,a5,a6,.cells [ownL 1 (fun n=>[num n]) deps]] by
  obtain ⟨v,H1,⟨rfl,rfl⟩,h⟩:=h;exact h
 refine Pq.run (b:=8) [.d (ints ys),.func 48 [] [.ptr 1 0,.ptr 7 0],.any] rfl rfl rfl rfl rfl ?_
 repeat' (first|refine c1 p1 rfl ?_|refine gx ?_|fail)
 exact ⟨_,_,rfl,rfl,rfl⟩
def depU (c:Cat)(st:Int):Nat→List Int
 |0=>[]
 |k+1=>depU c st k++(if (srcC c k).any (depB st (depU c st k)) then [(k:Int)] else [])
theorem depU_len (c:Cat)(st:Int):∀ k,(depU c st k).length≤k
 |0=>Nat.le_refl _
 |k+1=>by
  have:=depU_len c st k
  simp only [depU]
  split<;>simp<;>omega
theorem dedI_len' :∀ v ns,(srcL v ns).length≤2:=fun v ns=>by
 unfold srcL
 refine Nat.le_trans (dedI_len _) ?_
 rw [sortI_len]
 split<;>simp
theorem srcC_len (c:Cat)(n:Int):(srcC c n).length≤2:=by
 unfold srcC
 split
 ·simp
 ·exact dedI_len' _ _
theorem srcC_lt {c:Cat}(hv:validC c=true){k:Nat}(hk:k<Cat.ns c):∀ s,s ∈ srcC c k→s<k:=by
 have hmem:∀ (l:List Int) (s:Int),s ∈ dedI l→s ∈ l:=by
  intro l
  induction l using dedI.induct with
  |case1=>simp [dedI]
  |case2 x=>simp [dedI]
  |case3 x l ih=>intro s hs;simp only [dedI,if_true] at hs;have:=ih s hs;simp at this ⊢;rcases this with h|h<;>simp [h]
  |case4 x y l h ih =>
   intro s hs;simp only [dedI,h,if_false,List.mem_cons] at hs;rcases hs with hs|hs;· simp [hs]
   have:=ih s hs;simp only [List.mem_cons] at this ⊢;exact .inr this
 have hins:∀ (x:Int) (l:List Int) (s:Int),s ∈ insI x l→s=x∨s ∈ l:=by
  intro x l
  induction l with
  |nil=>intro s hs;simpa [insI] using hs
  |cons y l ih =>
   intro s hs
   simp only [insI] at hs
   split at hs
   ·simpa using hs
   ·simp only [List.mem_cons] at hs
    rcases hs with hs|hs
    ·simp [hs]
    ·rcases ih s hs with h|h<;>simp [h]
 have hsort:∀ (l:List Int) (s:Int),s ∈ sortI l→s ∈ l:=by
  intro l
  induction l with
  |nil=>intro s hs;simp [sortI] at hs
  |cons y l ih =>
   intro s hs
   rcases hins y (sortI l) s hs with h|h
   ·simp [h]
   ·simp [ih s h]
 intro s hs
 unfold srcC at hs
 split at hs
 ·simp at hs
 ·rename_i ht
  have ht:(c.tabs.length:Int)≤k:=by simpa [ltB_eq] using ht
  have h2:=(valid_ok hv).2.2 k (by omega) hk
  rw [show (((k:Nat):Int) - c.tabs.length).toNat=k - c.tabs.length by omega] at hs
  have h3:=hsort _ _ (hmem _ _ hs)
  have b1:=findC_bound c (nth c.views (k - c.tabs.length)).left k
  have b2:=findC_bound c (nth c.views (k - c.tabs.length)).right k
  split at h3
  ·simp only [List.mem_singleton] at h3
   rw [find_sns h2.1] at h3
   omega
  ·rename_i g
   have g:seB (nth c.views (k - c.tabs.length)).right []=false:=by simpa using g
   simp only [List.mem_cons,List.not_mem_nil,or_false] at h3
   rw [find_sns h2.1,find_sns (h2.2 g)] at h3
   have:=h2.2 g
   omega
theorem depU_none {c:Cat}(hv:validC c=true){st:Nat}:∀ k,k≤st+1→k≤Cat.ns c→depU c st k=[]
 |0,_,_=>rfl
 |k+1,h,h2=>by
  have ih:=depU_none hv (st:=st) k (by omega) (by omega)
  simp only [depU,ih,List.nil_append]
  have e:((srcC c k).any (depB st []))=false:=by
   rw [List.any_eq_false]
   intro s hs
   have:=srcC_lt hv (k:=k) (by omega) s hs
   unfold depB
   simp [eqB_eq]
   omega
  rw [e]
  rfl
theorem depU_tabs (c:Cat)(st:Int):∀ k,k≤c.tabs.length→depU c st k=[]
 |0,_=>rfl
 |k+1,h=>by
  have ih:=depU_tabs c st k (by omega)
  have:srcC c k=[]:=by unfold srcC;rw [if_pos (by rw [ltB_eq];simp;omega)]
  simp [depU,ih,this]
def HD (c:Cat)(st:Int)(x:AVal):Heap:=[.cells (c.enc.map .d),.cells [.d (num st)],.cells (c.enc.map .d),.map (dmap c.names),.map (nmap ((stors c (Cat.ns c)).map (·.1)) 0),.cells (c.enc.map .d++[.map 3,.map 4,ownL 2 encSt (stors c (Cat.ns c))]),.cells (Two.kindsC c),.cells [x]]
theorem HD_bnd (c:Cat)(st:Int)(x:AVal)(hx:x.bnd=0):bndO (HD c st x)≤8:=by
 have h1:=dmap_bnd c.names
 have h2:=nmap_bnd ((stors c (Cat.ns c)).map (·.1)) 0
 have e0:bndL [AVal.d (num st)]=0:=rfl
 have e1:bndL (c.enc.map AVal.d)=0:=rfl
 have e2:bndL (c.enc.map AVal.d++[.map 3,.map 4,ownL 2 encSt (stors c (Cat.ns c))])=5:=rfl
 have e3:bndL (Two.kindsC c)=6:=rfl
 have e4:bndL [x]=0:=by simp [bndL,hx]
 simp only [HD,bndO,AObj.bnd,h1,h2,e0,e1,e2,e3,e4]
 decide
theorem HD_disc (c:Cat)(st:Int)(x:AVal)(hx:x.bnd=0):discFrom (HD c st x) 0=true:=by
 have h1:=dmap_bnd c.names
 have h2:=nmap_bnd ((stors c (Cat.ns c)).map (·.1)) 0
 have e0:bndL [AVal.d (num st)]=0:=rfl
 have e1:bndL (c.enc.map AVal.d)=0:=rfl
 have e2:bndL (c.enc.map AVal.d++[.map 3,.map 4,ownL 2 encSt (stors c (Cat.ns c))])=5:=rfl
 have e3:bndL (Two.kindsC c)=6:=rfl
 have e4:bndL [x]=0:=by simp [bndL,hx]
 simp only [HD,discFrom,AObj.bnd,h1,h2,e0,e1,e2,e3,e4]
 decide
section
variable {b:Nat} {dr:Bool} {ais ops:List AIns} {T:List AVal} {n:Nat} {rl:List AVal} {tch:List Abs.Touch} {Q:List AVal→Heap→List AVal→Prop}
theorem ckD {c:Cat}{st:Int}{x:AVal}{f:FuncId}{xs:List Opd}{u:List Nat}{v:AVal}{args:List AVal}(hc:Pm A f args (@Two.HH ⟨⟨st⟩⟩ c c.names (stors c (Cat.ns c))) Two.lR v (@Two.HH ⟨⟨st⟩⟩ c c.names (stors c (Cat.ns c))))(h2:Ry A lim0 b dr ais ops T (HD c st x) (n+1) (v::rl) tch Q)
  (ha:xs.map (rq T n rl)=args:=by rfl) (hb:bndL args=6:=by rfl) (hpr:A.prom f=false:=by rfl) (hm:A.mode f=1:=by rfl):Ry A lim0 b dr ais (⟨.call f xs,none,none,u⟩::ops) T (HD c st x) n rl tch Q :=
 @Two.ck ⟨⟨st⟩⟩ b dr ais ops T n rl tch Q c c.names (stors c (Cat.ns c)) [.cells (Two.kindsC c),.cells [x]] f xs u v args hc h2 ha hb hpr hm
theorem ckE {c:Cat}{st:Int}{x:AVal}{f:FuncId}{xs:List Opd}{u:List Nat}{v:AVal}{args:List AVal}(hx:x.bnd=0)(hc:Pm A f args (HD c st x) l8 v (HD c st x))(h2:Ry A lim0 b dr ais ops T (HD c st x) (n+1) (v::rl) tch Q)
  (ha:xs.map (rq T n rl)=args:=by rfl) (hb:bndL args=8:=by rfl) (hpr:A.prom f=false:=by rfl) (hm:A.mode f=1:=by rfl):Ry A lim0 b dr ais (⟨.call f xs,none,none,u⟩::ops) T (HD c st x) n rl tch Q:=by
 have hb8:=HD_bnd c st x hx
 have hd8:=HD_disc c st x hx
 refine c1 hc rfl h2 (m:=8) ?_ ?_ rfl rfl ?_ ha hpr hm
 ·show bndO (HD c st x)≤8
  exact hb8
 ·rw [hb]
  exact closeN_of (by show bndO (HD c st x)≤8;exact hb8)
 ·show Lim.mk 0 8 8 (strictOf _ 0 8)=l8
  have:strictOf (HD c st x) 0 8=8:=by
   unfold strictOf
   rw [if_neg (by decide),if_pos (by show discFrom (HD c st x) 0=true;exact hd8)]
  rw [this]
  rfl
end
set_option maxHeartbeats 8000000 in
theorem pf20t (c:Cat)(hs:Small2 c)(st:Nat)(h:isSto c st=true):Pf A 20 [cat c,.d (num st)] (.d (ints (depU c st (Cat.ns c)))):=by
 letI:Inhabited Two.XO:=⟨⟨st⟩⟩
 obtain ⟨v,H1,hp,hpm⟩:=Two.pq29c c hs
 have hle:=Two.chk_le hp
 obtain ⟨_,hp1,hp2⟩:=hp
 obtain ⟨e,h2,h3⟩:=isSto_t h
 have hv:=isSto_v h
 obtain ⟨f0,f1,f2,f3,f4,f5,f6,f7⟩:=id hs.sm.few
 have hns:Cat.ns c=c.tabs.length+c.views.length:=rfl
 obtain ⟨rfl,rfl⟩:=hp2 e
 have h6:=stors_len c (Cat.ns c)
 have p38:=Two.pm38 c c.names (stors c (Cat.ns c)) st
 rw [stors_len,h2] at p38
 refine Pf.run [cat c,.d (num st),.any,.any,.any,.any,.any,.any,.any] rfl rfl rfl rfl ?_
 repeat' (first|refine cp hpm hle ?_|refine gx ?_|fail)
 first|refine Ex.testB (false) (Rn.text ?_) (fun h1=> ?_) (fun h1=> ?_)|refine Ex.testB (false) (Rn.draw ?_) (fun h1=> ?_) (fun h1=> ?_)
 ·repeat' (first|refine Two.ck p38 ?_|refine gx ?_|refine fk (h1:=fun hw=> ?_) (h2:=fun hw=> ?_)|refine fpk (h1:=fun hw=> ?_) (h2:=fun hw=> ?_)|refine ⟨rfl,rfl,_,rfl,?_⟩|refine ⟨rfl,rfl⟩|fail)
  all_goals first|(simp [*,oneOrTuple];done)|(simp_all [oneOrTuple];done)|(simp_all [oneOrTuple,ltB_eq,leB_eq,eqB_eq,seB_eq];done)|(simp_all [oneOrTuple,ltB_eq,leB_eq,eqB_eq,seB_eq]<;>omega)
 ·cases h1
 repeat' (first|refine gx ?_|fail)
 refine ac (id:=7) (H2:=HD c st (ownL 1 (fun n=>[num n]) [])) (h2:= ?_) (hi:=rfl) (hH:=rfl)
 repeat' (first|refine gx ?_|fail)
 refine Ex.loopS (fun q T H=>∃ (k:Nat) (w0 w1 w2 w4 w6:AVal),T=[w0,w1,w2,.ptr 1 0,w4,.ptr 5 0,w6,.ptr 7 0,.d (num k)]∧H=HD c st (ownL 1 (fun n=>[num n]) (depU c st k))∧k+q=Cat.ns c∧st+1≤k) (by rintro _ _ _ ⟨_,_,_,_,_,_,_,rfl,_⟩;rfl) ?_ (k:=Cat.ns c - (st+1)) ⟨st+1,_,_,_,_,_,rfl,by rw [depU_none hv _ (Nat.le_refl _) (by omega)],by omega,Nat.le_refl _⟩
 rintro q _ _ ⟨k,w0,w1,w2,w4,w6,rfl,rfl,hq,hk⟩
 refine Ex.nT ?_
 refine Ex.seq ?_
 first|refine Ex.testB (ltB k (Cat.ns c)) (Rn.text ?_) (fun g1=> ?_) (fun g1=> ?_)|refine Ex.testB (ltB k (Cat.ns c)) (Rn.draw ?_) (fun g1=> ?_) (fun g1=> ?_)
 ·repeat' (first|refine cl (h6) ?_|refine gx ?_|refine fk (h1:=fun hw=> ?_) (h2:=fun hw=> ?_)|refine fpk (h1:=fun hw=> ?_) (h2:=fun hw=> ?_)|refine ⟨rfl,rfl,_,rfl,?_⟩|refine ⟨rfl,rfl⟩|fail)
  all_goals first|(simp [*,oneOrTuple];done)|(simp_all [oneOrTuple];done)|(simp_all [oneOrTuple,ltB_eq,leB_eq,eqB_eq,seB_eq];done)|(simp_all [oneOrTuple,ltB_eq,leB_eq,eqB_eq,seB_eq]<;>omega)
 ·have g2:=ltB_t g1
  have p45:=Two.pm45 c c.names k (by omega) f1
  have p47:=pm47 (.cells (c.enc.map .d)) (.cells (c.enc.map .d)) (.map (dmap c.names)) (.map (nmap ((stors c (Cat.ns c)).map (·.1)) 0)) (.cells (c.enc.map .d++[.map 3,.map 4,ownL 2 encSt (stors c (Cat.ns c))])) (.cells (Two.kindsC c)) st (depU c st k) (srcC c k) (by have:=depU_len c st k;omega) (by have:=srcC_len c k;omega)
  repeat' (first|refine gx ?_|fail)
  first|refine Ex.testB ((srcC c k).any (depB st (depU c st k))) (Rn.text ?_) (fun g3=> ?_) (fun g3=> ?_)|refine Ex.testB ((srcC c k).any (depB st (depU c st k))) (Rn.draw ?_) (fun g3=> ?_) (fun g3=> ?_)
  ·repeat' (first|refine ckD p45 ?_|refine ckE rfl p47 ?_|refine gx ?_|refine fk (h1:=fun hw=> ?_) (h2:=fun hw=> ?_)|refine fpk (h1:=fun hw=> ?_) (h2:=fun hw=> ?_)|refine ⟨rfl,rfl,_,rfl,?_⟩|refine ⟨rfl,rfl⟩|fail)
   all_goals first|(simp [*,oneOrTuple];done)|(simp_all [oneOrTuple];done)|(simp_all [oneOrTuple,ltB_eq,leB_eq,eqB_eq,seB_eq];done)|(simp_all [oneOrTuple,ltB_eq,leB_eq,eqB_eq,seB_eq]<;>omega)
  ·have hr:roomFor ((depU c st k).length+1) 8=true:=by have:=depU_len c st k;simp only [roomFor,decide_eq_true_eq];omega
   have e1:depU c st (k+1)=depU c st k++[(k:Int)]:=by simp only [depU];rw [g3];rfl
   repeat' (first|refine gx ?_|fail)
   refine ac1s (a:=(k:Int)) (xs:=depU c st k) (enc:=fun n=>[num n]) (H2:=HD c st (.d (ints (depU c st k)))) hr rfl (hH:=rfl) (h2:= ?_)
   refine soO (H2:=HD c st (ownL 1 (fun n=>[num n]) (depU c st k++[(k:Int)]))) (hH:=rfl) (h2:= ?_)
   repeat' (first|refine gx ?_|fail)
   exact ⟨q - 1,by omega,k+1,_,_,_,_,_,rfl,by rw [e1],by omega,by omega⟩
  ·have e1:depU c st (k+1)=depU c st k:=by simp only [depU];rw [g3];simp
   repeat' (first|refine gx ?_|fail)
   exact ⟨q - 1,by omega,k+1,_,_,_,_,_,rfl,by rw [e1],by omega,by omega⟩
 ·have g2:=ltB_f g1
  obtain rfl:k=Cat.ns c:=by omega
  repeat' (first|refine gx ?_|fail)
  exact ⟨_,rfl,rfl⟩
end Go.Proofs.YtkmclibmmlgogaaGreat
namespace Go.Proofs.YtkmclibmmlgogaaGreat
open Go.Abs Go.Abs.S
attribute [local irreducible] Rx Ry Rn Ex Pf
theorem pf20f (c:Cat)(hs:Small2 c)(n:Int)(h:isSto c n=false):Pf A 20 [cat c,.d (num n)] (.own 1 0 []):=by
 letI:Inhabited Two.XO:=⟨⟨n⟩⟩
 obtain ⟨v,H1,hp,hpm⟩:=Two.pq29c c hs
 have hle:=Two.chk_le hp
 obtain ⟨⟨R,hR⟩,hp1,hp2⟩:=hp
 refine Pf.run [cat c,.d (num n),.any,.any,.any,.any,.any,.any,.any] rfl rfl rfl rfl ?_
 cases e:eqB (checkC c).2 0 with
 |false =>
  obtain rfl:=hp1 e
  subst hR
  repeat' (first|refine cp hpm hle ?_|refine gx ?_|fail)
  first|refine Ex.testB (true) (Rn.text ?_) (fun h1=> ?_) (fun h1=> ?_)|refine Ex.testB (true) (Rn.draw ?_) (fun h1=> ?_) (fun h1=> ?_)
  ·repeat' (first|refine cl (e) ?_|refine gx ?_|refine fk (h1:=fun hw=> ?_) (h2:=fun hw=> ?_)|refine fpk (h1:=fun hw=> ?_) (h2:=fun hw=> ?_)|refine ⟨rfl,rfl,_,rfl,?_⟩|refine ⟨rfl,rfl⟩|fail)
   all_goals first|(simp [*,oneOrTuple];done)|(simp_all [oneOrTuple];done)|(simp_all [oneOrTuple,ltB_eq,leB_eq,eqB_eq,seB_eq];done)|(simp_all [oneOrTuple,ltB_eq,leB_eq,eqB_eq,seB_eq]<;>omega)
  ·repeat' (first|refine gx ?_|fail)
   exact ⟨_,rfl,rfl⟩
  ·cases h1
 |true =>
  obtain ⟨rfl,hH⟩:=hp2 e
  subst hH
  have p38:=Two.pm38 c c.names (stors c (Cat.ns c)) n
  rw [stors_len] at p38
  have h2:(leB 0 n&&ltB n (Cat.ns c))=false:=by unfold isSto validC at h;rw [e] at h;exact h
  rw [h2] at p38
  repeat' (first|refine cp hpm hle ?_|refine gx ?_|fail)
  first|refine Ex.testB (true) (Rn.text ?_) (fun h1=> ?_) (fun h1=> ?_)|refine Ex.testB (true) (Rn.draw ?_) (fun h1=> ?_) (fun h1=> ?_)
  ·repeat' (first|refine Two.ck p38 ?_|refine gx ?_|refine fk (h1:=fun hw=> ?_) (h2:=fun hw=> ?_)|refine fpk (h1:=fun hw=> ?_) (h2:=fun hw=> ?_)|refine ⟨rfl,rfl,_,rfl,?_⟩|refine ⟨rfl,rfl⟩|fail)
   all_goals first|(simp [*,oneOrTuple];done)|(simp_all [oneOrTuple];done)|(simp_all [oneOrTuple,ltB_eq,leB_eq,eqB_eq,seB_eq];done)|(simp_all [oneOrTuple,ltB_eq,leB_eq,eqB_eq,seB_eq]<;>omega)
  ·repeat' (first|refine gx ?_|fail)
   exact ⟨_,rfl,rfl⟩
  ·cases h1
theorem pf56f (c:Cat)(hs:Small2 c)(n:Int)(h:isSto c n=false):Pf A 56 [cat c,.d (num n)] (.own 1 0 []):=by
 have p85:=pf85 c hs n
 rw [h] at p85
 refine Pf.run [cat c,.d (num n),.any,.any,.any,.any,.any,.any] rfl rfl rfl rfl ?_
 repeat' (first|refine gx ?_|fail)
 first|refine Ex.testB (true) (Rn.text ?_) (fun h1=> ?_) (fun h1=> ?_)|refine Ex.testB (true) (Rn.draw ?_) (fun h1=> ?_) (fun h1=> ?_)
 ·repeat' (first|refine cl (p85) ?_|refine gx ?_|refine fk (h1:=fun hw=> ?_) (h2:=fun hw=> ?_)|refine fpk (h1:=fun hw=> ?_) (h2:=fun hw=> ?_)|refine ⟨rfl,rfl,_,rfl,?_⟩|refine ⟨rfl,rfl⟩|fail)
  all_goals first|(simp [*,oneOrTuple];done)|(simp_all [oneOrTuple];done)|(simp_all [oneOrTuple,ltB_eq,leB_eq,eqB_eq,seB_eq];done)|(simp_all [oneOrTuple,ltB_eq,leB_eq,eqB_eq,seB_eq]<;>omega)
 ·repeat' (first|refine gx ?_|fail)
  exact ⟨_,rfl,rfl⟩
 ·cases h1
theorem depU_lt (c:Cat)(st:Int):∀ k,∀ s,s ∈ depU c st k→s<k
 |0,s,h=>by simp [depU] at h
 |k+1,s,h=>by
  simp only [depU,List.mem_append] at h
  rcases h with h|h
  ·have:=depU_lt c st k s h;omega
  ·split at h
   ·simp only [List.mem_singleton] at h;omega
   ·simp at h
theorem addI_last:∀ (l:List Int) (n:Int),(∀ s,s ∈ l→s<n)→addI l n=l++[n]
 |[],n,_=>rfl
 |x::l,n,h=>by
  have:=h x (by simp)
  simp only [addI,this,if_true,addI_last l n (fun s hs=>h s (by simp [hs])),List.cons_append]
theorem addI_again:∀ (l:List Int) (n:Int),(∀ s,s ∈ l→s<n)→addI (l++[n]) n=l++[n]
 |[],n,_=>by simp [addI]
 |x::l,n,h=>by
  have:=h x (by simp)
  simp only [List.cons_append,addI,this,if_true,addI_again l n (fun s hs=>h s (by simp [hs]))]
theorem hasB_any:∀ (l:List Int) (s:Int),hasB l s=l.any fun y=>eqB y s:=by
 intro l s
 induction l with
 |nil=>rfl
 |cons x l ih=>simp [hasB,ih]
def depI (c:Cat)(st:Int)(k i:Nat):List Int:=depU c st k++(if ((srcC c k).take i).any (depB st (depU c st k)) then [(k:Int)] else [])
set_option maxHeartbeats 8000000 in
theorem pf56t (c:Cat)(hs:Small2 c)(st:Nat)(h:isSto c st=true):Pf A 56 [cat c,.d (num st)] (.d (ints (depU c st (Cat.ns c)))):=by
 have p85:=pf85 c hs st
 rw [h] at p85
 have hv:=isSto_v h
 have h3:=(isSto_t h).2.2
 obtain ⟨f0,f1,f2,f3,f4,f5,f6,f7⟩:=id hs.sm.few
 have hns:Cat.ns c=c.tabs.length+c.views.length:=rfl
 have h20:=many_ns (valid_ok hv).2.1
 have p55:∀ k:Nat,c.tabs.length≤k→k<Cat.ns c→Pf A 55 [cat c,.d (num k)] (.d (ints (srcC c k))):=fun k hk hk2=>by
  refine pf55v c hs k ?_ (by omega)
  unfold isSto
  rw [hv]
  simp [leB_eq,ltB_eq]
  omega
 refine Pf.run [cat c,.d (num st),.any,.any,.any,.any,.any,.any] rfl rfl rfl rfl ?_
 repeat' (first|refine gx ?_|fail)
 first|refine Ex.testB (false) (Rn.text ?_) (fun h1=> ?_) (fun h1=> ?_)|refine Ex.testB (false) (Rn.draw ?_) (fun h1=> ?_) (fun h1=> ?_)
 ·repeat' (first|refine cl (p85) ?_|refine gx ?_|refine fk (h1:=fun hw=> ?_) (h2:=fun hw=> ?_)|refine fpk (h1:=fun hw=> ?_) (h2:=fun hw=> ?_)|refine ⟨rfl,rfl,_,rfl,?_⟩|refine ⟨rfl,rfl⟩|fail)
  all_goals first|(simp [*,oneOrTuple];done)|(simp_all [oneOrTuple];done)|(simp_all [oneOrTuple,ltB_eq,leB_eq,eqB_eq,seB_eq];done)|(simp_all [oneOrTuple,ltB_eq,leB_eq,eqB_eq,seB_eq]<;>omega)
 ·cases h1
 repeat' (first|refine gx ?_|fail)
 refine Ex.loopS (fun q T H=>∃ (k:Nat) (w0 w3 w4 w6 w7:AVal),T=[w0,.d (num st),.ptr 0 0,w3,w4,.d (num k),w6,w7]∧H=[.cells (c.enc.map .d)]∧IsL w4 (depU c st k)∧k+q=Cat.ns c∧c.tabs.length≤k) (by rintro _ _ _ ⟨_,_,_,_,_,_,_,rfl,_⟩;rfl) ?_ (k:=c.views.length) ⟨c.tabs.length,_,_,_,_,_,rfl,rfl,.inr (by rw [depU_tabs c st _ (Nat.le_refl _)];rfl),by omega,Nat.le_refl _⟩
 rintro q _ _ ⟨k,w0,w3,w4,w6,w7,rfl,rfl,hw,hq,hk⟩
 refine Ex.nT ?_
 refine Ex.seq ?_
 first|refine Ex.testB (ltB k (Cat.ns c)) (Rn.text ?_) (fun g1=> ?_) (fun g1=> ?_)|refine Ex.testB (ltB k (Cat.ns c)) (Rn.draw ?_) (fun g1=> ?_) (fun g1=> ?_)
 ·repeat' (first|refine cl (hns) ?_|refine gx ?_|refine fk (h1:=fun hw=> ?_) (h2:=fun hw=> ?_)|refine fpk (h1:=fun hw=> ?_) (h2:=fun hw=> ?_)|refine ⟨rfl,rfl,_,rfl,?_⟩|refine ⟨rfl,rfl⟩|fail)
  all_goals first|(simp [*,oneOrTuple];done)|(simp_all [oneOrTuple];done)|(simp_all [oneOrTuple,ltB_eq,leB_eq,eqB_eq,seB_eq];done)|(simp_all [oneOrTuple,ltB_eq,leB_eq,eqB_eq,seB_eq]<;>omega)
 ·have g2:=ltB_t g1
  have p1:=p55 k hk (by omega)
  have hsl:=srcC_len c k
  have hdl:=depU_len c st k
  repeat' (first|refine cl (p1) ?_|refine gx ?_|fail)
  refine Ex.loopS (fun q2 T H=>∃ (i:Nat) (w0 w3 w4:AVal),T=[w0,.d (num st),.ptr 0 0,w3,w4,.d (num k),.d (ints (srcC c k)),.d (num i)]∧H=[.cells (c.enc.map .d)]∧IsL w4 (depI c st k i)∧i+q2=(srcC c k).length) (by rintro _ _ _ ⟨_,_,_,_,_,rfl,_⟩;rfl) ?_ (k:=(srcC c k).length) ⟨0,_,_,_,rfl,rfl,by simpa [depI] using hw,by simp⟩
  clear hw
  rintro q2 _ _ ⟨i,w0,w3,w4,rfl,rfl,hw,hq2⟩
  refine Ex.nT ?_
  refine Ex.seq ?_
  refine tb (ltB i (srcC c k).length) (fun g3=> ?_) (fun g3=> ?_)
  ·have g4:=ltB_t g3
   have hil:i<(srcC c k).length:=by omega
   have hlt:nth (srcC c k) i<k:=srcC_lt hv (by omega) _ (by rw [nth_eq hil];exact List.getElem_mem hil)
   have hha:hasB (depI c st k i) (nth (srcC c k) i)=(depU c st k).any fun y=>eqB y (nth (srcC c k) i):=by
    rw [hasB_any]
    unfold depI
    rw [List.any_append]
    split
    ·have:eqB (k:Int) (nth (srcC c k) i)=false:=by rw [eqB_eq];simp;omega
     simp [this]
    ·simp
   have hIl:(depI c st k i).length≤k+1:=by unfold depI;split<;>simp<;>omega
   have p89:=pf89 (depI c st k i) (nth (srcC c k) i) (by omega)
   rw [hha] at p89
   have p88:=pf88 (depI c st k i) k (by omega)
   have hlt2:=depU_lt c st k
   have hadd:addI (depI c st k i) k=depU c st k++[(k:Int)]:=by
    unfold depI
    split
    ·exact addI_again _ _ hlt2
    ·simpa using addI_last _ _ hlt2
   rw [hadd] at p88
   obtain ⟨w5,hw5,p88⟩:=p88
   have hwa:=hw.as
   have e1:depI c st k (i+1)=if depB st (depU c st k) (nth (srcC c k) i) then depU c st k++[(k:Int)] else depI c st k i:=by
    unfold depI
    rw [take_nth hil]
    simp only [List.any_append,List.any_cons,List.any_nil,Bool.or_false]
    cases depB st (depU c st k) (nth (srcC c k) i)<;>simp
   repeat' (first|refine gx ?_|fail)
   first|refine Ex.testB (depB st (depU c st k) (nth (srcC c k) i)) (Rn.text ?_) (fun g5=> ?_) (fun g5=> ?_)|refine Ex.testB (depB st (depU c st k) (nth (srcC c k) i)) (Rn.draw ?_) (fun g5=> ?_) (fun g5=> ?_)
   ·repeat' (first|refine mvA hwa ?_|refine cl (p89) ?_|refine gx ?_|refine fk (h1:=fun hw=> ?_) (h2:=fun hw=> ?_)|refine fpk (h1:=fun hw=> ?_) (h2:=fun hw=> ?_)|refine ⟨rfl,rfl,_,rfl,?_⟩|refine ⟨rfl,rfl⟩|fail)
    all_goals first|(simp [*,oneOrTuple,depB];done)|(simp_all [oneOrTuple,depB];done)|(simp_all [oneOrTuple,depB,ltB_eq,leB_eq,eqB_eq,seB_eq];done)|(simp_all [oneOrTuple,depB,ltB_eq,leB_eq,eqB_eq,seB_eq]<;>omega)
   ·rw [g5,if_pos rfl] at e1
    rcases hw5 with rfl|rfl
    ·repeat' (first|refine mvA hwa ?_|refine cl (p88) ?_|refine gx ?_|fail)
     exact ⟨q2 - 1,by omega,i+1,_,_,_,rfl,rfl,.inl (by rw [e1]),by omega⟩
    ·repeat' (first|refine mvA hwa ?_|refine cl (p88) ?_|refine gx ?_|fail)
     exact ⟨q2 - 1,by omega,i+1,_,_,_,rfl,rfl,.inr (by rw [e1];rfl),by omega⟩
   ·rw [g5,if_neg (by simp)] at e1
    repeat' (first|refine gx ?_|fail)
    exact ⟨q2 - 1,by omega,i+1,_,_,_,rfl,rfl,by rw [e1];exact hw,by omega⟩
  ·have g4:=ltB_f g3
   repeat' (first|refine gx ?_|fail)
   refine ⟨q - 1,by omega,k+1,_,_,_,_,_,rfl,rfl,?_,by omega,by omega⟩
   have:depI c st k i=depU c st (k+1):=by unfold depI;rw [List.take_of_length_le (by omega)];rfl
   rw [← this]
   exact hw
 ·have g2:=ltB_f g1
  obtain rfl:k=Cat.ns c:=by omega
  have hwa:=hw.as
  repeat' (first|refine mvA hwa ?_|refine gx ?_|fail)
  exact ⟨_,rfl,rfl⟩
end Go.Proofs.YtkmclibmmlgogaaGreat

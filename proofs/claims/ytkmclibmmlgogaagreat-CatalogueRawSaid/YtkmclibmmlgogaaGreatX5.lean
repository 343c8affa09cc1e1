/-
  Small: which catalogues a law looks at.; Small, walked; what is small is small enough.
  (Put together by a small program out of several texts; blanks left out to keep the folder small.)
-/
import Derived.Test.YtkmclibmmlgogaaGreatD1
import Derived.Test.YtkmclibmmlgogaaGreatD2
import Derived.Test.YtkmclibmmlgogaaGreatB6
import Derived.Test.YtkmclibmmlgogaaGreatD6
set_option linter.unusedVariables false
set_option linter.unusedSimpArgs false
namespace Go.Proofs.YtkmclibmmlgogaaGreat
open Go.Abs Go.Abs.S
attribute [local irreducible] Rx Ry Rn Ex Pf
@[irreducible] def wr64 (n:Int):Int:=IntKind.i64.wrap n
section
variable {A:Prog} {l:Lim} {b:Nat} {dr:Bool} {ais ops:List AIns} {T:List AVal} {H:Heap} {n:Nat} {rl:List AVal} {tch:List Abs.Touch} {Q:List AVal→Heap→List AVal→Prop}
theorem adw {x y:Opd}{c d:Int}{u:List Nat}(h2:Ry A l b dr ais ops T H (n+1) (.d (num (wr64 (c+d)))::rl) tch Q)(hx:rq T n rl x= .d (.int .i64 c):=by rfl)(hy:rq T n rl y= .d (.int .i64 d):=by rfl) :
  Ry A l b dr ais (⟨.bin .add x y,none,none,u⟩::ops) T H n rl tch Q:=Ry.pure (rs:=[]) rfl (by unfold wr64;simp only [pureOp,hx,hy];rfl) h2
end
theorem take_drop_cons {α:Type} [Inhabited α] {l:List α}{n i:Nat}(h:i<n)(h2:i<l.length):(l.take n).drop i=nth l i::(l.take n).drop (i+1):=by
 rw [drop_nth (by simp;omega),nth_eq (by simp;omega),nth_eq (by omega)]
 simp
def smTrm (t:Trm):Bool:= !ltB 100 t.text.length
def smExpr (e:List Trm):Bool:=(e.take 100).all smTrm&&leB e.length 80
theorem pf83 (e:List Trm):Pf A 83 [trms e] (.d (.bool (smExpr e))):=by
 refine Pf.run [trms e,.any,.any] rfl rfl rfl rfl ?_
 repeat' (first|refine gx ?_|fail)
 refine Ex.loopS (fun k T H=>∃ (i:Nat) (v:AVal),T=[trms e,v,.d (num i)]∧H=[]∧i+k=min e.length 100∧smExpr e=(((e.take 100).drop i).all smTrm&&leB e.length 80)) (by rintro _ _ _ ⟨_,_,_,rfl,_⟩;rfl) ?_ (k:=min e.length 100) ⟨0,_,rfl,rfl,by simp,by simp [smExpr]⟩
 rintro k _ _ ⟨i,v,rfl,rfl,hk,hi⟩
 refine Ex.nT ?_
 refine Ex.seq ?_
 refine tb (ltB i e.length&&ltB i 100) (fun h1=> ?_) (fun h1=> ?_)
 ·have h2:i<e.length∧i<100:=by simp [ltB_eq] at h1;omega
  rw [take_drop_cons h2.2 h2.1] at hi
  repeat' (first|refine gx ?_|fail)
  refine tb (ltB 100 (nth e i).text.length) (fun h3=> ?_) (fun h3=> ?_)
  ·repeat' (first|refine gx ?_|fail)
   exact ⟨_,rfl,by simp [oneOrTuple,hi,smTrm,h3]⟩
  ·repeat' (first|refine gx ?_|fail)
   exact ⟨k - 1,by omega,i+1,_,rfl,rfl,by omega,by simp [hi,smTrm,h3]⟩
 ·have h2:e.length≤i∨100≤i:=by simp [ltB_eq] at h1;omega
  rw [List.drop_of_length_le (by simp;omega)] at hi
  repeat' (first|refine gx ?_|fail)
  exact ⟨_,rfl,by simp [oneOrTuple,hi]⟩
def smV0 (v:Vw):Bool:=ltB 100 (wr64 (v.name.length+v.left.length))||ltB 100 v.right.length||ltB 20 v.on.length||ltB 12 v.items.length||ltB 12 v.aggs.length|| !smExpr v.wh
def smItm (x:Itm):Bool:= !(ltB 100 x.name.length|| !smExpr x.expr)
def smAgr (x:Agr):Bool:= !(ltB 100 x.name.length|| !smExpr x.expr)
def smView (v:Vw):Bool:= !smV0 v&&(v.items.all smItm&&v.aggs.all smAgr)
set_option maxHeartbeats 8000000 in
theorem pf50 (v:Vw):Pf A 50 [vw v] (.d (.bool (smView v))):=by
 refine Pf.run [vw v,.any,.any,.any,.any] rfl rfl rfl rfl ?_
 repeat' (first|refine gx ?_|fail)
 first|refine Ex.testB (smV0 v) (Rn.text ?_) (fun h0=> ?_) (fun h0=> ?_)|refine Ex.testB (smV0 v) (Rn.draw ?_) (fun h0=> ?_) (fun h0=> ?_)
 ·repeat' (first|refine cl (pf83 _) ?_|refine adw ?_|refine gx ?_|refine fk (h1:=fun hw=> ?_) (h2:=fun hw=> ?_)|refine fpk (h1:=fun hw=> ?_) (h2:=fun hw=> ?_)|refine ⟨rfl,rfl,_,rfl,?_⟩|refine ⟨rfl,rfl⟩|fail)
  all_goals first|(simp [*,oneOrTuple,smV0];done)|(simp_all [oneOrTuple,smV0];done)|(simp_all [oneOrTuple,smV0,ltB_eq,leB_eq,eqB_eq,seB_eq];done)|(simp_all [oneOrTuple,smV0,ltB_eq,leB_eq,eqB_eq,seB_eq]<;>omega)
 ·repeat' (first|refine gx ?_|fail)
  exact ⟨_,rfl,by simp [oneOrTuple,smView,h0]⟩
 have hb:v.items.length≤12∧v.aggs.length≤12:=by
  have h:=h0
  simp only [smV0,Bool.or_eq_false_iff,ltB_eq,decide_eq_false_iff_not] at h
  omega
 repeat' (first|refine gx ?_|fail)
 refine Ex.loopS (fun k T H=>∃ (i:Nat) (w0 w2 w4:AVal),T=[w0,.ptr 0 0,w2,.d (num i),w4]∧H=[.cells (v.enc.map .d)]∧i+k=v.items.length∧smView v=((v.items.drop i).all smItm&&v.aggs.all smAgr)) (by rintro _ _ _ ⟨_,_,_,_,_,rfl,_⟩;rfl) ?_ (k:=v.items.length) ⟨0,_,_,_,rfl,rfl,by simp,by simp [smView,h0]⟩
 rintro k _ _ ⟨i,w0,w2,w4,rfl,rfl,hk,hi⟩
 refine Ex.nT ?_
 refine Ex.seq ?_
 refine tb (ltB i v.items.length) (fun h1=> ?_) (fun h1=> ?_)
 ·have h2:=ltB_t h1
  rw [drop_nth (by omega)] at hi
  repeat' (first|refine gx ?_|fail)
  first|refine Ex.testB (ltB 100 (nth v.items i).name.length|| !smExpr (nth v.items i).expr) (Rn.text ?_) (fun h3=> ?_) (fun h3=> ?_)|refine Ex.testB (ltB 100 (nth v.items i).name.length|| !smExpr (nth v.items i).expr) (Rn.draw ?_) (fun h3=> ?_) (fun h3=> ?_)
  ·repeat' (first|refine cl (pf83 _) ?_|refine gx ?_|refine fk (h1:=fun hw=> ?_) (h2:=fun hw=> ?_)|refine fpk (h1:=fun hw=> ?_) (h2:=fun hw=> ?_)|refine ⟨rfl,rfl,_,rfl,?_⟩|refine ⟨rfl,rfl⟩|fail)
   all_goals first|(simp [*,oneOrTuple];done)|(simp_all [oneOrTuple];done)|(simp_all [oneOrTuple,ltB_eq,leB_eq,eqB_eq,seB_eq];done)|(simp_all [oneOrTuple,ltB_eq,leB_eq,eqB_eq,seB_eq]<;>omega)
  ·repeat' (first|refine gx ?_|fail)
   exact ⟨_,rfl,by simp only [oneOrTuple,hi,List.all_cons,smItm,h3,Bool.not_true,Bool.false_and]⟩
  ·repeat' (first|refine gx ?_|fail)
   exact ⟨k - 1,by omega,i+1,_,_,_,rfl,rfl,by omega,by simp only [hi,List.all_cons,smItm,h3,Bool.not_false,Bool.true_and]⟩
 have h2:=ltB_f h1
 rw [List.drop_of_length_le (by omega),List.all_nil,Bool.true_and] at hi
 repeat' (first|refine gx ?_|fail)
 clear h1
 refine Ex.loopS (fun k T H=>∃ (i:Nat) (w0 w2 w3:AVal),T=[w0,.ptr 0 0,w2,w3,.d (num i)]∧H=[.cells (v.enc.map .d)]∧i+k=v.aggs.length∧smView v=(v.aggs.drop i).all smAgr) (by rintro _ _ _ ⟨_,_,_,_,_,rfl,_⟩;rfl) ?_ (k:=v.aggs.length) ⟨0,_,_,_,rfl,rfl,by simp,by simp [hi]⟩
 clear hi h2 hk
 rintro k _ _ ⟨i,w0,w2,w3,rfl,rfl,hk,hi⟩
 refine Ex.nT ?_
 refine Ex.seq ?_
 refine tb (ltB i v.aggs.length) (fun h1=> ?_) (fun h1=> ?_)
 ·have h2:=ltB_t h1
  rw [drop_nth (by omega)] at hi
  repeat' (first|refine gx ?_|fail)
  first|refine Ex.testB (ltB 100 (nth v.aggs i).name.length|| !smExpr (nth v.aggs i).expr) (Rn.text ?_) (fun h3=> ?_) (fun h3=> ?_)|refine Ex.testB (ltB 100 (nth v.aggs i).name.length|| !smExpr (nth v.aggs i).expr) (Rn.draw ?_) (fun h3=> ?_) (fun h3=> ?_)
  ·repeat' (first|refine cl (pf83 _) ?_|refine gx ?_|refine fk (h1:=fun hw=> ?_) (h2:=fun hw=> ?_)|refine fpk (h1:=fun hw=> ?_) (h2:=fun hw=> ?_)|refine ⟨rfl,rfl,_,rfl,?_⟩|refine ⟨rfl,rfl⟩|fail)
   all_goals first|(simp [*,oneOrTuple];done)|(simp_all [oneOrTuple];done)|(simp_all [oneOrTuple,ltB_eq,leB_eq,eqB_eq,seB_eq];done)|(simp_all [oneOrTuple,ltB_eq,leB_eq,eqB_eq,seB_eq]<;>omega)
  ·repeat' (first|refine gx ?_|fail)
   exact ⟨_,rfl,by simp only [oneOrTuple,hi,List.all_cons,smAgr,h3,Bool.not_true,Bool.false_and]⟩
  ·repeat' (first|refine gx ?_|fail)
   exact ⟨k - 1,by omega,i+1,_,_,_,rfl,rfl,by omega,by simp only [hi,List.all_cons,smAgr,h3,Bool.not_false,Bool.true_and]⟩
 have h2:=ltB_f h1
 rw [List.drop_of_length_le (by omega),List.all_nil] at hi
 repeat' (first|refine gx ?_|fail)
 exact ⟨_,rfl,by simp [oneOrTuple,hi]⟩
end Go.Proofs.YtkmclibmmlgogaaGreat
namespace Go.Proofs.YtkmclibmmlgogaaGreat
open Go.Abs Go.Abs.S
attribute [local irreducible] Rx Ry Rn Ex Pf
def smCol (x:Col):Bool:= !(ltB 100 x.name.length||ltB 100 x.space.length||ltB 100 x.refs.length||ltB 12 x.owners.length)
def smTab (t:Tab):Bool:= !(ltB 100 t.name.length||ltB 12 t.cols.length)&&t.cols.all smCol
def smBk (x:Bkp):Bool:= !ltB 20 x.tables.length
def sm0 (c:Cat):Bool:=ltB 10 c.tabs.length||ltB 14 c.views.length||ltB 18 (max2 (max2 (max2 (max2 (max2 c.idxs.length c.skts.length) c.cchs.length) c.rlss.length) c.stms.length) c.bkps.length)
def smallB (c:Cat):Bool:= !sm0 c&&(c.tabs.all smTab&&(c.views.all smView&&c.bkps.all smBk))
theorem max2_le (x y:Int):x≤max2 x y∧y≤max2 x y:=by unfold max2;split<;>omega
theorem sm0_few {c:Cat}(h:sm0 c=false):c.tabs.length≤10∧c.views.length≤14∧c.idxs.length≤18∧c.skts.length≤18∧c.cchs.length≤18∧c.rlss.length≤18∧c.stms.length≤18∧c.bkps.length≤18:=by
 unfold sm0 at h
 simp only [Bool.or_eq_false_iff] at h
 obtain ⟨⟨h1,h2⟩,h3⟩:=h
 have h1:=ltB_f h1
 have h2:=ltB_f h2
 have h3:=ltB_f h3
 have a1:=max2_le c.idxs.length c.skts.length
 have a2:=max2_le (max2 c.idxs.length c.skts.length) c.cchs.length
 have a3:=max2_le (max2 (max2 c.idxs.length c.skts.length) c.cchs.length) c.rlss.length
 have a4:=max2_le (max2 (max2 (max2 c.idxs.length c.skts.length) c.cchs.length) c.rlss.length) c.stms.length
 have a5:=max2_le (max2 (max2 (max2 (max2 c.idxs.length c.skts.length) c.cchs.length) c.rlss.length) c.stms.length) c.bkps.length
 omega
set_option maxHeartbeats 16000000 in
theorem pf21 (c:Cat):Pf A 21 [cat c] (.d (.bool (smallB c))):=by
 refine Pf.run [cat c,.any,.any,.any,.any,.any,.any,.any] rfl rfl rfl rfl ?_
 repeat' (first|refine gx ?_|fail)
 first|refine Ex.testB (sm0 c) (Rn.text ?_) (fun h0=> ?_) (fun h0=> ?_)|refine Ex.testB (sm0 c) (Rn.draw ?_) (fun h0=> ?_) (fun h0=> ?_)
 ·repeat' (first|refine mm (d:= .int .i64 (max2 (max2 (max2 (max2 (max2 c.idxs.length c.skts.length) c.cchs.length) c.rlss.length) c.stms.length) c.bkps.length)) ?_|refine gx ?_|refine fk (h1:=fun hw=> ?_) (h2:=fun hw=> ?_)|refine fpk (h1:=fun hw=> ?_) (h2:=fun hw=> ?_)|refine ⟨rfl,rfl,_,rfl,?_⟩|refine ⟨rfl,rfl⟩|fail)
  all_goals first|(simp [*,oneOrTuple,sm0];done)|(simp_all [oneOrTuple,sm0];done)|(simp_all [oneOrTuple,sm0,ltB_eq,leB_eq,eqB_eq,seB_eq];done)|(simp_all [oneOrTuple,sm0,ltB_eq,leB_eq,eqB_eq,seB_eq]<;>omega)
 ·repeat' (first|refine gx ?_|fail)
  exact ⟨_,rfl,by simp [oneOrTuple,smallB,h0]⟩
 have hf:=sm0_few h0
 repeat' (first|refine gx ?_|fail)
 refine Ex.loopS (fun k T H=>∃ (i:Nat) (w0 w2 w4 w5 w6 w7:AVal),T=[w0,.ptr 0 0,w2,.d (num i),w4,w5,w6,w7]∧H=[.cells (c.enc.map .d)]∧i+k=c.tabs.length∧smallB c=((c.tabs.drop i).all smTab&&(c.views.all smView&&c.bkps.all smBk))) (by rintro _ _ _ ⟨_,_,_,_,_,_,_,_,rfl,_⟩;rfl) ?_ (k:=c.tabs.length) ⟨0,_,_,_,_,_,_,rfl,rfl,by simp,by simp [smallB,h0]⟩
 rintro k _ _ ⟨i,w0,w2,w4,w5,w6,w7,rfl,rfl,hk,hi⟩
 refine Ex.nT ?_
 refine Ex.seq ?_
 refine tb (ltB i c.tabs.length) (fun h1=> ?_) (fun h1=> ?_)
 ·have h2:=ltB_t h1
  rw [drop_nth (by omega)] at hi
  repeat' (first|refine gx ?_|fail)
  refine tb (ltB 100 (nth c.tabs i).name.length||ltB 12 (nth c.tabs i).cols.length) (fun h3=> ?_) (fun h3=> ?_)
  ·repeat' (first|refine gx ?_|fail)
   exact ⟨_,rfl,by simp only [oneOrTuple,hi,List.all_cons,smTab,h3,Bool.not_true,Bool.false_and]⟩
  have hc:(nth c.tabs i).cols.length≤12:=by
   simp only [Bool.or_eq_false_iff] at h3
   have:=ltB_f h3.2
   omega
  repeat' (first|refine gx ?_|fail)
  refine Ex.loopC (fun q T H=>∃ (j:Nat),T=[.any,.ptr 0 0,.any,.d (num i),.d (num j),.any,.any,.any]∧H=[.cells (c.enc.map .d)]∧j+q=(nth c.tabs i).cols.length∧smTab (nth c.tabs i)=((nth c.tabs i).cols.drop j).all smCol) ?_ (k:=(nth c.tabs i).cols.length) ⟨0,rfl,rfl,by simp,by simp only [smTab,h3,Bool.not_false,Bool.true_and,List.drop_zero]⟩
  rintro q _ _ ⟨j,rfl,rfl,hq,hj⟩
  refine Ex.seq ?_
  refine tb (ltB j (nth c.tabs i).cols.length) (fun h4=> ?_) (fun h4=> ?_)
  ·have h5:=ltB_t h4
   rw [drop_nth (by omega)] at hj
   repeat' (first|refine gx ?_|fail)
   refine tb (ltB 100 (nth (nth c.tabs i).cols j).name.length||ltB 100 (nth (nth c.tabs i).cols j).space.length||ltB 100 (nth (nth c.tabs i).cols j).refs.length||ltB 12 (nth (nth c.tabs i).cols j).owners.length) (fun h6=> ?_) (fun h6=> ?_)
   ·repeat' (first|refine gx ?_|fail)
    exact ⟨_,rfl,by simp only [oneOrTuple,hi,List.all_cons,hj,smCol,h6,Bool.not_true,Bool.false_and]⟩
   ·repeat' (first|refine gx ?_|fail)
    exact ⟨q - 1,by omega,_,_,clean_of (Nat.le_of_ble_eq_true rfl) (Nat.le_of_ble_eq_true rfl),j+1,rfl,rfl,by omega,by simp only [hj,List.all_cons,smCol,h6,Bool.not_false,Bool.true_and]⟩
  ·have h5:=ltB_f h4
   rw [List.drop_of_length_le (by omega),List.all_nil] at hj
   repeat' (first|refine gx ?_|fail)
   exact ⟨k - 1,by omega,i+1,_,_,_,_,_,_,rfl,rfl,by omega,by rw [hi,List.all_cons,hj,Bool.true_and]⟩
 have h2:=ltB_f h1
 rw [List.drop_of_length_le (by omega),List.all_nil,Bool.true_and] at hi
 repeat' (first|refine gx ?_|fail)
 clear h1
 refine Ex.loopS (fun k T H=>∃ (i:Nat) (w0 w2 w3 w4 w5 w7:AVal),T=[w0,.ptr 0 0,w2,w3,w4,w5,.d (num i),w7]∧H=[.cells (c.enc.map .d)]∧i+k=c.views.length∧smallB c=((c.views.drop i).all smView&&c.bkps.all smBk)) (by rintro _ _ _ ⟨_,_,_,_,_,_,_,_,rfl,_⟩;rfl) ?_ (k:=c.views.length) ⟨0,_,_,_,_,_,_,rfl,rfl,by simp,by simp [hi]⟩
 clear hi h2 hk
 rintro k _ _ ⟨i,w0,w2,w3,w4,w5,w7,rfl,rfl,hk,hi⟩
 refine Ex.nT ?_
 refine Ex.seq ?_
 refine tb (ltB i c.views.length) (fun h1=> ?_) (fun h1=> ?_)
 ·have h2:=ltB_t h1
  rw [drop_nth (by omega)] at hi
  repeat' (first|refine gx ?_|fail)
  first|refine Ex.testB (!smView (nth c.views i)) (Rn.text ?_) (fun h3=> ?_) (fun h3=> ?_)|refine Ex.testB (!smView (nth c.views i)) (Rn.draw ?_) (fun h3=> ?_) (fun h3=> ?_)
  ·repeat' (first|refine cl (pf50 _) ?_|refine gx ?_|refine fk (h1:=fun hw=> ?_) (h2:=fun hw=> ?_)|refine fpk (h1:=fun hw=> ?_) (h2:=fun hw=> ?_)|refine ⟨rfl,rfl,_,rfl,?_⟩|refine ⟨rfl,rfl⟩|fail)
   all_goals first|(simp [*,oneOrTuple];done)|(simp_all [oneOrTuple];done)|(simp_all [oneOrTuple,ltB_eq,leB_eq,eqB_eq,seB_eq];done)|(simp_all [oneOrTuple,ltB_eq,leB_eq,eqB_eq,seB_eq]<;>omega)
  ·repeat' (first|refine gx ?_|fail)
   exact ⟨_,rfl,by simp_all [oneOrTuple]⟩
  ·repeat' (first|refine gx ?_|fail)
   exact ⟨k - 1,by omega,i+1,_,_,_,_,_,_,rfl,rfl,by omega,by simp_all⟩
 have h2:=ltB_f h1
 rw [List.drop_of_length_le (by omega),List.all_nil,Bool.true_and] at hi
 repeat' (first|refine gx ?_|fail)
 clear h1
 refine Ex.loopS (fun k T H=>∃ (i:Nat) (w0 w2 w3 w4 w5 w6:AVal),T=[w0,.ptr 0 0,w2,w3,w4,w5,w6,.d (num i)]∧H=[.cells (c.enc.map .d)]∧i+k=c.bkps.length∧smallB c=(c.bkps.drop i).all smBk) (by rintro _ _ _ ⟨_,_,_,_,_,_,_,_,rfl,_⟩;rfl) ?_ (k:=c.bkps.length) ⟨0,_,_,_,_,_,_,rfl,rfl,by simp,by simp [hi]⟩
 clear hi h2 hk
 rintro k _ _ ⟨i,w0,w2,w3,w4,w5,w6,rfl,rfl,hk,hi⟩
 refine Ex.nT ?_
 refine Ex.seq ?_
 refine tb (ltB i c.bkps.length) (fun h1=> ?_) (fun h1=> ?_)
 ·have h2:=ltB_t h1
  rw [drop_nth (by omega)] at hi
  repeat' (first|refine gx ?_|fail)
  refine tb (ltB 20 (nth c.bkps i).tables.length) (fun h3=> ?_) (fun h3=> ?_)
  ·repeat' (first|refine gx ?_|fail)
   exact ⟨_,rfl,by simp only [oneOrTuple,hi,List.all_cons,smBk,h3,Bool.not_true,Bool.false_and]⟩
  ·repeat' (first|refine gx ?_|fail)
   exact ⟨k - 1,by omega,i+1,_,_,_,_,_,_,rfl,rfl,by omega,by simp only [hi,List.all_cons,smBk,h3,Bool.not_false,Bool.true_and]⟩
 have h2:=ltB_f h1
 rw [List.drop_of_length_le (by omega),List.all_nil] at hi
 repeat' (first|refine gx ?_|fail)
 exact ⟨_,rfl,by simp [oneOrTuple,hi]⟩
theorem smExpr_len {e:List Trm}(h:smExpr e=true):e.length≤80:=by
 simp only [smExpr,Bool.and_eq_true] at h
 have:=leB_t h.2
 omega
theorem all_nth {α:Type} [Inhabited α] {l:List α}{p:α→Bool}(h:l.all p=true){i:Nat}(hi:i<l.length):p (nth l i)=true:=List.all_eq_true.1 h _ (nth_mem hi)
theorem small_of {c:Cat}(h:smallB c=true):Small2 c:=by
 simp only [smallB,Bool.and_eq_true,Bool.not_eq_true'] at h
 obtain ⟨h0,ht,hv,hb⟩:=h
 obtain ⟨f0,f1,f2,f3,f4,f5,f6,f7⟩:=sm0_few h0
 have hT:∀ n,n<c.tabs.length→(nth c.tabs n).cols.length≤12∧(nth c.tabs n).cols.all smCol=true:=fun n hn=>by
  have:=all_nth ht hn
  simp only [smTab,Bool.and_eq_true,Bool.not_eq_true',Bool.or_eq_false_iff] at this
  have h2:=ltB_f this.1.2
  exact ⟨by omega,this.2⟩
 have hV:∀ k,k<c.views.length→smV0 (nth c.views k)=false∧(nth c.views k).items.all smItm=true∧(nth c.views k).aggs.all smAgr=true:=fun k hk=>by
  have:=all_nth hv hk
  simp only [smView,Bool.and_eq_true,Bool.not_eq_true'] at this
  exact this
 have hV0:∀ k,k<c.views.length→(nth c.views k).on.length≤20∧(nth c.views k).items.length≤12∧(nth c.views k).aggs.length≤12∧(nth c.views k).wh.length≤80:=fun k hk=>by
  have:=(hV k hk).1
  simp only [smV0,Bool.or_eq_false_iff,Bool.not_eq_false'] at this
  obtain ⟨⟨⟨⟨⟨a1,a2⟩,a3⟩,a4⟩,a5⟩,a6⟩:=this
  have a3:=ltB_f a3
  have a4:=ltB_f a4
  have a5:=ltB_f a5
  have a6:=smExpr_len a6
  omega
 refine ⟨⟨?_,fun n hn=>by have:=hT n hn;omega,fun n i hn hi=> ?_⟩,fun k hk=>by have:=hV0 k hk;omega,fun k hk=>by have:=hV0 k hk;omega,fun k hk=>by have:=hV0 k hk;omega,fun k hk=>by have:=hV0 k hk;omega,fun k i hk hi=> ?_,fun k i hk hi=> ?_,fun k hk=> ?_⟩
 ·unfold Cat.few
  omega
 ·have:=all_nth (hT n hn).2 hi
  simp only [smCol,Bool.not_eq_true',Bool.or_eq_false_iff] at this
  have:=ltB_f this.2
  omega
 ·have:=all_nth (hV k hk).2.1 hi
  simp only [smItm,Bool.not_eq_true',Bool.or_eq_false_iff,Bool.not_eq_false'] at this
  have:=smExpr_len this.2
  omega
 ·have:=all_nth (hV k hk).2.2 hi
  simp only [smAgr,Bool.not_eq_true',Bool.or_eq_false_iff,Bool.not_eq_false'] at this
  have:=smExpr_len this.2
  omega
 ·have:=all_nth hb hk
  simp only [smBk,Bool.not_eq_true'] at this
  have:=ltB_f this
  omega
end Go.Proofs.YtkmclibmmlgogaaGreat

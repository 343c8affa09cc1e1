/-
  The program's views.; The program's check.
  (Put together by a small program out of several texts; blanks left out to keep the folder small.)
-/
import Derived.Test.YtkmclibmmlgogaaGreatE0
import Derived.Test.YtkmclibmmlgogaaGreatB6
import Derived.Test.YtkmclibmmlgogaaGreatD9
import Derived.Test.YtkmclibmmlgogaaGreatD8
import Derived.Test.YtkmclibmmlgogaaGreatD6
set_option linter.unusedVariables false
set_option linter.unusedSimpArgs false
namespace Go.Proofs.YtkmclibmmlgogaaGreat
open Go.Abs Go.Abs.S
attribute [local irreducible] Rx Ry Rn Ex Pf
theorem Ex.nH {A:Go.Abs.Prog}{l:Lim}{b:Nat}{c:ACode}{T:List AVal}{H:Heap}{Q:AExit→St→Prop}(H2:Heap)(hH:H=H2)(h:Ex A l b c ⟨T,H2⟩ Q):Ex A l b c ⟨T,H⟩ Q:=hH ▸ h
theorem Rn.z {A:Go.Abs.Prog}{l:Lim}{b:Nat}{ops:List AIns}{Q:List AVal→Heap→List AVal→Prop}{T:List AVal}{H:Heap}(s na:Nat)(H' :Heap)(hal:allocsOf ops=[.dead])(hsl:slotsOf ops=[.slot s])(hu:∀ i,i ∈ ops→∀ e,e ∈ i.unord→e<ops.length)(hH:H++[.dead]=H')(hna:H.length=na)(h:Rz A l b ops ops T H' 0 [] [.slot s] na Q):Rn A l b ops true T H Q:=by
 subst hH hna
 exact Rn.of_z hal hsl hu h
theorem lpA {A:Go.Abs.Prog}{l:Lim}{b:Nat}{dr:Bool}{ais ops:List AIns}{T:List AVal}{H:Heap}{n:Nat}{rl:List AVal}{tch:List Abs.Touch}{Q:List AVal→Heap→List AVal→Prop}{x:Opd}{u:List Nat}{id o:Nat}{w v:AVal}(hv:w.asD=v)(h2:Ry A l b dr ais ops T H (n+1) (v::rl) tch Q)(hx:rq T n rl x= .ptr id o:=by rfl)(hr:rd H id o 1=some [w]:=by rfl) :
  Ry A l b dr ais (⟨.load none x,none,none,u⟩::ops) T H n rl tch Q:=Ry.pure (rs:=[id]) rfl (by simp only [pureOp,hx,hr,hv]) h2
def stoOf (ss:List Sto)(s:Str):Sto:=nth ss (idxS s (ss.map (·.1)) 0).toNat
def rgt (ss:List Sto)(v:Vw):Sto:=if seB v.right [] then ([],[],[]) else stoOf ss v.right
def viewM (ss:List Sto)(ds:List Str)(v:Vw):Int :=
 if !eqB (declE ds v.name) 0 then declE ds v.name
 else if !eqB v.kind 0&& !eqB v.kind 1&& !eqB v.kind 2 then 1
 else if ltB (idxS v.left (ss.map (·.1)) 0) 0||(!seB v.right []&&ltB (idxS v.right (ss.map (·.1)) 0) 0) then 7
 else if !shapeP v then 1
 else if eqB v.kind 2 then (if !sameB eqB (stoOf ss v.left).2.2 (rgt ss v).2.2 then 5 else 0)
 else inpM v (stoOf ss v.left).2.2 (rgt ss v).2.2
def viewS (ss:List Sto)(ds:List Str)(v:Vw):List Sto :=
 if eqB (viewM ss ds v) 0 then (if eqB v.kind 2 then ss++[(v.name,(stoOf ss v.left).2.1,(stoOf ss v.left).2.2)] else ss++[(v.name,(ents v).map Ent.name,viewTys v ((stoOf ss v.left).2.2++(rgt ss v).2.2))]) else ss
set_option maxHeartbeats 32000000 in
theorem pm69 (c:Cat)(ds:List Str)(ss:List Sto)(i:Nat)(hi:i<c.views.length)(h0:(nth c.views i).on.length≤1000)(h1:(nth c.views i).wh.length≤1000)(h2:(nth c.views i).items.length≤1000)(h3:(nth c.views i).aggs.length≤1000)(h4:∀ j,j<(nth c.views i).items.length→(nth (nth c.views i).items j).expr.length≤1000)(h5:∀ j,j<(nth c.views i).aggs.length→(nth (nth c.views i).aggs j).expr.length≤1000)
  (hss:ss.length≤1000) (ht:∀ k,k<ss.length→0<(nth ss k).2.1.length∧(nth ss k).2.1.length≤5000∧0<(nth ss k).2.2.length∧(nth ss k).2.2.length≤5000) (hsub:∀ s,(ds.any fun y=>seB y s)=false→((ss.map (·.1)).any fun y=>seB y s)=false) :
  Pm A 69 [.ptr 4 0,.d (num i)] (HH c ds ss) lW (.d (num (viewM ss ds (nth c.views i)))) (HH c (declD ds (nth c.views i).name) (viewS ss ds (nth c.views i))):=by
 generalize hx:nth c.views i=v at *
 have p108:=pm108 c ds ss v.name
 have pL:=pm61 c (declD ds v.name) ss v.left
 have pR:=pm61 c (declD ds v.name) ss v.right
 have bL:=idx_ss ss v.left
 have bR:=idx_ss ss v.right
 have p116:=pf116 v h2 h3
 have hno:declE ds v.name=0→((ss.map (·.1)).any fun y=>seB y v.name)=false:=fun h=>by
  refine hsub _ ?_
  unfold declE at h
  cases c1:(!isNameB v.name) with
  |true=>rw [c1] at h;simp at h
  |false =>
   rw [c1] at h
   cases c2:ds.any fun y=>seB y v.name with
   |false=>rfl
   |true=>rw [c2] at h;simp at h
 suffices h:Pq A 69 [.ptr 4 0,.d (num i)] (HH c ds ss) lW fun w H1=>w= .d (num (viewM ss ds v))∧H1=HH c (declD ds v.name) (viewS ss ds v) by
  obtain ⟨w,H1,⟨rfl,rfl⟩,h⟩:=h;exact h
 have same:∀ e,viewM ss ds v=e→eqB e 0=false→viewS ss ds v=ss:=fun e g1 g2=>by unfold viewS;rw [g1,g2];rfl
 have p120:∀ L R:List Int,L.length≤5000→R.length≤5000→declE ds v.name=0→Pm A 120 [.ptr 4 0,vw v,.d (ints L),.d (ints R)] (HH c (declD ds v.name) ss) lW (.d (num (inpM v L R))) (HH c (declD ds v.name) (inpS ss v L R)):=fun L R hL hR hd=>pm120 c (declD ds v.name) ss v L R hL hR h0 h1 h2 h3 h4 h5 (hno hd) hss
 have p111:∀ nm ty,declE ds v.name=0→Pm A 111 [.ptr 4 0,.d (.str v.name),cols2 nm ty] (HH c (declD ds v.name) ss) lW (.tuple []) (HH c (declD ds v.name) (ss++[(v.name,nm,ty)])):=fun nm ty hd=>pm111 c (declD ds v.name) ss v.name nm ty (hno hd) hss
 unfold HH at *
 refine Pq.run (b:=5) [.ptr 4 0,.d (num i),.any,.any,.any,.any,.any] rfl rfl rfl rfl rfl ?_
 repeat' (first|refine gx ?_|fail)
 rw [hx]
 repeat' (first|refine c0 p108 rfl (h2:= ?_)|refine gx ?_|fail)
 refine tb (!eqB (declE ds v.name) 0) (fun g1=> ?_) (fun g1=> ?_)
 ·have e1:viewM ss ds v=declE ds v.name:=by unfold viewM;rw [g1];rfl
  repeat' (first|refine gx ?_|fail)
  exact ⟨_,_,rfl,by rw [e1];rfl,by rw [same _ e1 (by simpa using g1)];rfl⟩
 have hd0:declE ds v.name=0:=eqB_t (by simpa using g1)
 repeat' (first|refine gx ?_|fail)
 refine tb (!eqB v.kind 0&& !eqB v.kind 1&& !eqB v.kind 2) (fun g2=> ?_) (fun g2=> ?_)
 ·have e1:viewM ss ds v=1:=by unfold viewM;rw [g1,g2];rfl
  repeat' (first|refine gx ?_|fail)
  exact ⟨_,_,rfl,by rw [e1];rfl,by rw [same 1 e1 (by simp [eqB_eq])];rfl⟩
 repeat' (first|refine gx ?_|fail)
 first|refine Ex.testB (ltB (idxS v.left (ss.map (·.1)) 0) 0||(!seB v.right []&&ltB (idxS v.right (ss.map (·.1)) 0) 0)) (Rn.text ?_) (fun g3=> ?_) (fun g3=> ?_)|refine Ex.testB (ltB (idxS v.left (ss.map (·.1)) 0) 0||(!seB v.right []&&ltB (idxS v.right (ss.map (·.1)) 0) 0)) (Rn.draw ?_) (fun g3=> ?_) (fun g3=> ?_)
 ·repeat' (first|refine c1 pL rfl ?_|refine c1 pR rfl ?_|refine gx ?_|refine fk (h1:=fun hw=> ?_) (h2:=fun hw=> ?_)|refine fpk (h1:=fun hw=> ?_) (h2:=fun hw=> ?_)|refine ⟨rfl,rfl,_,rfl,?_⟩|refine ⟨rfl,rfl⟩|fail)
  all_goals first|(simp [*,oneOrTuple];done)|(simp_all [oneOrTuple];done)|(simp_all [oneOrTuple,ltB_eq,leB_eq,eqB_eq,seB_eq];done)|(simp_all [oneOrTuple,ltB_eq,leB_eq,eqB_eq,seB_eq]<;>omega)
 ·have e1:viewM ss ds v=7:=by unfold viewM;rw [g1,g2,g3];rfl
  repeat' (first|refine gx ?_|fail)
  exact ⟨_,_,rfl,by rw [e1];rfl,by rw [same 7 e1 (by simp [eqB_eq])];rfl⟩
 have g3' :=g3
 simp only [Bool.or_eq_false_iff] at g3'
 have f1:=ltB_f g3'.1
 have f2:seB v.right []=false→0≤idxS v.right (ss.map (·.1)) 0:=fun h=>by
  have:=g3'.2
  simp only [h,Bool.not_false,Bool.true_and] at this
  exact ltB_f this
 have htL:=ht (idxS v.left (ss.map (·.1)) 0).toNat (by omega)
 have hsL:nth ss (idxS v.left (ss.map (·.1)) 0).toNat=stoOf ss v.left:=rfl
 rw [hsL] at htL
 repeat' (first|refine gx ?_|fail)
 first|refine Ex.testB (!shapeP v) (Rn.text ?_) (fun g4=> ?_) (fun g4=> ?_)|refine Ex.testB (!shapeP v) (Rn.draw ?_) (fun g4=> ?_) (fun g4=> ?_)
 ·repeat' (first|refine cl (p116) ?_|refine gx ?_|refine fk (h1:=fun hw=> ?_) (h2:=fun hw=> ?_)|refine fpk (h1:=fun hw=> ?_) (h2:=fun hw=> ?_)|refine ⟨rfl,rfl,_,rfl,?_⟩|refine ⟨rfl,rfl⟩|fail)
  all_goals first|(simp [*,oneOrTuple];done)|(simp_all [oneOrTuple];done)|(simp_all [oneOrTuple,ltB_eq,leB_eq,eqB_eq,seB_eq];done)|(simp_all [oneOrTuple,ltB_eq,leB_eq,eqB_eq,seB_eq]<;>omega)
 ·have e1:viewM ss ds v=1:=by unfold viewM;rw [g1,g2,g3,g4];rfl
  repeat' (first|refine gx ?_|fail)
  exact ⟨_,_,rfl,by rw [e1];rfl,by rw [same 1 e1 (by simp [eqB_eq])];rfl⟩
 repeat' (first|refine gx ?_|fail)
 refine Ex.nH [.cells (c.enc.map .d),.cells (c.enc.map .d),.map (dmap (declD ds v.name)),.map (nmap (ss.map (·.1)) 0),.cells (c.enc.map .d++[.map 2,.map 3,ownL 2 encSt ss]),.cells (v.enc.map .d)] rfl ?_
 refine Ex.region (Rn.z 5 6 [.cells (c.enc.map .d),.cells (c.enc.map .d),.map (dmap (declD ds v.name)),.map (nmap (ss.map (·.1)) 0),.cells (c.enc.map .d++[.map 2,.map 3,ownL 2 encSt ss]),.cells (v.enc.map .d),.dead] rfl rfl (by decide) rfl rfl ?_)
 refine zm ?_
 refine zp (rs:=[]) (.ptr 4 0) rfl ?_
 refine zp (rs:=[]) (.ptr 4 10) rfl ?_
 refine zp (rs:=[4]) (.d (encL encSt ss)) rfl ?_
 refine zm ?_
 refine zp (rs:=[]) (.ptr 5 2) rfl ?_
 refine zp (rs:=[5]) (.d (.str v.left)) rfl ?_
 refine zc pL rfl ?_ (hmn:=Nat.le_of_ble_eq_true rfl)
 refine zix (xs:=ss) (enc:=encSt) (e:=idxS v.left (ss.map (·.1)) 0) (by omega) ?_
 refine zle ?_
 rw [hsL]
 refine za (h2:= ?_)
 refine zs (h2:= ?_)
 refine zn ?_
 repeat' (first|refine gx ?_|fail)
 refine Ex.thruR (fun s=>∃ (w0 w1 w2 w4 wa wb:AVal),s=⟨[.ptr 4 0,w1,w2,.ptr 5 0,w4,.ptr 6 0,.ptr 7 0],[.cells (c.enc.map .d),.cells (c.enc.map .d),.map (dmap (declD ds v.name)),.map (nmap (ss.map (·.1)) 0),.cells (c.enc.map .d++[.map 2,.map 3,ownL 2 encSt ss]),.cells (v.enc.map .d),.cells ((encSt (stoOf ss v.left)).map .d),.cells [wa,wb]]⟩∧wa.asD= .d (encL encS (rgt ss v).2.1)∧wb.asD= .d (ints (rgt ss v).2.2)∧(rgt ss v).2.2.length≤5000) ?_ ?_
 ·skip
  refine tb (!seB v.right []) (fun g6=> ?_) (fun g6=> ?_)
  ·simp only [Bool.not_eq_true'] at g6
   have f3:=f2 g6
   have htR:=ht (idxS v.right (ss.map (·.1)) 0).toNat (by omega)
   have hsR:nth ss (idxS v.right (ss.map (·.1)) 0).toNat=rgt ss v:=by unfold rgt;rw [g6];rfl
   rw [hsR] at htR
   repeat' (first|refine c1 pR rfl ?_|refine soD (h2:= ?_)|refine gx ?_|fail)
   rw [hsR]
   exact ⟨.any,_,_,_,_,_,rfl,rfl,rfl,by omega⟩
  ·simp only [Bool.not_eq_false'] at g6
   have hsR:rgt ss v=([],[],[]):=by unfold rgt;rw [g6];rfl
   repeat' (first|refine gx ?_|fail)
   exact ⟨.any,_,_,_,_,_,rfl,by rw [hsR];rfl,by rw [hsR];rfl,by rw [hsR];simp⟩
 rintro _ ⟨w0,w1,w2,w4,wa,wb,rfl,ha,hb,hrl⟩
 have q117:=pf117 (stoOf ss v.left).2.2 (rgt ss v).2.2 (by omega)
 have q118:=pf118 (stoOf ss v.left).2.1 (by omega) (by omega)
 have q119:=pf119 (stoOf ss v.left).2.2 (by omega) (by omega)
 have q111:=p111 (stoOf ss v.left).2.1 (stoOf ss v.left).2.2 hd0
 have q120:=p120 (stoOf ss v.left).2.2 (rgt ss v).2.2 (by omega) hrl hd0
 repeat' (first|refine gx ?_|fail)
 refine tb (eqB v.kind 2) (fun g7=> ?_) (fun g7=> ?_)
 ·repeat' (first|refine gx ?_|fail)
  first|refine Ex.testB (!sameB eqB (stoOf ss v.left).2.2 (rgt ss v).2.2) (Rn.text ?_) (fun g8=> ?_) (fun g8=> ?_)|refine Ex.testB (!sameB eqB (stoOf ss v.left).2.2 (rgt ss v).2.2) (Rn.draw ?_) (fun g8=> ?_) (fun g8=> ?_)
  ·repeat' (first|refine lpA hb ?_|refine cl (q117) ?_|refine gx ?_|refine fk (h1:=fun hw=> ?_) (h2:=fun hw=> ?_)|refine fpk (h1:=fun hw=> ?_) (h2:=fun hw=> ?_)|refine ⟨rfl,rfl,_,rfl,?_⟩|refine ⟨rfl,rfl⟩|fail)
   all_goals first|(simp [*,oneOrTuple];done)|(simp_all [oneOrTuple];done)|(simp_all [oneOrTuple,ltB_eq,leB_eq,eqB_eq,seB_eq];done)|(simp_all [oneOrTuple,ltB_eq,leB_eq,eqB_eq,seB_eq]<;>omega)
  ·have e1:viewM ss ds v=5:=by unfold viewM;rw [g1,g2,g3,g4,g7,g8];rfl
   repeat' (first|refine gx ?_|fail)
   exact ⟨_,_,rfl,by rw [e1];rfl,by rw [same 5 e1 (by simp [eqB_eq])];rfl⟩
  have e1:viewM ss ds v=0:=by unfold viewM;rw [g1,g2,g3,g4,g7,g8];rfl
  have e2:viewS ss ds v=ss++[(v.name,(stoOf ss v.left).2.1,(stoOf ss v.left).2.2)]:=by unfold viewS;rw [e1,g7];simp [eqB_eq]
  rw [e2]
  repeat' (first|refine cl (q118) ?_|refine cl (q119) ?_|refine c0 q111 rfl (h2:= ?_)|refine gx ?_|fail)
  exact ⟨_,_,rfl,by rw [e1];rfl,rfl⟩
 ·have e1:viewM ss ds v=inpM v (stoOf ss v.left).2.2 (rgt ss v).2.2:=by unfold viewM;rw [g1,g2,g3,g4,g7];rfl
  have e2:viewS ss ds v=inpS ss v (stoOf ss v.left).2.2 (rgt ss v).2.2:=by unfold viewS inpS;rw [e1,g7];rfl
  rw [e2]
  repeat' (first|refine lpA hb ?_|refine c0 q120 rfl (h2:= ?_)|refine gx ?_|fail)
  exact ⟨_,_,rfl,by rw [e1];rfl,rfl⟩
end Go.Proofs.YtkmclibmmlgogaaGreat
namespace Go.Proofs.YtkmclibmmlgogaaGreat
open Go.Abs Go.Abs.S
attribute [local irreducible] Rx Ry Rn Ex Pf
def cnt (c:Cat):Nat→Nat
 |0=>c.tabs.length
 |1=>c.views.length
 |2=>c.idxs.length
 |3=>c.skts.length
 |4=>c.cchs.length
 |5=>c.rlss.length
 |6=>c.stms.length
 |_=>c.bkps.length
def lmt:Nat→Nat
 |0=>8
 |1=>12
 |_=>16
def fid (q:Nat):FuncId:=68+q
def offs (c:Cat):Nat→Nat
 |0=>0
 |q+1=>offs c q+cnt c q
def kindV (c:Cat)(q:Nat):List AVal:=[.d (num (cnt c q)),.d (num (lmt q)),.func (fid q) [.ptr 4 0] []]
def kindsC (c:Cat):List AVal:=kindV c 0++kindV c 1++kindV c 2++kindV c 3++kindV c 4++kindV c 5++kindV c 6++kindV c 7
theorem kinds_at (c:Cat)(q:Nat)(h:q<8)(H:Heap)(hH:H[5]? =some (.cells (kindsC c))):rd H 5 (0+q * 3) 3=some (kindV c q):=by
 simp only [rd,hH]
 match q,h with
 |0,_=>rfl
 |1,_=>rfl
 |2,_=>rfl
 |3,_=>rfl
 |4,_=>rfl
 |5,_=>rfl
 |6,_=>rfl
 |7,_=>rfl
theorem HH_bnd (c:Cat)(ds:List Str)(ss:List Sto):bndO (HH c ds ss)≤5:=by
 have h1:=dmap_bnd ds
 have h2:=nmap_bnd (ss.map (·.1)) 0
 have e1:bndL (c.enc.map AVal.d)=0:=rfl
 have e2:bndL (c.enc.map AVal.d++[.map 2,.map 3,ownL 2 encSt ss])=4:=rfl
 simp only [HH,bndO,AObj.bnd,h1,h2,e1,e2]
 decide
theorem HH_disc (c:Cat)(ds:List Str)(ss:List Sto):discFrom (HH c ds ss) 0=true:=by
 have h1:=dmap_bnd ds
 have h2:=nmap_bnd (ss.map (·.1)) 0
 have e1:bndL (c.enc.map AVal.d)=0:=rfl
 have e2:bndL (c.enc.map AVal.d++[.map 2,.map 3,ownL 2 encSt ss])=4:=rfl
 simp only [HH,discFrom,AObj.bnd,h1,h2,e1,e2]
 decide
theorem strict5 {H:Heap}(h:discFrom ((H.take 5).drop 0) 0=true):strictOf H 0 5=5:=by
 unfold strictOf
 rw [if_neg (by decide),if_pos h]
theorem fid_prom {q:Nat}(h:q<8):A.prom (fid q)=false∧A.mode (fid q)=0:=by
 match q,h with
 |0,_=>exact ⟨rfl,rfl⟩
 |1,_=>exact ⟨rfl,rfl⟩
 |2,_=>exact ⟨rfl,rfl⟩
 |3,_=>exact ⟨rfl,rfl⟩
 |4,_=>exact ⟨rfl,rfl⟩
 |5,_=>exact ⟨rfl,rfl⟩
 |6,_=>exact ⟨rfl,rfl⟩
 |7,_=>exact ⟨rfl,rfl⟩
theorem offs_end (c:Cat):offs c 8=c.names.length:=by simp [offs,cnt,Cat.names];omega
theorem offs_le (c:Cat){q:Nat}(h:q<8):offs c q+cnt c q≤c.names.length:=by
 rw [← offs_end]
 match q,h with
 |0,_=>simp only [offs];omega
 |1,_=>simp only [offs];omega
 |2,_=>simp only [offs];omega
 |3,_=>simp only [offs];omega
 |4,_=>simp only [offs];omega
 |5,_=>simp only [offs];omega
 |6,_=>simp only [offs];omega
 |7,_=>simp only [offs];omega
theorem many_of {c:Cat}{q:Nat}(h:q<8)(h2:ltB (lmt q) (cnt c q)=true):tooMany c=true:=by
 unfold tooMany many6
 match q,h with
 |0,_=>simp only [lmt,cnt] at h2;simp [show ltB 8 c.tabs.length=true from h2]
 |1,_=>simp only [lmt,cnt] at h2;simp [show ltB 12 c.views.length=true from h2]
 |2,_=>simp only [lmt,cnt] at h2;simp [show ltB 16 c.idxs.length=true from h2]
 |3,_=>simp only [lmt,cnt] at h2;simp [show ltB 16 c.skts.length=true from h2]
 |4,_=>simp only [lmt,cnt] at h2;simp [show ltB 16 c.cchs.length=true from h2]
 |5,_=>simp only [lmt,cnt] at h2;simp [show ltB 16 c.rlss.length=true from h2]
 |6,_=>simp only [lmt,cnt] at h2;simp [show ltB 16 c.stms.length=true from h2]
 |7,_=>simp only [lmt,cnt] at h2;simp [show ltB 16 c.bkps.length=true from h2]
theorem few_of {c:Cat}(h:∀ p,p<8→cnt c p≤lmt p):tooMany c=false:=by
 have h0:=h 0 (by omega)
 have h1:=h 1 (by omega)
 have h2:=h 2 (by omega)
 have h3:=h 3 (by omega)
 have h4:=h 4 (by omega)
 have h5:=h 5 (by omega)
 have h6:=h 6 (by omega)
 have h7:=h 7 (by omega)
 simp only [cnt,lmt] at h0 h1 h2 h3 h4 h5 h6 h7
 simp only [tooMany,many6,ltB_eq,Bool.or_eq_false_iff,decide_eq_false_iff_not]
 omega
theorem HHk_bnd (c:Cat)(ds:List Str)(ss:List Sto):bndO (HH c ds ss++[.cells (kindsC c)])≤6:=by
 have h1:=dmap_bnd ds
 have h2:=nmap_bnd (ss.map (·.1)) 0
 have e1:bndL (c.enc.map AVal.d)=0:=rfl
 have e2:bndL (c.enc.map AVal.d++[.map 2,.map 3,ownL 2 encSt ss])=4:=rfl
 have e3:bndL (kindsC c)=5:=rfl
 simp only [HH,List.cons_append,List.nil_append,bndO,AObj.bnd,h1,h2,e1,e2,e3]
 decide
theorem kind_bnd (c:Cat)(q:Nat):bndL (kindV c q)≤6+1:=Nat.le_of_ble_eq_true rfl
def chkPost (c:Cat)(fds:List Str)(fss:List Sto)(v:AVal)(H1:Heap):Prop :=
 (∃ R,H1= .cells (c.enc.map .d)::R)∧(eqB (checkC c).2 0=false→v= .tuple [.d .nilptr,.d (num (checkC c).1),.d (num (checkC c).2)]) ∧
  (eqB (checkC c).2 0=true→v= .tuple [.ptr 4 0,.d (num 0),.d (num 0)]∧H1=HH c fds fss++[.cells (kindsC c)])
theorem chk_le {c:Cat}{fds:List Str}{fss:List Sto}{v:AVal}{H1:Heap}(h:chkPost c fds fss v H1):1≤H1.length:=by
 obtain ⟨⟨R,rfl⟩,_⟩:=h
 simp
set_option maxHeartbeats 32000000 in
theorem pq29 (c:Cat)(hf:c.few)(ST:Nat→List Str→List Sto→Prop)(hST0:ST 0 [] [])(hST:∀ g ds ss ds' ss',ST g ds ss→ST g ds' ss' →ds=ds' ∧ss=ss')(fds:List Str)(fss:List Sto)(hSTf:∀ ds ss,ST c.names.length ds ss→ds=fds∧ss=fss)
  (hstep:∀ q i ds ss,q<8→i<cnt c q→tooMany c=false→okTo c (offs c q+i)→ST (offs c q+i) ds ss→∃ dz sz,(errAt c (offs c q+i)=0→ST (offs c q+i+1) dz sz)∧Pm A (fid q) [.ptr 4 0,.d (num i)] (HH c ds ss) lW (.d (num (errAt c (offs c q+i)))) (HH c dz sz)) :
  Pq A 29 [cat c] [.cells (c.enc.map .d)] lim0 (chkPost c fds fss):=by
 obtain ⟨f0,f1,f2,f3,f4,f5,f6,f7⟩:=id hf
 have hcn:∀ q,cnt c q≤1000:=fun q=>by unfold cnt;split<;>assumption
 have hlm:∀ q,lmt q≤16:=fun q=>by unfold lmt;split<;>omega
 refine Pq.run (b:=1) [cat c,.any,.any,.any,.any,.any,.any,.any,.any,.any,.any,.any,.any,.any,.any,.any,.any,.any,.any,.any] rfl rfl rfl rfl rfl ?_
 repeat' (first|refine mk (h2:= ?_)|refine bdl (cs:=c.enc.map .d++[.map 2,.map 3,ownL 2 encSt []]) ?_|refine bdl (cs:=kindV c 0) ?_|refine bdl (cs:=kindV c 1) ?_|refine bdl (cs:=kindV c 2) ?_|refine bdl (cs:=kindV c 3) ?_|refine bdl (cs:=kindV c 4) ?_|refine bdl (cs:=kindV c 5) ?_|refine bdl (cs:=kindV c 6) ?_|refine bdl (cs:=kindV c 7) ?_|refine gx ?_|fail)
 refine bso (kindsC c) rfl ⟨by decide,rfl⟩ (h2:= ?_)
 repeat' (first|refine lrT (h2:= ?_)|refine gx ?_|fail)
 refine Ex.loopC (fun k T H=>∃ (q:Nat),T=[.any,.any,.any,.any,.any,.ptr 4 0,.sref 5 3 0 8,.any,.any,.any,.any,.any,.sref 5 3 0 8,.d (num (8:Nat)),.d (num q),.any,.any,.any,.any,.any]∧H=[.cells (c.enc.map .d),.cells (c.enc.map .d),.map [],.map [],.cells (c.enc.map .d++[.map 2,.map 3,ownL 2 encSt []]),.cells (kindsC c)]∧q+k=8∧∀ p,p<q→cnt c p≤lmt p) ?_ (k:=8) ⟨0,rfl,rfl,by simp,fun p h=>absurd h (by omega)⟩
 rintro k _ _ ⟨q,rfl,rfl,hk,hq⟩
 have b1:=hcn q
 have b2:=hlm q
 have hbk:=kind_bnd c q
 refine Ex.seq ?_
 refine tb (ltB q (8:Nat)) (fun g1=> ?_) (fun g1=> ?_)
 ·have g2:=ltB_t g1
  have hq8:q<8:=by omega
  have hka:=kinds_at c q hq8 ([.cells (c.enc.map .d),.cells (c.enc.map .d),.map [],.map [],.cells (c.enc.map .d++[.map 2,.map 3,ownL 2 encSt []]),.cells (kindsC c)]) rfl
  repeat' (first|refine ixs (i:=q) (len:=8) hq8 ?_|refine lqV hka rfl ?_|refine soB (cs:=kindV c q) (id:=6) hbk (h2:= ?_)|refine gx ?_|fail)
  refine tb (ltB (lmt q) (cnt c q)) (fun g3=> ?_) (fun g3=> ?_)
  ·have ht:=many_of hq8 g3
   have e1:checkC c=(0,8):=by unfold checkC;rw [ht];rfl
   repeat' (first|refine gx ?_|fail)
   exact ⟨_,_,rfl,⟨_,rfl⟩,fun _=>by rw [e1];rfl,fun h=>by rw [e1] at h;simp [eqB_eq] at h⟩
  ·have g4:=ltB_f g3
   repeat' (first|refine gx ?_|fail)
   exact ⟨k - 1,by omega,_,_,rfl,q+1,rfl,rfl,by omega,fun p hp=>by
    rcases Nat.lt_or_ge p q with h|h
    ·exact hq p h
    ·obtain rfl:p=q:=by omega
     omega⟩
 have g2:=ltB_f g1
 have hmany:=few_of (c:=c) (fun p hp=>hq p (by omega))
 clear g1 g2 hk hq b1 b2 hbk
 repeat' (first|refine lrT (h2:= ?_)|refine gx ?_|fail)
 refine Ex.loopC (fun k T H=>∃ (q g:Nat) (ds:List Str) (ss:List Sto),T=[.any,.any,.any,.any,.any,.ptr 4 0,.any,.any,.d (num g),.any,.any,.any,.any,.any,.any,.sref 5 3 0 8,.d (num (8:Nat)),.d (num q),.any,.any]∧H=[.cells (c.enc.map .d),.cells (c.enc.map .d),.map (dmap ds),.map (nmap (ss.map (·.1)) 0),.cells (c.enc.map .d++[.map 2,.map 3,ownL 2 encSt ss]),.cells (kindsC c)]∧q+k=8∧g=offs c q∧ST g ds ss∧okTo c g∧checkC c=chkFrom c (c.names.length - g) g) ?_ (k:=8) ⟨0,0,[],[],rfl,rfl,by simp,rfl,hST0,fun m h=>absurd h (by omega),by unfold checkC;rw [hmany];rfl⟩
 rintro k _ _ ⟨q,g,ds,ss,rfl,rfl,hk,hg,hst,hok,hch⟩
 have b1:=hcn q
 have hbk:=kind_bnd c q
 refine Ex.seq ?_
 refine tb (ltB q (8:Nat)) (fun g1=> ?_) (fun g1=> ?_)
 ·have g2:=ltB_t g1
  have hq8:q<8:=by omega
  have hka:=kinds_at c q hq8 ([.cells (c.enc.map .d),.cells (c.enc.map .d),.map (dmap ds),.map (nmap (ss.map (·.1)) 0),.cells (c.enc.map .d++[.map 2,.map 3,ownL 2 encSt ss]),.cells (kindsC c)]) rfl
  repeat' (first|refine ixs (i:=q) (len:=8) hq8 ?_|refine lqV hka rfl ?_|refine soB (cs:=kindV c q) (id:=6) hbk (h2:= ?_)|refine gx ?_|fail)
  refine Ex.loopS (fun k T H=>∃ (i g:Nat) (ds:List Str) (ss:List Sto) (w0 w1 w2 w3 w4 w6 w7 w10 w11 w12 w13 w14:AVal),T=[w0,w1,w2,w3,w4,.ptr 4 0,w6,w7,.d (num g),.ptr 6 0,w10,w11,w12,w13,w14,.sref 5 3 0 8,.d (num (8:Nat)),.d (num q),.d (num (cnt c q)),.d (num i)]∧H=[.cells (c.enc.map .d),.cells (c.enc.map .d),.map (dmap ds),.map (nmap (ss.map (·.1)) 0),.cells (c.enc.map .d++[.map 2,.map 3,ownL 2 encSt ss]),.cells (kindsC c),.cells (kindV c q)]∧i+k=cnt c q∧g=offs c q+i∧ST g ds ss∧okTo c g∧checkC c=chkFrom c (c.names.length - g) g) (by rintro _ _ _ ⟨_,_,_,_,_,_,_,_,_,_,_,_,_,_,_,_,_,rfl,_⟩;rfl) ?_ (k:=cnt c q) ⟨0,g,ds,ss,_,_,_,_,_,_,_,_,_,_,_,_,rfl,rfl,by simp,by omega,hst,hok,hch⟩
  clear hst hok hch hka
  rintro k2 _ _ ⟨i,g,ds,ss,w0,w1,w2,w3,w4,w6,w7,w10,w11,w12,w13,w14,rfl,rfl,hk2,hg2,hst,hok,hch⟩
  have hol:=offs_le c hq8
  have hnl:c.names.length≤8000:=by simp [Cat.names];omega
  refine Ex.nT ?_
  refine Ex.seq ?_
  refine tb (ltB i (cnt c q)) (fun g3=> ?_) (fun g3=> ?_)
  ·have g4:=ltB_t g3
   have hb5:=HH_bnd c ds ss
   have hd5:=HH_disc c ds ss
   subst hg2
   obtain ⟨dz,sz,hz,hpm⟩:=hstep q i ds ss hq8 (by omega) hmany hok hst
   unfold HH at hpm hb5 hd5
   obtain ⟨N,hN⟩:∃ N,c.names.length - (offs c q+i)=N+1:=⟨c.names.length - (offs c q+i) - 1,by omega⟩
   rw [hN,chkFrom] at hch
   have hfp:=fid_prom hq8
   repeat' (first|refine gx ?_|fail)
   have hs5:strictOf ([.cells (c.enc.map .d),.cells (c.enc.map .d),.map (dmap ds),.map (nmap (ss.map (·.1)) 0),.cells (c.enc.map AVal.d++[.map 2,.map 3,ownL 2 encSt ss]),.cells (kindsC c),.cells (kindV c q)]) 0 5=5:=strict5 (H:=[.cells (c.enc.map .d),.cells (c.enc.map .d),.map (dmap ds),.map (nmap (ss.map (·.1)) 0),.cells (c.enc.map AVal.d++[.map 2,.map 3,ownL 2 encSt ss]),.cells (kindsC c),.cells (kindV c q)]) hd5
   refine cv0 (hpr:=hfp.1) (hm:=hfp.2) hpm rfl hb5 (closeN_of hb5) rfl (hl2:=by show Lim.mk 0 0 5 (strictOf _ 0 5)=lW;rw [hs5];rfl) (h2:= ?_)
   repeat' (first|refine gx ?_|fail)
   refine tb (!eqB (errAt c (offs c q+i)) 0) (fun g5=> ?_) (fun g5=> ?_)
   ·have e1:checkC c=(((offs c q+i:Nat):Int),errAt c (offs c q+i)):=by rw [hch,g5];rfl
    have e2:eqB (errAt c (offs c q+i)) 0=false:=by simpa using g5
    repeat' (first|refine gx ?_|fail)
    exact ⟨_,_,rfl,⟨_,rfl⟩,fun _=>by rw [e1];rfl,fun h=>by rw [e1] at h;simp only [e2] at h;cases h⟩
   ·have e2:errAt c (offs c q+i)=0:=eqB_t (by simpa using g5)
    rw [g5,if_neg (by simp)] at hch
    have hst' :=hz e2
    repeat' (first|refine gx ?_|fail)
    refine ⟨k2 - 1,by omega,i+1,offs c q+i+1,dz,sz,_,_,_,_,_,_,_,_,_,_,_,_,rfl,rfl,by omega,by omega,hst',fun m hm=> ?_,?_⟩
    ·rcases Nat.lt_or_ge m (offs c q+i) with h|h
     ·exact hok m h
     ·obtain rfl:m=offs c q+i:=by omega
      exact e2
    ·have:c.names.length - (offs c q+i+1)=N:=by omega
     rw [this]
     exact hch
  ·have g4:=ltB_f g3
   repeat' (first|refine gx ?_|fail)
   refine ⟨k - 1,by omega,_,_,clean_of ?_ ?_,q+1,g,ds,ss,rfl,rfl,by omega,?_,hst,hok,hch⟩
   ·exact Nat.le_of_ble_eq_true rfl
   ·exact HHk_bnd c ds ss
   ·simp only [offs];omega
 have g2:=ltB_f g1
 obtain rfl:q=8:=by omega
 rw [offs_end] at hg
 subst hg
 rw [Nat.sub_self] at hch
 obtain ⟨rfl,rfl⟩:=hSTf ds ss hst
 repeat' (first|refine gx ?_|fail)
 have e1:checkC c=(0,0):=hch
 exact ⟨_,_,rfl,⟨_,rfl⟩,fun h=>by rw [e1] at h;simp [eqB_eq] at h,fun _=>⟨rfl,rfl⟩⟩
end Go.Proofs.YtkmclibmmlgogaaGreat

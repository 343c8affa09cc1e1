import Derived.Test.YtibjocmpkoepoaaGreatAbs
set_option linter.all false
open Bool renaming and_eq_true→c9,false_eq_true→j5,true→W,false→F
open List renaming append_assoc→K2,flatMap_cons→O7,getElem?_append_left→y8,getElem?_eq_getElem→n9,getElem?_set_ne→x3,getElem?_set_self→E9,getElem_of_mem→L5,length_append→l5,length_cons→o8,length_map→A9,length_singleton→E4,length_take→P3,map_cons→G4,mem_append→N9,replicate→c8,replicate_succ→O8,set_eq_take_append_cons_drop→P6,take_of_length_le→A4,length→O
open Nat renaming le_refl→k9,le_trans→s5,lt_or_ge→A7,mul_le_mul_right→I8,zero_le→s9
open Option renaming some→J,none→K
namespace Go.A5
structure Vl where
 k:Int
 n:Int
 t:K0
 deriving DecidableEq,Inhabited
def Vl.enc (v:Vl):List Data:=[Z v.k,Z v.n,.str v.t]
structure W9 where
 row:List Vl
 seq:List Int
 day:Int
 deriving DecidableEq,Inhabited
def W9.enc (r:W9):List Data:=[y6 Vl.enc r.row,y6 (λn=>[Z n]) r.seq,Z r.day]
def zQ (l:List W9):Data:=y6 W9.enc l
def V6 (ts:List (List W9)):Data:=y6 (λl=>[zQ l]) ts
def eG (r:List Vl):List c7:=(r.flatMap Vl.enc).map .d
def fO (s:List Int):List c7:=(s.flatMap λn=>[Z n]).map .d
def O9 (H:j9):List c7->List W9->List Nat->Prop
 |cs,[],ids=>cs=[]/\ids=[]
 |cs,r::rs,ids=>∃a b cs' ids',cs= .s6 a 3 0 (O r.row):: .s6 b 1 0 (O r.seq):: .d (Z r.day)::cs' /\ids=a::b::ids' /\H[a]? =J (.cells (eG r.row))/\H[b]? =J (.cells (fO r.seq))/\O9 H cs' rs ids'
def eO (H:j9)(v:c7)(rs:List W9)(ids:List Nat):Prop :=
 (rs=[]/\v= .N7/\ids=[])\/∃id cs ids',v= .s6 id 3 0 (O rs)/\ids=id::ids' /\H[id]? =J (.cells cs)/\O9 H cs rs ids'
def Y4 (H:j9):List c7->List (List W9)->List Nat->Prop
 |vs,[],ids=>vs=[]/\ids=[]
 |vs,t::ts,ids=>∃v vs' i1 i2,vs=v::vs' /\ids=i1++i2/\eO H v t i1/\Y4 H vs' ts i2
theorem O9.mono {H H' :j9}:∀{rs:List W9} {cs:List c7} {ids:List Nat},(∀i∈ids,H'[i]? =H[i]?)->O9 H cs rs ids->O9 H' cs rs ids
 |[],_,_,_,h=>h
 |r::rs,_,_,hm,⟨a,b,cs',ids',e1,e2,h1,h2,h3⟩=>by
  subst e2;exact ⟨a,b,cs',ids',e1,rfl,(hm a U).trans h1,(hm b U).trans h2,O9.mono (λi hi=>hm i (by simp [hi])) h3⟩
theorem eO.mono {H H' :j9}{v:c7}{rs:List W9}{ids:List Nat}(hm:∀i∈ids,H'[i]? =H[i]?)(h:eO H v rs ids):eO H' v rs ids:=by
 rcases h with h|⟨id,cs,ids',rfl,rfl,h1,h2⟩
 .exact .inl h
 .exact .inr ⟨id,cs,ids',rfl,rfl,(hm id U).trans h1,h2.mono λi hi=>hm i (by simp [hi])⟩
theorem Y4.mono {H H' :j9}:∀{ts:List (List W9)} {vs:List c7} {ids:List Nat},(∀i∈ids,H'[i]? =H[i]?)->Y4 H vs ts ids->Y4 H' vs ts ids
 |[],_,_,_,h=>h
 |t::ts,_,_,hm,⟨v,vs',i1,i2,e1,e2,h1,h2⟩=>by
  subst e2;exact ⟨v,vs',i1,i2,e1,rfl,h1.mono λi hi=>hm i (by simp [hi]),Y4.mono (λi hi=>hm i (by simp [hi])) h2⟩
theorem O9.len {H:j9}:∀{rs:List W9} {cs:List c7} {ids:List Nat},O9 H cs rs ids->O cs=O rs * 3
 |[],_,_,h=>by simp [h.1]
 |r::rs,_,_,⟨a,b,cs',ids',e1,e2,h1,h2,h3⟩=>by
  have:=h3.len
  grind
theorem O9.append {H:j9}:∀{rs rs2:List W9} {cs cs2:List c7} {ids Ju:List Nat},O9 H cs rs ids->O9 H cs2 rs2 Ju->O9 H (cs++cs2) (rs++rs2) (ids++Ju)
 |[],_,_,_,_,_,h,h2=>by
  obtain ⟨rfl,rfl⟩:=h;exact h2
 |r::rs,_,_,_,_,_,⟨a,b,cs',ids',e1,e2,h1,h2,h3⟩,h4=>by
  subst e1 e2;exact ⟨a,b,cs' ++_,ids' ++_,rfl,rfl,h1,h2,h3.append h4⟩
theorem O9.K9 {H:j9}:∀{rs:List W9} {cs:List c7} {ids:List Nat},O9 H cs rs ids->cs.map c7.K9=cs
 |[],_,_,h=>by simp [h.1]
 |r::rs,_,_,⟨a,b,cs',ids',e1,e2,h1,h2,h3⟩=>by
  subst e1;simp only [G4,h3.K9];rfl
theorem Y4.len {H:j9}:∀{ts:List (List W9)} {vs:List c7} {ids:List Nat},Y4 H vs ts ids->O vs=O ts
 |[],_,_,h=>by simp [h.1]
 |t::ts,_,_,⟨v,vs',i1,i2,e1,e2,h1,h2⟩=>by
  subst e1;simp [h2.len]
theorem Y4.split {H:j9}:∀{A d9:List (List W9)} {p:List W9} {vs:List c7} {ids:List Nat},Y4 H vs (A++p::d9) ids ->
  ∃v i0 i1 i2,vs[O A]? =J v/\ids=i0++i1++i2/\eO H v p i1/\∀(H' :j9) (v' :c7) (p' :List W9) (OQ :List Nat),(∀i∈i0++i2,H'[i]? =H[i]?)->eO H' v' p' OQ ->Y4 H' (vs.set (O A) v') (A++p' ::d9) (i0++OQ ++i2)
 |[],d9,p,_,_,⟨v,vs',i1,i2,e1,e2,h1,h2⟩=>by
  subst e1 e2;exact ⟨v,[],i1,i2,rfl,rfl,h1,λH' v' p' OQ hm h=>⟨v',vs',OQ,i2,rfl,rfl,h,h2.mono λi hi=>hm i (by simp [hi])⟩⟩
 |a::A,d9,p,_,_,⟨v,vs',i1,i2,e1,e2,h1,h2⟩=>by
  subst e1 e2;obtain ⟨u,j0,j1,j2,g1,g2,g3,g4⟩:=Y4.split h2;refine ⟨u,i1++j0,j1,j2,g1,M,g3,λH' v' p' OQ hm h=>?_⟩;exact ⟨v,_,i1,j0++OQ ++j2,rfl,M,h1.mono λi hi=>hm i (by simp [hi]),g4 H' v' p' OQ (λi hi=>hm i M) h⟩
def eO.snoc {H:j9}{v:c7}{rs:List W9}{ids:List Nat}{r:W9}{H' :j9}{id a b:Nat}{cs:List c7}(h:eO H v rs ids)(hcs:(rs=[]/\cs=[])\/∃id0,v= .s6 id0 3 0 (O rs)/\H[id0]? =J (.cells cs))
  (hm:∀i∈ids.drop 1,H'[i]? =H[i]?) (ha:H'[a]? =J (.cells (eG r.row))) (hb:H'[b]? =J (.cells (fO r.seq)))
  (hid:H'[id]? =J (.cells (cs++[.s6 a 3 0 (O r.row),.s6 b 1 0 (O r.seq),.d (Z r.day)]))):eO H' (.s6 id 3 0 (O rs+1)) (rs++[r]) (id::(ids.drop 1++[a,b])):=by
 have h1:O9 H' [.s6 a 3 0 (O r.row),.s6 b 1 0 (O r.seq),.d (Z r.day)] [r] [a,b]:=⟨a,b,[],[],rfl,rfl,ha,hb,rfl,rfl⟩;refine .inr ⟨id,_,_,U,rfl,hid,?_⟩
 rcases h with ⟨rfl,rfl,rfl⟩|⟨id1,cs1,ids',rfl,rfl,g1,g2⟩
 .simp_all
 .obtain rfl:cs1=cs:=by
   rcases hcs with h|⟨id0,h,h'⟩
   .obtain ⟨rfl,rfl⟩:=h
    exact g2.1
   simp_all
  exact (g2.mono hm).append h1
attribute [local irreducible] Rl
def uT (H X:j9)(j:Nat)(c:x4):(H++X).set (O H+j) c=H++X.set j c:=U
theorem mH (H X:j9)(j:Nat):(H++X)[O H+j]? =X[j]? :=by grind
def dJ {H X:j9}{j:Nat}(h:j<O H):(H++X)[j]? =H[j]? :=y8 h
def SS {H X:j9}{j:Nat}(c:x4)(h:j<O H):(H++X).set j c=H.set j c++X:=by simp [h]
def Rn.DI {A:Prog}{l:J2}{b:Nat}{ops:List o3}{Q:List c7->j9->List c7->Prop}{T:List c7}{H:j9}(na:Nat)(H' :j9)(l6:List Touch)(hn:O H=na)(hH:H++Y7 ops=H')(hs:slotsOf ops=l6)(h:Rl A l b ops ops T H' 0 [] l6 na [] Q):Rn A l b ops W T H Q:=by
 grind [Rn.aG8]
theorem tV:∀l:List Data,A8 (l.map .d)=0
 |[]=>rfl
 |_::l=>by simp [A8,c7.J4,tV l]
def HF (l:List Data):(l.map c7.d).all c7.one=W:=by simp [c7.one]
def HL (r:List Vl):O (r.flatMap Vl.enc)=O r * 3:=by
 induction r with
 |nil=>rfl
 |cons a r ih=>rw [O7,l5,ih,o8,show O a.enc=3 from rfl];omega
def An (r:List Int):O (r.flatMap λn=>[Z n])=O r:=by
 induction r with
 |nil=>rfl
 |cons a r ih=>simp_all
def VQ (H:j9)(r:List Vl):C7 H 3 (.d (y6 Vl.enc r))=J (O r,eG r):=by
 simp only [C7,y6,HL,if_true,eG]
def at4 (H:j9)(r:List Int):C7 H 1 (.d (y6 (λn=>[Z n]) r))=J (O r,fO r):=by
 simp only [C7,y6,An,Nat.mul_one,if_true,fO]
def XY {oc:List c7}{i:Nat}{v:c7}(h:oc[i]? =J v):(if i+1<=O oc then J ((oc.drop i).take 1) else K)=J [v]:=by
 obtain ⟨h1,h2⟩:=List.getElem?_eq_some_iff.1 h;rw [if_pos V,List.drop_eq_getElem_cons h1,h2];rfl
namespace S
variable {A:Prog} {l:J2} {b:Nat} {j8 ops:List o3} {T:List c7} {H:j9} {n:Nat} {rl:List c7} {l6:List Touch} {na:Nat} {lg:List gC} {Q:List c7->j9->List c7->Prop}
def yb' {sz len:Nat}{zero:List c7}{ps:List (Nat×Nat×y4)}{u:List Nat}(DH :Nat)(cs:List c7)(H2:j9)(hr:Z7 zero (ps.map λp=>(p.1,p.2.1,rq T n rl p.2.2))=J cs)(hl:0<sz/\O cs=len * sz)(hH:H.set na (.cells cs)=H2)(hn:na+1=DH)
  (h2:Rl A l b j8 ops T H2 (n+1) (.s6 na sz 0 len::rl) l6 DH (⟨[],[.obj na],0,na⟩::lg) Q):Rl A l b j8 (⟨.J8 sz len zero ps W,K,K,u⟩::ops) T H n rl l6 na lg Q:=by
 grind [yb]
def Wx {sz bytes id len m:Nat}{x y:y4}{u:List Nat}{cs l0:List c7}{w:c7}(A6 t sb:Nat)(H2:j9)(hx:rq T n rl x= .s6 id sz 0 len)(hy:rq T n rl y=w)(hO:H[id]? =J (.cells l0))(hc:C7 H sz w=J (m,cs))(hmay:l.may id=W)
  (aQ:len * sz=O l0/\roomFor (len+m) bytes=W/\A8 cs<=O H/\cs.all c7.one=W/\0<sz) (hH:H.set id .dead++[.cells (l0.map c7.K9++cs)]=H2) (hN:O H=A6) (ht:len+m=t) (hs:max (id+1) w.J4=sb)
  (h2:Rl A l b j8 ops T H2 (n+1) (.s6 A6 sz 0 t::rl) (.obj A6:: .obj id::l6) na (⟨[],[.obj A6,.obj id],sb,0⟩::lg) Q):Rl A l b j8 (⟨.K3 sz bytes x y,K,K,u⟩::ops) T H n rl l6 na lg Q:=by
 grind [ya]
def bx9 {sz bytes j j2 id off m:Nat}{y:y4}{u:List Nat}{a:o3}{cs l0:List c7}{w:c7}(A6:Nat)(H2:j9)(hL:lk n rl j=J (.d (.slice 0 [])))(ha:j8[j]? =J a)(hz:a.op= .load K (.loc j2))(hp:lk n rl j2=J (.ptr id off))(ht:l6.any (Touch.aO id off)=F)(hmay:l.may id=W)
  (hO:H[id]? =J (.cells l0)) (h0:l0[off]? =J .N7) (hy:rq T n rl y=w) (hc:C7 H sz w=J (m,cs)) (aQ:roomFor m bytes=W/\0<sz) (hm:m≠0) (hH:H++[.cells cs]=H2) (hN:O H=A6)
  (h2:Rl A l b j8 ops T H2 (n+1) (.s6 A6 sz 0 m::rl) (.obj A6::l6) na (⟨[],[.obj A6],w.J4,0⟩::lg) Q):Rl A l b j8 (⟨.K3 sz bytes (.loc j) y,K,K,u⟩::ops) T H n rl l6 na lg Q:=by
 grind [ya0]
end S
def uW (old:List c7)(off:Nat)(v:c7)(hq:off<O old):splice old off [v]=old.set off v:=by
 simp_all [splice,E4,P6,if_pos]
def gH (H:j9):c7->j9
 | .s6 id _ _ _=>H.set id .dead
 |_=>H
def fo (L:Nat)(r:W9)(cs:List c7):j9 :=
 [.cells (r.enc.map .d),.dead,.dead,.cells [.s6 (L+4) 3 0 (O r.row),.s6 (L+5) 1 0 (O r.seq),.d (Z r.day)],.cells (eG r.row),.cells (fO r.seq),.cells (cs++[.s6 (L+4) 3 0 (O r.row),.s6 (L+5) 1 0 (O r.seq),.d (Z r.day)])]
def BJ {H:j9}{o:Nat}{c:x4}(ho:H[o]? =J c):o<O H:=by
 grind
end Go.A5
namespace Go.Proofs.YtibjocmpkoepoaaGreat
open Go.A5 Go.A5.S
attribute [local irreducible] Rx Ry Rn Ex Pf Rl
def aA5 (ts:List (List W9))(i k o n m:Nat)(H:j9)(w1 w5 v:c7)(cs:List c7)(Q:J6->St->Prop)(hi:i<O ts)(hk:k<O (Y ts i))(oc:List c7)(ho:H[o]? =J (.cells oc))(hin:i<n)(Ih:O oc=n)(hn:oc[i]? =J v)
  (hv:(v= .N7/\m=0/\cs=[])\/∃id,v= .s6 id 3 0 m/\id≠o/\H[id]? =J (.cells cs)/\O cs=m * 3/\cs.map c7.K9=cs) (h0:roomFor (m+1) 56=W)
  (h1:roomFor (O (Y (Y ts i) k).row) 32=W) (h2:roomFor (O (Y (Y ts i) k).seq) 8=W)
  (hq:Q .normal ⟨[.d (V6 ts),w1,.s6 o 1 0 n,.d (Z i),.d (Z k),.ptr (O H) 0],(gH H v).set o (.cells (oc.set i (.s6 (O H+6) 3 0 (m+1))))++fo (O H) (Y (Y ts i) k) cs⟩) :
  Ex A R5 1 (match a182.body with
   | .seq _ (.seq _ (.seq (.seq _ (.block _ (.loop _ (.seq _ (.seq (.block _ (.seq _ (.block _ (.loop _ (.seq _ (.seq b _)))))) _))))) _))=>b
   |c=>c) ⟨[.d (V6 ts),w1,.s6 o 1 0 n,.d (Z i),.d (Z k),w5],H⟩ Q:=by
 have hoL:=BJ ho;generalize hr:Y (Y ts i) k=r at h1 h2 hq;refine gr ?_;rw [hr];refine ac (hi:=rfl) (hH:=rfl) (h2:=?_);refine so (ho:=mH H [_] 0) (H2:=H++[.cells (r.enc.map .d)]) (hH:=uT H [_] 0 _) (h2:=?_);refine nl ?_;refine Ex.region (Rn.DI (O H+1) (H++[.cells (r.enc.map .d),.dead,.dead,.dead]) [] U (by simp;rfl) rfl ?_);refine ym ?_;refine ym ?_;refine ym ?_;refine ym ?_;refine yp (rs:=[]) (.ptr o i) (by simp [k8,rq,Ms,lk,hin,Z,c7.K9]) ?_;refine yp (rs:=[o]) v.K9 (by simp [k8,rq,Ms,lk,rd,dJ hoL,ho,c7.K9,XY hn]) ?_;refine yb' (O H+2) [] (H++[.cells (r.enc.map .d),.cells [],.dead,.dead]) rfl U (uT H _ 1 _) rfl ?_;refine yp (rs:=[]) (.ptr (O H) 0) rfl ?_;refine yp (rs:=[O H]) (.d (y6 Vl.enc r.row)) (by simp [k8,rq,Ms,lk,rd,W9.enc,c7.K9]) ?_;refine Wx (O H+4) (O r.row) (O H+2) (H++[.cells (r.enc.map .d),.dead,.dead,.dead,.cells (eG r.row)]) rfl rfl (mH H _ 1) (VQ _ _) rfl ⟨U,M,by rw [eG,tV];omega,HF _,U⟩ M U U (Nat.max_eq_left (s9 _)) ?_;refine yb' (O H+3) [] (H++[.cells (r.enc.map .d),.dead,.cells [],.dead,.cells (eG r.row)]) rfl U (uT H _ 2 _) rfl ?_;refine yp (rs:=[]) (.ptr (O H) 1) rfl ?_;refine yp (rs:=[O H]) (.d (y6 (λn=>[Z n]) r.seq)) (by simp [k8,rq,Ms,lk,rd,W9.enc,c7.K9]) ?_;refine Wx (O H+5) (O r.seq) (O H+3) (H++[.cells (r.enc.map .d),.dead,.dead,.dead,.cells (eG r.row),.cells (fO r.seq)]) rfl rfl (mH H _ 2) (at4 _ _) rfl ⟨U,M,by rw [fO,tV];omega,HF _,U⟩ M U U (Nat.max_eq_left (s9 _)) ?_;refine yp (rs:=[]) (.ptr (O H) 2) rfl ?_;refine yp (rs:=[O H]) (.d (Z r.day)) (by simp [k8,rq,Ms,lk,rd,W9.enc,c7.K9]) ?_;refine yp (rs:=[]) (.agg [.s6 (O H+4) 3 0 (O r.row),.s6 (O H+5) 1 0 (O r.seq),.d (Z r.day)]) rfl ?_;refine yb' (O H+4) _ (H++[.cells (r.enc.map .d),.dead,.dead,.cells [.s6 (O H+4) 3 0 (O r.row),.s6 (O H+5) 1 0 (O r.seq),.d (Z r.day)],.cells (eG r.row),.cells (fO r.seq)]) rfl ⟨by decide,rfl⟩ (uT H _ 3 _) rfl ?_
 rcases hv with ⟨rfl,rfl,rfl⟩|⟨id,rfl,hne,hid,hcs,has⟩
 .refine bx9 (j2:=4) (w:= .s6 (O H+3) 3 0 1) (m:=1) (cs:=[.s6 (O H+4) 3 0 (O r.row),.s6 (O H+5) 1 0 (O r.seq),.d (Z r.day)]) (O H+6) (H++fo (O H) r []) rfl rfl rfl rfl ?_ rfl ((dJ hoL).trans ho) hn rfl ?_ (by decide) U (by simp [fo]) U ?_
  .grind [Touch.aO]
  .simp [C7,rd,c7.K9]
  refine yp (rs:=[]) (.ptr o i) (by simp [k8,rq,Ms,lk,hin,Z,c7.K9]) ?_;refine ys rfl ⟨rfl,rfl⟩ rfl rfl rfl (.inr ⟨s9 _,s9 _⟩) ?_ ?_ (H2:=H.set o (.cells (oc.set i (.s6 (O H+6) 3 0 1)))++fo (O H) r [])
  .simp only [wr,dJ hoL,ho,E4,SS _ hoL]
   rw [if_pos V,uW _ _ _ V]
  refine yn hq ?_;simp [dN,G6,Touch.F7,s8.makes,s8.y7,c7.J4];omega
 .have UB:=BJ hid
  refine Wx (w:= .s6 (O H+3) 3 0 1) (m:=1) (cs:=[.s6 (O H+4) 3 0 (O r.row),.s6 (O H+5) 1 0 (O r.seq),.d (Z r.day)]) (O H+6) (m+1) _ (H.set id .dead++fo (O H) r cs) rfl rfl ((dJ UB).trans hid) ?_ rfl ⟨hcs.symm,h0,?_,?_,U⟩ ?_ U rfl rfl ?_
  .simp [C7,rd,c7.K9]
  .simp [A8,c7.J4]
  .rfl
  .simp_all [SS,fo]
  refine yp (rs:=[]) (.ptr o i) (by simp [k8,rq,Ms,lk,hin,Z,c7.K9]) ?_;have hL:O (H.set id .dead)=O H:=List.length_set ..;refine ys rfl ⟨rfl,rfl⟩ rfl rfl rfl (.inr ⟨s9 _,s9 _⟩) ?_ ?_ (H2:=(H.set id .dead).set o (.cells (oc.set i (.s6 (O H+6) 3 0 (m+1))))++fo (O H) r cs)
  .have:(H.set id .dead++fo (O H) r cs)[o]? =J (.cells oc):=by
    grind
   simp only [wr,this,E4,SS _ (hL ▸ hoL)];rw [if_pos V,uW _ _ _ V]
  refine yn hq ?_;simp [dN,G6,Touch.F7,s8.makes,s8.y7,c7.J4];omega
end Go.Proofs.YtibjocmpkoepoaaGreat
namespace Go.A5
def Ol {l:List c7}{v:c7}(h:v∈l):v.J4<=A8 l:=by
 obtain ⟨i,hi,rfl⟩:=L5 h;exact oS l i _ (n9 hi)
def qO {l:List x4}{v:x4}(h:v∈l):v.J4<=F3 l:=by
 induction l with
 |nil=>cases h
 |cons a l ih =>
  grind [F3]
theorem oT:∀a b:j9,F3 (a++b)=max (F3 a) (F3 b)
 |[],b=>by simp [F3]
 |x::a,b=>by simp [F3,oT a b]
theorem oV:∀(H:j9) (i:Nat) (c:x4),F3 (H.set i c)<=max (F3 H) c.J4
 |[],_,_=>by simp [F3]
 |x::H,0,c=>by grind [F3]
 |x::H,i+1,c=>by
  have:=oV H i c
  grind [F3]
theorem xz:∀(l:List c7) (i:Nat) (v:c7),A8 (l.set i v)<=max (A8 l) v.J4
 |[],_,_=>by simp [A8]
 |x::H,0,c=>by grind [A8]
 |x::H,i+1,c=>by
  have:=xz H i c
  grind [A8]
theorem Aw:∀a b:List c7,A8 (a++b)=max (A8 a) (A8 b)
 |[],b=>by simp [A8]
 |x::a,b=>by simp [A8,Aw a b]
def Sn (H:j9)(v:c7):F3 (gH H v)<=F3 H:=by
 cases v with
 |s6 id _ _ _=>exact s5 (oV H id .dead) (by simp [x4.J4])
 |_=>exact k9 _
theorem EJ (H:j9)(v:c7):O (gH H v)=O H:=by cases v<;>simp [gH]
def SB (L:Nat)(r:W9)(cs:List c7):F3 (fo L r cs)=max (A8 cs) (L+6):=by
 have e1:=tV (r.row.flatMap Vl.enc);have e2:=tV (r.seq.flatMap λn=>[Z n]);have e3:=tV r.enc;simp [fo,F3,x4.J4,eG,fO,Aw,A8,c7.J4];omega
def Wp {H:j9}{o i m:Nat}{oc cs:List c7}(v:c7)(r:W9)(ho:o<O H)(hi:i<O oc)(hW:F3 H<=O H)(Ih:A8 oc<=O H)(hcs:A8 cs<=O H) :
  A8 (oc.set i (.s6 (O H+6) 3 0 m))=O H+7/\F3 ((gH H v).set o (.cells (oc.set i (.s6 (O H+6) 3 0 m)))++fo (O H) r cs)=O H+7:=by
 have h1:=xz oc i (.s6 (O H+6) 3 0 m);have h2:(c7.s6 (O H+6) 3 0 m).J4<=A8 (oc.set i (.s6 (O H+6) 3 0 m)):=Ol (List.mem_set hi _);have h3:(c7.s6 (O H+6) 3 0 m).J4=O H+7:=rfl;have h4:=Sn H v;have h5:=oV (gH H v) o (.cells (oc.set i (.s6 (O H+6) 3 0 m)));have h6:(x4.cells (oc.set i (.s6 (O H+6) 3 0 m))).J4<=F3 ((gH H v).set o (.cells (oc.set i (.s6 (O H+6) 3 0 m)))):=qO (List.mem_set (by grind [EJ]) _);have h7:(x4.cells (oc.set i (.s6 (O H+6) 3 0 m))).J4=A8 (oc.set i (.s6 (O H+6) 3 0 m)):=rfl;rw [oT,SB];omega
def Gx (H:j9)(o:Nat)(oc:List c7)(ts:List (List W9))(ids:List Nat):Prop :=
 H[o]? =J (.cells oc)/\Y4 H oc ts ids/\ids.Nodup/\(∀x∈ids,o<x/\x<O H)/\((ids=[]/\F3 H=0)\/(A8 oc=O H/\F3 H=O H))
def Gx.step {H:j9}{o:Nat}{oc:List c7}{A d9:List (List W9)}{p:List W9}{ids:List Nat}(r:W9)(h:Gx H o oc (A++p::d9) ids) :
  ∃v cs,oc[O A]? =J v/\((v= .N7/\O p=0/\cs=[])\/∃id,v= .s6 id 3 0 (O p)/\id≠o/\H[id]? =J (.cells cs)/\O cs=O p * 3/\cs.map c7.K9=cs) /\
   ∃ids',Gx ((gH H v).set o (.cells (oc.set (O A) (.s6 (O H+6) 3 0 (O p+1))))++fo (O H) r cs) o (oc.set (O A) (.s6 (O H+6) 3 0 (O p+1))) (A++(p++[r])::d9) ids' /\∀x,x<o->((gH H v).set o (.cells (oc.set (O A) (.s6 (O H+6) 3 0 (O p+1))))++fo (O H) r cs)[x]? =H[x]? :=by
 obtain ⟨ho,ht,hnd,hlt,YR⟩:=h;have hoL:=BJ ho;have hW:F3 H<=O H:=V
 have bk1:A8 oc<=O H:=s5 (qO (v:= .cells oc) (List.mem_of_getElem? ho)) hW;obtain ⟨v,i0,i1,i2,e1,e2,h1,h2⟩:=Y4.split ht;subst e2;have key:∃cs,((v= .N7/\O p=0/\cs=[])\/∃id,v= .s6 id 3 0 (O p)/\id≠o/\H[id]? =J (.cells cs)/\O cs=O p * 3/\cs.map c7.K9=cs)/\((p=[]/\cs=[])\/∃id0,v= .s6 id0 3 0 (O p)/\H[id0]? =J (.cells cs)) /\
   (A8 cs<=O H)/\(∀x,x≠o->x<O H->(∀y,i1.head? =J y->x≠y)->∀c,((gH H v).set o c++fo (O H) r cs)[x]? =H[x]?)/\O (gH H v)=O H:=by
  rcases h1 with ⟨rfl,rfl,rfl⟩|⟨id,cs,ids',rfl,rfl,g1,g2⟩
  .refine ⟨[],.inl ⟨rfl,rfl,rfl⟩,.inl ⟨rfl,rfl⟩,s9 _,λx hx hL _ c=>?_,rfl⟩
   simp_all [dJ,gH,x3,Ne.symm]
  .have hid:=hlt id U
   refine ⟨cs,.inr ⟨id,rfl,V,g1,g2.len,g2.K9⟩,.inr ⟨id,rfl,g1⟩,s5 (qO (v:= .cells cs) (List.mem_of_getElem? g1)) hW,λx hx hL hne c=>?_,by simp [gH]⟩;simp_all [dJ,gH,x3,Ne.symm]
 obtain ⟨cs,k1,k2,kb,k3,k4⟩:=key;have kL:∀c j,((gH H v).set o c++fo (O H) r cs)[O H+j]? =(fo (O H) r cs)[j]? :=λc j=>by
  grind [gH,set,mH]
 refine ⟨v,cs,e1,k1,_,⟨?_,h2 _ _ _ _ (λx hx=>?_) (h1.snoc k2 (λx hx=>?_) (kL _ 4) (kL _ 5) (kL _ 6)),?_,?_,.inr ?_⟩,λx hx=>k3 x V V (λy hy=>?_) _⟩
 .grind
 .have hb:=hlt x (by grind)
  refine k3 x V hb.2 (λy hy=>?_) _
  grind [List.mem_of_mem_head?,List.nodup_append]
 .have hx' :=List.mem_of_mem_drop hx
  have hb:=hlt x (by simp [hx']);refine k3 x V hb.2 (λy hy=>?_) _;cases i1 with
  |nil=>cases hy
  |cons a t =>
   grind
 .have hb:∀x,x∈i0\/x∈i1\/x∈i2->x<O H:=λx hx=>(hlt x M).2
  simp only [List.nodup_append,N9,List.nodup_cons,List.mem_cons,List.not_mem_nil,or_false] at hnd ⊢
  grind
 .intro x hx
  have hsub:∀a,a∈i1.drop 1->a∈i1:=λa=>List.mem_of_mem_drop
  have hb:∀x,x∈i0\/x∈i1\/x∈i2->o<x/\x<O H:=λx hx=>hlt x M
  have hl:O ((gH H v).set o (.cells (oc.set (O A) (.s6 (O H+6) 3 0 (O p+1))))++fo (O H) r cs)=O H+7:=by simp [k4,fo]
  simp_all<;>grind
 .have:=Wp (m:=O p+1) v r hoL (by grind:O A<O oc) hW bk1 kb
  simp_all [gH,set,fo]
 .have hy' :y∈i1:=List.mem_of_mem_head? hy
  simp_all<;>grind
theorem Y4.N7 (H:j9):∀n:Nat,Y4 H (c8 n .N7) (c8 n []) []
 |0=>⟨rfl,rfl⟩
 |n+1=>⟨.N7,_,[],[],rfl,rfl,.inl ⟨rfl,rfl,rfl⟩,Y4.N7 H n⟩
theorem IV:∀l:List Data,L1 (l.map .d)=J l
 |[]=>rfl
 |_::l=>by simp [L1,c7.data?,IV l]
theorem Ur (H:j9)(n:Nat):∀(l:List Data) (f:Nat),O l<f->cH H n f (l.map .d)=J (l.map .d)
 |[],f+1,_=>rfl
 |x::l,f+1,h=>by
  have h:=Ur H n l f (by simpa using h)
  grind [cH]
def Uu {H:j9}{n f id sz len:Nat}{vs ws us us' :List c7}{xs:List Data}(hid:n<=id)(h:cH H n f vs=J ws)(hc:H[id]? =J (.cells us))(hl:O us=len * sz)(hu:cH H n f us=J us')(hx:L1 us' =J xs):cH H n (f+1) (.s6 id sz 0 len::vs)=J (.d (.slice len xs)::ws):=by
 simp_all [rd,A4,cH,Nat.not_lt,if_false]
def Ut {H:j9}{n f id sz len:Nat}{vs ws us:List c7}{xs:List Data}(hid:n<=id)(h:cH H n f vs=J ws)(hc:H[id]? =J (.cells us))(hl:O us=len * sz)(hu:cH H n f us=J (xs.map .d)):cH H n (f+1) (.s6 id sz 0 len::vs)=J (.d (.slice len xs)::ws):=Uu hid h hc hl hu (IV xs)
theorem O9.frz {H:j9}{n:Nat}:∀{rs:List W9} {cs:List c7} {ids:List Nat} {f:Nat},O9 H cs rs ids->(∀x∈ids,n<=x)->(∀r∈rs,O rs * 3+O r.row * 3<f/\O rs * 3+O r.seq<f)->0<f->cH H n f cs=J ((rs.flatMap W9.enc).map .d)
 |[],_,_,f+1,h,_,_,_=>by
  rw [h.1];rfl
 |r::rs,_,_,f,⟨a,b,cs',ids',e1,e2,h1,h2,h3⟩,hn,hf,h0=>by
  subst e1 e2;have hf1:=hf r U;simp [o8] at hf1;obtain ⟨g,rfl⟩:∃g,f=g+3:=⟨f - 3,V⟩;have ih:=h3.frz (n:=n) (f:=g) (λx hx=>hn x (by simp [hx])) (λr' hr' =>by
   grind) V
  have i1:cH H n (g+1) (.d (Z r.day)::cs')=J (.d (Z r.day)::(rs.flatMap W9.enc).map .d):=by grind [cH]
  have i2:=Ut (sz:=1) (len:=O r.seq) (hn b U) i1 h2 (by rw [fO,A9,An,Nat.mul_one]) (Ur H n _ _ (by rw [An];omega));have i3:=Ut (sz:=3) (len:=O r.row) (hn a U) i2 h1 (by rw [eG,A9,HL]) (Ur H n _ _ (by rw [HL];omega));exact i3
theorem eO.frz {H:j9}{n f:Nat}{v:c7}{rs:List W9}{ids:List Nat}{vs ws:List c7}(h:eO H v rs ids)(hn:∀x∈ids,n<=x)(hf:∀r∈rs,O rs * 3+O r.row * 3<f/\O rs * 3+O r.seq<f)(h0:0<f)(hw:cH H n f vs=J ws):∃w,cH H n (f+1) (v::vs)=J (w::ws)/\w.data? =J (zQ rs):=by
 rcases h with ⟨rfl,rfl,rfl⟩|⟨id,cs,ids',rfl,rfl,h1,h2⟩
 .refine ⟨.N7,?_,rfl⟩
  grind [cH]
 .exact ⟨_,Ut (hn id U) hw h1 h2.len (h2.frz (λx hx=>hn x (by simp [hx])) hf h0),rfl⟩
theorem Y4.frz {H:j9}{n:Nat}:∀{ts:List (List W9)} {vs:List c7} {ids:List Nat} {f:Nat},Y4 H vs ts ids->(∀x∈ids,n<=x)->(∀t∈ts,O ts<f/\∀r∈t,O ts+O t * 3+O r.row * 3<f/\O ts+O t * 3+O r.seq<f)->0<f ->
  ∃ws,cH H n f vs=J ws/\L1 ws=J (ts.map zQ)
 |[],_,_,f+1,h,_,_,_=>⟨[],by rw [h.1];rfl,rfl⟩
 |t::ts,_,_,f,⟨v,vs',i1,i2,e1,e2,h1,h2⟩,hn,hf,h0=>by
  subst e1 e2;have hf1:=hf t U;simp [o8] at hf1;obtain ⟨g,rfl⟩:∃g,f=g+1:=⟨f - 1,V⟩;obtain ⟨ws,w1,w2⟩:=h2.frz (n:=n) (f:=g) (λx hx=>hn x (by simp [hx])) (λt' ht=>by
   grind) V
  obtain ⟨w,w3,w4⟩:=h1.frz (n:=n) (λx hx=>hn x (by simp [hx])) (λr hr=>by
   grind) V w1
  simp_all [L1,G4]
def pE {mask:List Bool}{n:Nat}{T:List c7}{H:j9}{o:Nat}{oc:List c7}(ho:H[o]? =J (.cells oc))(hon:o<n)(h:O H=n\/∃v∈oc,n<v.J4):clean mask 0 n ⟨T,H⟩=⟨U7 mask T,H⟩:=by
 unfold clean;split
 .rcases h with h|⟨v,hv,hb⟩
  .simp [<- h]
  .have h1:x4.cells oc∈H.take n:=by
    grind [List.mem_take_iff_getElem,List.getElem?_eq_some_iff]
   have h2:=qO h1;have h3:=Ol hv
   grind [x4.J4]
 .rfl
def room_le {n m b:Nat}(h:roomFor m b=W)(hn:n<=m):roomFor n b=W:=by
 rw [roomFor,decide_eq_true_eq] at h ⊢;exact s5 (I8 _ V) h
def ZL {m:Nat}(h:roomFor m 56=W):m<2513169434917:=by
 have h:=of_decide_eq_true h;omega
theorem IB:∀n:Nat,A8 (c8 n .N7)=0
 |0=>rfl
 |n+1=>by simp [O8,A8,IB n,c7.J4]
end Go.A5
namespace Go.Proofs.YtibjocmpkoepoaaGreat
open Go.A5 Go.A5.S
attribute [local irreducible] Rx Ry Rn Ex Pf Rl
def aA6 (ts:List (List W9))(i o n0:Nat)(H:j9)(w1 w4 w5:c7)(Q:J6->St->Prop)(hi:i<O ts)(oc:List c7)(ids:List Nat)(A0 B0:List (List W9))(hA:O A0=i)(h:Gx H o oc (A0++[]::B0) ids)(Ih:O oc=O ts)(hon:o<n0)(hn0:n0<=O H)(hg:O H=n0\/∃v∈oc,n0<v.J4)
  (h0:roomFor (O (Y ts i)+1) 56=W) (h1:∀k,k<O (Y ts i)->roomFor (O (Y (Y ts i) k).row) 32=W/\roomFor (O (Y (Y ts i) k).seq) 8=W)
  (hq:∀H' oc' ids' w1 w4 w5,Gx H' o oc' (A0++Y ts i::B0) ids' ->O oc'=O ts->n0<=O H'->(O H'=n0\/∃v∈oc',n0<v.J4)->(∀x,x<o->H'[x]? =H[x]?)->Q .normal ⟨[.d (V6 ts),w1,.s6 o 1 0 (O ts),.d (Z i),w4,w5],H'⟩) :
  Ex A R5 1 (match a182.body with
   | .seq _ (.seq _ (.seq (.seq _ (.block _ (.loop _ (.seq _ (.seq b _))))) _))=>b
   |c=>c) ⟨[.d (V6 ts),w1,.s6 o 1 0 (O ts),.d (Z i),w4,w5],H⟩ Q:=by
 refine gr ?_;refine Ex.loop (λq s=>∃k oc ids H' w1 w5,k<=O (Y ts i)/\q=O (Y ts i) - k/\s=⟨[.d (V6 ts),w1,.s6 o 1 0 (O ts),.d (Z i),.d (Z k),w5],H'⟩/\Gx H' o oc (A0++(Y ts i).take k::B0) ids/\O oc=O ts/\O H<=O H'/\(O H'=n0\/∃v∈oc,n0<v.J4)/\(O H'=O H\/∃v∈oc,O H<v.J4)/\∀x,x<o->H'[x]? =H[x]?) ?_ (k:=O (Y ts i)) ⟨0,oc,ids,H,w1,w5,V,V,rfl,by simpa using h,Ih,V,hg,.inl rfl,λ_ _=>rfl⟩;rintro q s ⟨k,oc,ids,H',w1,w5,hk,rfl,rfl,hC,Ih,hL,XR,hg1,hlo⟩;rw [show (R5).strict=0 from rfl,pE hC.1 V hg1];refine Ex.seq ?_;refine tl (k:Int) (O (Y ts i):Int) (λhlt=>?_) (λhge=>?_)
 .have hk' :k<O (Y ts i):=V
  obtain ⟨v,cs,e1,e2,ids',hC',an1⟩:=hC.step (Y (Y ts i) k);rw [hA] at e1 hC' an1;have e3:O ((Y ts i).take k)=k:=M
  rw [e3] at e2 hC' an1;refine Ex.skip ?_;refine Ex.seq ?_;refine aA5 ts i k o (O ts) k H' .any .any v cs _ hi hk' oc hC.1 hi Ih e1 e2 (room_le h0 V) (h1 k hk').1 (h1 k hk').2 ?_;have hb:=ZL h0
  repeat' (first|refine ad V ?_|refine gx ?_|fail)
  have hin:i<O oc:=V
  have hmem:(c7.s6 (O H'+6) 3 0 (k+1))∈oc.set i (.s6 (O H'+6) 3 0 (k+1)):=List.mem_set hin _;refine ⟨O (Y ts i) - (k+1),V,k+1,_,ids',_,_,_,V,rfl,rfl,?_,?_,?_,.inr ⟨_,hmem,?_⟩,.inr ⟨_,hmem,?_⟩,λx hx=>(an1 x hx).trans (hlo x hx)⟩
  .simp_all [H8]
  all_goals grind [List.length_set,EJ,fo,c7.J4]
 .refine Ex.exit ?_
  obtain rfl:k=O (Y ts i):=V
  rw [List.take_length] at hC;exact hq _ _ _ _ _ _ hC Ih V XR hlo
def aA7 (ts:List (List W9))(c0:x4)(hc0:c0.J4=0)(hmk:O ts<=1000000)
  (h0:∀i,i<O ts->roomFor (O (Y ts i)+1) 56=W) (h1:∀i,i<O ts->∀k,k<O (Y ts i)->roomFor (O (Y (Y ts i) k).row) 32=W/\roomFor (O (Y (Y ts i) k).seq) 8=W) :
  Pq A 182 [.d (V6 ts)] [c0] R5 λv H=>v= .s6 1 1 0 (O ts)/\H[0]? =J c0/\∃oc ids,Gx H 1 oc ts ids:=by
 refine Pq.go (b:=1) 5 ?_
 repeat' (first|refine mn (h2:=?_)|refine ln ?_|refine gx ?_|fail)
 refine mks (id:=1) (len:=O ts) (H2:=[c0,.cells (c8 (O ts) .N7)]) ?_ ?_ rfl ?_
 .grind [uB,rq,Ms,lk,c7.K9]
 .simp
 refine gr ?_;have hC0:Gx [c0,.cells (c8 (O ts) .N7)] 1 (c8 (O ts) .N7) (ts.take 0++c8 (O ts - 0) []) []:=⟨rfl,Y4.N7 _ _,List.nodup_nil,(λ_ h=>by cases h),.inl ⟨rfl,by simp [F3,hc0,show ∀l,(x4.cells l).J4=A8 l from λ_=>rfl,IB]⟩⟩;refine Ex.loop (λq s=>∃i oc ids H' w1 w4 w5,i<=O ts/\q=O ts - i/\s=⟨[.d (V6 ts),w1,.s6 1 1 0 (O ts),.d (Z i),w4,w5],H'⟩/\Gx H' 1 oc (ts.take i++c8 (O ts - i) []) ids/\O oc=O ts/\2<=O H'/\(O H'=2\/∃v∈oc,2<v.J4)/\H'[0]? =J c0) ?_ (k:=O ts) ⟨0,_,_,_,_,_,_,V,V,rfl,hC0,U,U,.inl rfl,rfl⟩;rintro q s ⟨i,oc,ids,H',w1,w4,w5,hi,rfl,rfl,hC,Ih,hL,hg,hc⟩;show Ex A R5 1 _ (clean _ 0 2 _) _
 rw [pE hC.1 V hg];refine Ex.seq ?_;refine tl (i:Int) (O ts:Int) (λhlt=>?_) (λhge=>?_)
 .have hi' :i<O ts:=V
  refine Ex.skip ?_;refine Ex.seq ?_;obtain ⟨m,hm⟩:∃m,O ts - i=m+1:=⟨O ts - i - 1,V⟩;have hm' :O ts - (i+1)=m:=V
  rw [hm,O8] at hC;refine aA6 ts i 1 2 H' .any .any .any _ hi' oc ids _ _ M hC Ih V hL hg (h0 i hi') (h1 i hi') (λH2 oc2 Ju u1 u4 u5 g1 g2 g3 g4 g5=>?_);refine gr ?_;refine ⟨O ts - (i+1),V,i+1,oc2,Ju,H2,_,_,_,V,rfl,rfl,?_,g2,g3,g4,?_⟩
  all_goals simp_all [H8,K2]
 .refine Ex.exit ?_
  obtain rfl:i=O ts:=V
  rw [List.take_length,Nat.sub_self,List.replicate_zero,List.append_nil] at hC;show Ex A R5 1 (.seq (.region _ F) .ret) ⟨[.d (V6 ts),.any,.s6 1 1 0 (O ts),.d (Z (O ts)),.any,.any],H'⟩ _
  refine gr ?_;exact ⟨_,_,rfl,rfl,hc,oc,ids,hC⟩
def Tv (v:Vl):Bool :=
 if x5 v.k 0 then x5 v.n 0&&O4 v.t []
 else if x5 v.k 1 then aH (-4294967296) v.n&&(aH v.n 4294967296&&O4 v.t [])
 else x5 v.k 2&&(x5 v.n 0&&aH (O v.t) 32)
def BN (v:Vl):Pf A 228 [.agg (v.enc.map .d)] (.d (.bool (Tv v))):=by
 refine Pf.go 3 ?_
 repeat' (first|refine gy ?_|refine fq (λhw=>?_) λhw=>?_|refine ⟨_,rfl,?_⟩|fail)
 all_goals simp [Tv,j4, *]
def isKey (key:Vl)(r:W9):Bool:=F0 0 (O r.row)&&decide (Y r.row 0=key)
def ou (t:List W9)(key:Vl):Int:=if Tv key&& !x5 key.k 0 then (match t.findIdx? (isKey key) with|some i=>(i:Int)|none=> -1) else -1
def Bp (a b:Vl):(a.k==b.k&&(a.n==b.n&&(a.t==b.t&&W)))=decide (a=b):=by
 cases a;cases b;rw [Bool.eq_iff_iff];simp
def OF {t:List W9}{key:Vl}{i:Nat}(hi:i<O t)(h:isKey key (Y t i)=W)(hb:∀j,j<i->isKey key (Y t j)=F):t.findIdx? (isKey key)=J i:=by
 rw [List.findIdx?_eq_some_iff_getElem];refine ⟨hi,by rw [<- F9 hi];exact h,λj hj=>?_⟩;rw [<- F9 (by omega:j<O t),hb j hj];simp
def OG {t:List W9}{key:Vl}(hb:∀j,j<O t->isKey key (Y t j)=F):t.findIdx? (isKey key)=K:=by
 rw [List.findIdx?_eq_none_iff];intro x hx;obtain ⟨j,hj,rfl⟩:=L5 hx;rw [<- F9 hj];exact hb j hj
def aq7 (t:List W9)(key:Vl)(ht:O t<4294967296):Pf A 183 [.d (zQ t),.agg (key.enc.map .d)] (.d (Z (ou t key))):=by
 refine Pf.gr 3 ?_;refine Ex.M4 (λk T' H' =>∃i:Nat,i<=O t/\k=O t - i/\T' =[.d (zQ t),.any,.ptr 0 0,.any,.d (Z i)]/\H' =[.cells (key.enc.map .d)]/\∀j,j<i->isKey key (Y t j)=F) ?_ (k:=O t) ⟨0,V,V,rfl,rfl,λ_ h=>V⟩;rintro k T' H' ⟨i,hi,rfl,rfl,rfl,hb⟩;refine Ex.seq ?_;refine tc (F0 (i:Int) (O t)&&(Tv key&& !x5 key.k 0)) BN (λh=>?_) (λh=>?_)
 .rw [c9] at h
  have hlt:(i:Int)<O t:=C8 h.1;have hok:=h.2;have next:isKey key (Y t i)=F->∀j,j<i+1->isKey key (Y t j)=F:=λh1 j hj=>by
   rcases A7 j i with h2|h2
   .exact hb j h2
   .rwa [show j=i by omega]
  repeat' (first|refine gx ?_|refine fq (λhw=>?_) λhw=>?_|refine Ex.rL ?_|refine Ex.ud ?_|refine Ex.cond rfl (λht=>?_) (λht=>?_)|refine Ex.test (Rn.text ?_)|refine Ex.test (Rn.draw ?_)|refine ⟨_,rfl,λht=>?_,λht=>?_⟩|refine ⟨_,rfl,?_⟩|fail)
  .rename_i h9;have ht:=hw;have hw:=h9;simp only [Bp,Bool.false_bne,decide_eq_true_eq] at ht
   have:isKey key (Y t i)=W:=by rw [isKey,hw,ht];simp
   simp only [j4,ou,hok,if_true,OF V this hb]
  .have ht:=hw;simp only [Bp,Bool.false_bne] at ht
   exact ⟨O t - (i+1),V,i+1,V,rfl,rfl,rfl,next (by rw [isKey,ht,Bool.and_false])⟩
  .cases hw
  .rename_i h9;exact ⟨O t - (i+1),V,i+1,V,rfl,rfl,rfl,next (by rw [isKey,h9,Bool.false_and])⟩
 .repeat' (first|refine gx ?_|refine fq (λhw=>?_) λhw=>?_|refine Ex.rL ?_|refine Ex.ud ?_|refine Ex.cond rfl (λht=>?_) (λht=>?_)|refine Ex.test (Rn.text ?_)|refine Ex.test (Rn.draw ?_)|refine ⟨_,rfl,λht=>?_,λht=>?_⟩|refine ⟨_,rfl,?_⟩|fail)
  simp only [j4,ou];split
  next hok=>
   rw [hok,Bool.and_true] at h;have:=D4 h;rw [OG λj hj=>hb j V];rfl
  .rfl
end Go.Proofs.YtibjocmpkoepoaaGreat
namespace Go.A5
structure iN where
 op:Int
 seq:Int
 day:Int
 U1:Int
 row:List Vl
 key:Vl
 col:Int
 val:Vl
 deriving DecidableEq,Inhabited
def iN.enc (c:iN):List Data:=[Z c.op,Z c.seq,Z c.day,Z c.U1,y6 Vl.enc c.row,Z c.key.k,Z c.key.n,.str c.key.t,Z c.col,Z c.val.k,Z c.val.n,.str c.val.t]
section
variable {A:Prog} {l:J2} {b:Nat} {dr:Bool} {j8 ops:List o3} {T:List c7} {H:j9} {n:Nat} {rl:List c7} {l6:List Touch} {Q:List c7->j9->List c7->Prop}
def S.ltS {x y:y4}{s t:K0}{u:List Nat}(h2:Ry A l b dr j8 ops T H (n+1) (.d (.bool (Op.bytesLess s t))::rl) l6 Q)(hx:rq T n rl x= .d (.str s):=by rfl)(hy:rq T n rl y= .d (.str t):=by rfl) :
  Ry A l b dr j8 (⟨.bin .lss x y,K,K,u⟩::ops) T H n rl l6 Q:=Ry.pure (rs:=[]) rfl (by grind [k8,M1,vZ]) h2
end
end Go.A5
namespace Go.Proofs.YtibjocmpkoepoaaGreat
open Go.A5 Go.A5.S
attribute [local irreducible] Rx Ry Rn Ex Pf Rl
def Zw (a b c:Int):Pf A 236 [.d (Z a),.d (Z b),.d (Z c)] (.d (.bool (aH b a&&aH a c))):=by
 refine Pf.go 1 ?_
 repeat' (first|refine gy ?_|refine fq (λhw=>?_) λhw=>?_|refine ⟨_,rfl,?_⟩|fail)
 all_goals simp [j4, *]
def aq6 (v:Vl)(k:Int):Pf A 180 [.agg (v.enc.map .d),.d (Z k)] (.d (.bool (x5 v.k 0||x5 v.k k))):=by
 refine Pf.go 2 ?_
 repeat' (first|refine gy ?_|refine fq (λhw=>?_) λhw=>?_|refine ⟨_,rfl,?_⟩|fail)
 all_goals simp [j4, *]
def jW (v:Vl):Vl:=if Tv v then v else ⟨0,0,[]⟩
def Zv (v:Vl):Pf A 169 [.agg (v.enc.map .d)] (.agg ((jW v).enc.map .d)):=by
 refine Pf.go 2 ?_
 repeat' (first|refine cl (BN _) ?_|refine sO (BN _) ?_|refine gx ?_|refine fq (λht=>?_) λht=>?_|refine Ex.rL ?_|refine Ex.ud ?_|refine Ex.cond rfl (λht=>?_) (λht=>?_)|refine Ex.test (Rn.text ?_)|refine Ex.test (Rn.draw ?_)|refine ⟨_,rfl,λht=>?_,λht=>?_⟩|refine ⟨_,rfl,?_⟩|fail)
 .simp only [jW,ht]
  rfl
 .simp only [jW,ht]
  rfl
def zJ (c:iN):Vl:=if x5 c.op 1 then Y c.row 0 else c.key
def aq5 (c:iN)(h:c.op=1->0<O c.row):Pf A 179 [.agg (c.enc.map .d)] (.agg ((zJ c).enc.map .d)):=by
 refine Pf.go 2 ?_
 repeat' (first|refine gx ?_|refine fq (λht=>?_) λht=>?_|refine Ex.rL ?_|refine Ex.ud ?_|refine Ex.cond rfl (λht=>?_) (λht=>?_)|refine Ex.test (Rn.text ?_)|refine Ex.test (Rn.draw ?_)|refine ⟨_,rfl,λht=>?_,λht=>?_⟩|refine ⟨_,rfl,?_⟩|fail)
 all_goals
  simp only [zJ,ht];rfl
def IS (a b:Vl):Int :=
 if jW a=jW b then 0 else if F0 (jW a).k (jW b).k||(x5 (jW a).k (jW b).k&&(F0 (jW a).n (jW b).n||Op.bytesLess (jW a).t (jW b).t)) then -1 else 1
def aq8 (a b:Vl):Pf A 184 [.agg (a.enc.map .d),.agg (b.enc.map .d)] (.d (Z (IS a b))):=by
 refine Pf.go 3 ?_
 repeat' (first|refine cl (Zv _) ?_|refine sO (Zv _) ?_|refine soD (h2:=?_)|refine ltS ?_|refine gy ?_|refine fq (λhw=>?_) λhw=>?_|refine ⟨_,rfl,?_⟩|fail)
 all_goals simp only [Bp,Bool.false_bne,decide_eq_true_eq,decide_eq_false_iff_not] at *
 all_goals simp_all [j4,IS,Z]
def bq3 (l:List Vl):Pf A 237 [.d (y6 Vl.enc l)] (.d (.bool (!F0 16 (O l)&&l.all Tv))):=by
 refine Pf.go 2 ?_;refine Ex.seq ?_;refine gr ?_;refine tc (F0 16 (O l)) trivial (λh=>?_) (λh=>?_)
 .refine gr ?_
  exact ⟨_,rfl,by rw [h];rfl⟩
 have hl:=D4 h;refine gr ?_;refine Ex.M4 (λk T' H' =>∃i:Nat,i<=O l/\k=O l - i/\T' =[.d (y6 Vl.enc l),.any,.d (Z i)]/\H' =[]/\∀j,j<i->Tv (Y l j)=W) ?_ (k:=O l) ⟨0,V,V,rfl,rfl,λ_ h=>V⟩;rintro k T' H' ⟨i,hi,rfl,rfl,rfl,hb⟩;refine Ex.seq ?_;refine tl (i:Int) (O l:Int) (λh2=>?_) (λh2=>?_)
 .repeat' (first|refine cl (BN _) ?_|refine sO (BN _) ?_|refine gx ?_|refine fq (λht=>?_) λht=>?_|refine Ex.rL ?_|refine Ex.ud ?_|refine Ex.cond rfl (λht=>?_) (λht=>?_)|refine Ex.test (Rn.text ?_)|refine Ex.test (Rn.draw ?_)|refine ⟨_,rfl,λht=>?_,λht=>?_⟩|refine ⟨_,rfl,?_⟩|fail)
  .have h3:Tv (Y l i)=F:=by simpa using ht
   have h4:l.all Tv=F:=by
    rw [Bool.eq_false_iff];intro h4;have:=List.all_eq_true.1 h4 _ (List.getElem_mem (by omega:i<O l));rw [<- F9 V,h3] at this;cases this
   simp only [j4,h4,Bool.and_false]
  .have h3:Tv (Y l i)=W:=by simpa using ht
   refine ⟨O l - (i+1),V,i+1,V,rfl,rfl,rfl,λj hj=>?_⟩
   rcases A7 j i with h5|h5
   .exact hb j h5
   .rwa [show j=i by omega]
 .refine gr ?_
  have h4:l.all Tv=W:=by
   rw [List.all_eq_true];intro x hx;obtain ⟨j,hj,rfl⟩:=L5 hx;rw [<- F9 hj];exact hb j V
  exact ⟨_,rfl,by rw [h,h4];rfl⟩
end Go.Proofs.YtibjocmpkoepoaaGreat
namespace Go.A5
theorem O9.at {H:j9}:∀{rs:List W9} {cs:List c7} {ids:List Nat} {i:Nat},O9 H cs rs ids->i<O rs->∃a b,cs[i * 3]? =J (.s6 a 3 0 (O (Y rs i).row))/\cs[i * 3+1]? =J (.s6 b 1 0 (O (Y rs i).seq))/\a∈ids/\b∈ids/\H[a]? =J (.cells (eG (Y rs i).row))/\H[b]? =J (.cells (fO (Y rs i).seq))
 |[],_,_,_,_,h=>by cases h
 |r::rs,_,_,i,⟨a,b,cs',ids',e1,e2,h1,h2,h3⟩,h=>by
  have n0:Y (r::rs) 0=r:=by simp [Y]
  have n1:∀i,Y (r::rs) (i+1)=Y rs i:=λi=>by simp [Y]
  cases i with
  |zero =>
   simp_all
  |succ i =>
   obtain ⟨a',b',g1,g2,g3,g4,g5,g6⟩:=h3.at (i:=i) (by simpa using h)
   grind
def cN {H:j9}{id o:Nat}{cs:List c7}{v:c7}(h:H[id]? =J (.cells cs))(hv:cs[o]? =J v):rd H id o 1=J [v]:=by
 simp_all [rd,XY]
def ND {H:j9}{a:Nat}{r:List Vl}(h:H[a]? =J (.cells (eG r)))(hr:0<O r):rd H a 0 3=J ((Y r 0).enc.map .d):=by
 cases r with
 |nil=>cases hr
 |cons v r=>simp [rd,h,eG,Vl.enc,Y]
end Go.A5
namespace Go.Proofs.YtibjocmpkoepoaaGreat
open Go.A5 Go.A5.S
attribute [local irreducible] Rx Ry Rn Ex Pf Rl
def Un (H X:j9)(w0 w1 w2 w4:c7)(x:Int):Z4 a183 (O H) (J (.ret,⟨[w0,w1,w2,.d (Z x),w4],H++X⟩))=J (.d (Z x),H):=by
 have:Z4 a183 (O H) (J (.ret,⟨[w0,w1,w2,.d (Z x),w4],H++X⟩))=(if (0:Nat)<=O H then J (.d (Z x),(H++X).take (O H)) else K):=rfl;simp_all
def aH3 (H:j9)(l:J2)(id:Nat)(cs:List c7)(ids:List Nat)(t:List W9)(key:Vl)(ht:O t<4294967296)(hid:H[id]? =J (.cells cs))(hR:O9 H cs t ids)(hi:∀x∈ids,x<O H) :
  Pq A 183 [.s6 id 3 0 (O t),.agg (key.enc.map .d)] H l λw H1=>w= .d (Z (ou t key))/\H1=H:=by
 have UB:=BJ hid;refine Pq.go (b:=O H) 3 ?_
 repeat' (first|refine bx (hi:=rfl) (hH:=rfl) (h2:=?_)|refine gx ?_|fail)
 have rk:rd (H++[.cells (key.enc.map .d)]) (O H) 0 3=J (key.enc.map .d):=by simp [rd,Vl.enc]
 have rk1:rd (H++[.cells (key.enc.map .d)]) (O H) 0 1=J [.d (Z key.k)]:=by simp [rd,Vl.enc]
 refine Ex.M4 (λk T' H' =>∃i:Nat,i<=O t/\k=O t - i/\T' =[.s6 id 3 0 (O t),.any,.ptr (O H) 0,.any,.d (Z i)]/\H' =H++[.cells (key.enc.map .d)]/\∀j,j<i->isKey key (Y t j)=F) ?_ (k:=O t) ⟨0,V,V,rfl,rfl,λ_ h=>V⟩ (by rintro _ _ _ ⟨_,_,_,_,rfl,_⟩;rfl);rintro k T' H' ⟨i,hi',rfl,rfl,rfl,hb⟩;refine Ex.seq ?_;refine Ex.gw (F0 (i:Int) (O t)&&(Tv key&& !x5 key.k 0)) ?_ (λh=>?_) (λh=>?_)
 .refine Rn.text ?_
  repeat' (first|refine Pa rk rfl ?_|refine XX rk1 rfl ?_|refine lnr ?_|refine cl (BN _) ?_|refine sO (BN _) ?_|refine gx ?_|refine fq (λ_=>?_) λ_=>?_|refine ⟨rfl,rfl,_,rfl,?_⟩|refine ⟨rfl,rfl⟩|fail)
  all_goals first|(simp [*];done)|(simp_all;done)|skip
 .rw [c9] at h
  have hlt:(i:Int)<O t:=C8 h.1;have hok:=h.2;have next:isKey key (Y t i)=F->∀j,j<i+1->isKey key (Y t j)=F:=λh1 j hj=>by
   rcases A7 j i with h2|h2
   .exact hb j h2
   .rwa [show j=i by omega]
  obtain ⟨a,b,g1,g2,g3,g4,g5,g6⟩:=hR.at (i:=i) V;have r1:rd (H++[.cells (key.enc.map .d)]) id (0+(i:Int).toNat * 3+0) 1=J [.s6 a 3 0 (O (Y t i).row)]:=cN ((dJ UB).trans hid) (by simpa using g1);have r3:F0 0 (O (Y t i).row:Int)=W->rd (H++[.cells (key.enc.map .d)]) a (0+(0:Int).toNat * 3) 3=J ((Y (Y t i).row 0).enc.map .d):=λh=>ND ((dJ (hi a g3)).trans g5) (by have:=C8 h;omega)
  repeat' (first|refine XV (e:=(i:Int)) (len:=O t) ⟨V,hlt⟩ ?_|refine XV (e:=0) (len:=O (Y t i).row) ⟨V,C8 (by assumption)⟩ ?_|refine XX r1 rfl ?_|refine lnr ?_|refine Pa (r3 (by assumption)) rfl ?_|refine Pa rk rfl ?_|refine gx ?_|refine fq (λ_=>?_) λ_=>?_|refine Ex.rL ?_|refine Ex.ud ?_|refine Ex.cond rfl (λht=>?_) (λht=>?_)|refine Ex.test (Rn.text ?_)|refine Ex.test (Rn.draw ?_)|refine ⟨_,rfl,λht=>?_,λht=>?_⟩|refine ⟨_,rfl,?_⟩|fail)
  next ht=>
   simp only [Bp,Bool.false_bne,decide_eq_true_eq] at ht;have hw:F0 0 (O (Y t i).row:Int)=W:=by assumption
   have:isKey key (Y t i)=W:=by rw [isKey,hw,ht];simp
   refine ⟨_,_,Un _ _ _ _ _ _ _,?_,rfl⟩;simp only [ou,hok,if_true,OF V this hb]
  next ht=>
   simp only [Bp,Bool.false_bne] at ht;exact ⟨O t - (i+1),V,i+1,V,rfl,rfl,rfl,next (by rw [isKey,ht,Bool.and_false])⟩
  next ht=>
   cases ht
  .have hw:F0 0 (O (Y t i).row:Int)=F:=by assumption
   exact ⟨O t - (i+1),V,i+1,V,rfl,rfl,rfl,next (by rw [isKey,hw,Bool.false_and])⟩
 .repeat' (first|refine gx ?_|refine fq (λ_=>?_) λ_=>?_|refine Ex.rL ?_|refine Ex.ud ?_|refine Ex.cond rfl (λht=>?_) (λht=>?_)|refine Ex.test (Rn.text ?_)|refine Ex.test (Rn.draw ?_)|refine ⟨_,rfl,λht=>?_,λht=>?_⟩|refine ⟨_,rfl,?_⟩|fail)
  refine ⟨_,_,Un _ _ _ _ _ _ _,?_,rfl⟩;simp only [ou];split
  next hok=>
   rw [hok,Bool.and_true] at h;have:=D4 h;rw [OG λj hj=>hb j V]
  .rfl
end Go.Proofs.YtibjocmpkoepoaaGreat
namespace Go.A5
theorem O9.cut {H:j9}:∀{rs:List W9} {cs:List c7} {ids:List Nat} (i:Nat),O9 H cs rs ids->∃j1 j2,O9 H (cs.take (i * 3)) (rs.take i) j1/\O9 H (cs.drop (i * 3)) (rs.drop i) j2/\(∀x∈j1,x∈ids)/\∀x∈j2,x∈ids
 |[],_,_,i,h=>by
  simp_all [O9]
 |r::rs,cs,ids,0,h=>⟨[],ids,by simp [O9],by simpa using h,U,λ_ h=>h⟩
 |r::rs,_,_,i+1,⟨a,b,cs',ids',e1,e2,h1,h2,h3⟩=>by
  subst e1 e2;obtain ⟨j1,j2,g1,g2,g3,g4⟩:=h3.cut i;refine ⟨a::b::j1,j2,?_,?_,λx hx=>?_,λx hx=>M⟩
  .rw [show (i+1) * 3=i * 3+1+1+1 by omega]
   exact ⟨a,b,_,_,rfl,rfl,h1,h2,g1⟩
  all_goals grind
theorem O9.gF {H:j9}:∀{rs:List W9} {cs:List c7} {ids:List Nat} {i:Nat},O9 H cs rs ids->ids.Nodup->i<O rs ->
  ∃a b,cs[i * 3]? =J (.s6 a 3 0 (O (Y rs i).row))/\cs[i * 3+1]? =J (.s6 b 1 0 (O (Y rs i).seq))/\a∈ids/\b∈ids/\a≠b/\H[a]? =J (.cells (eG (Y rs i).row))/\H[b]? =J (.cells (fO (Y rs i).seq)) /\
   ∀(H' :j9) (row:List Vl) (seq:List Int),O row=O (Y rs i).row->O seq=O (Y rs i).seq->H'[a]? =J (.cells (eG row))->H'[b]? =J (.cells (fO seq))->(∀x∈ids,x≠a->x≠b->H'[x]? =H[x]?)->O9 H' cs (rs.set i ⟨row,seq,(Y rs i).day⟩) ids
 |[],_,_,_,_,_,h=>by cases h
 |r::rs,_,_,i,⟨a,b,cs',ids',e1,e2,h1,h2,h3⟩,hnd,h=>by
  subst e1 e2;simp [List.nodup_cons,List.mem_cons,not_or] at hnd;cases i with
  |zero =>
   rw [T8];refine ⟨a,b,rfl,rfl,U,U,hnd.1.1,h1,h2,λH' row seq e1 e2 k1 k2 k3=>?_⟩;refine ⟨a,b,cs',ids',by rw [e1,e2],rfl,k1,k2,h3.mono λx hx=>k3 x (by simp [hx]) ?_ ?_⟩
   all_goals grind
  |succ i =>
   rw [gp];obtain ⟨a',b',g1,g2,g3,g4,g5,g6,g7,g8⟩:=h3.gF (i:=i) hnd.2.2 (by simpa using h);refine ⟨a',b',?_,?_,by simp [g3],by simp [g4],g5,g6,g7,λH' row seq e1 e2 k1 k2 k3=>?_⟩
   .grind
   .grind
   .have ha:∀x∈ids',x≠a/\x≠b:=λx hx=>⟨by grind,by grind⟩
    refine ⟨a,b,cs',ids',rfl,rfl,?_,?_,g8 H' row seq e1 e2 k1 k2 λx hx=>k3 x (by simp [hx])⟩
    all_goals grind
def Y4.bg2 {H:j9}{o:Nat}{oc:List c7}{ts:List (List W9)}{ids:List Nat}(ho:H[o]? =J (.cells oc))(h:Y4 H oc ts ids)(h1:O ts<300000)(h2:∀t∈ts,O t<100000/\∀r∈t,O r.row<100000/\O r.seq<100000):cH H 0 1000000 [.s6 o 1 0 (O ts)]=J [.d (V6 ts)]:=by
 obtain ⟨ws,w1,w2⟩:=h.frz (n:=0) (f:=999999) (λx hx=>s9 _) (λt ht=>⟨V,λr hr=>by
  grind⟩) V
 have:=Uu (sz:=1) (len:=O ts) (s9 o) (show cH H 0 999999 []=J [] from rfl) ho (by rw [h.len,Nat.mul_one]) w1 w2;rw [show (1000000:Nat)=999999+1 from rfl,this];rw [show V6 ts= .slice (O ts) (ts.map zQ) from by
  have e1:∀l:List (List W9),(l.flatMap λl=>[zQ l])=l.map zQ:=λl=>by
   induction l with
   |nil=>rfl
   |cons a l ih=>simp_all
  rw [V6,y6,e1]]
def TJ (H:j9)(n:Nat):F3 (H.take n)<=F3 H:=by
 conv=>rhs;rw [<- List.take_append_drop n H]
 rw [oT];omega
def MM {H:j9}{n o:Nat}{oc:List c7}(ho:H[o]? =J (.cells oc))(hon:o<n)(hn:n<=F3 H)(hc:A8 oc=F3 H)(k:Nat):E6 H 0 (k+2) n=F3 H:=by
 have key:∀m,o<m->F3 (H.take m)=F3 H:=λm hm=>by
  refine Nat.le_antisymm (TJ H m) ?_;have h1:x4.cells oc∈H.take m:=by
   rw [List.mem_take_iff_getElem];obtain ⟨h1,h2⟩:=List.getElem?_eq_some_iff.1 ho;exact ⟨o,V,h2⟩
  have:=qO h1;simp only [x4.J4,hc] at this;exact this
 have step:∀k m,o<m->m<=F3 H->E6 H 0 (k+1) m=if F3 H=m then m else E6 H 0 k (F3 H):=λk m h1 h2=>by
  rw [E6,if_neg V];simp only [List.drop_zero,key m h1,Nat.max_eq_right h2]
 rw [step _ n hon hn];split
 .omega
 .rw [step _ _ V (k9 _),if_pos rfl]
structure oO (H:j9)(lv:c7)(m:Nat)(cs:List c7):Prop where
 zY:lv.K9=lv
 len:O cs=m * 3
 cd:cs.map c7.K9=cs
 one:cs.all c7.one=W
 bd:A8 cs<=O H
 De :(lv= .d (.slice 0 [])/\m=0)\/∃id,lv= .s6 id 3 0 m/\H[id]? =J (.cells cs)
theorem O9.one {H:j9}:∀{rs:List W9} {cs:List c7} {ids:List Nat},O9 H cs rs ids->cs.all c7.one=W
 |[],_,_,h=>by simp [h.1]
 |r::rs,_,_,⟨a,b,cs',ids',e1,e2,h1,h2,h3⟩=>by
  subst e1;simp only [List.all_cons,h3.one];rfl
def eO.lv {H:j9}{v:c7}{l:List W9}{ids:List Nat}(h:eO H v l ids)(hW:F3 H<=O H):∃cs ids',oO H v.K9 (O l) cs/\O9 H cs l ids' /\(∀y∈ids',y∈ids)/\(ids.Nodup->ids'.Nodup)/\(v.K9= .d (.slice 0 [])\/∃id,id∈ids/\v.K9= .s6 id 3 0 (O l)):=by
 rcases h with ⟨rfl,rfl,rfl⟩|⟨id,cs,ids',rfl,rfl,h1,h2⟩
 .exact ⟨[],[],⟨rfl,rfl,rfl,rfl,s9 _,.inl ⟨rfl,rfl⟩⟩,⟨rfl,rfl⟩,U,λ_=>List.nodup_nil,.inl rfl⟩
 .refine ⟨cs,ids',⟨rfl,h2.len,h2.K9,h2.one,s5 (qO (v:= .cells cs) (List.mem_of_getElem? h1)) hW,.inr ⟨id,rfl,h1⟩⟩,h2,λy hy=>by simp [hy],λh=>(List.nodup_cons.1 h).2,.inr ⟨id,U,rfl⟩⟩
structure aj2 (H:j9)(lv:c7)(m:Nat)(cs:List c7)(lo hi:Nat)(w:c7):Prop where
 zY:w.K9=w
 J4:w.J4<=O H
 pf:lo=0->∀(ρ:y4->c7) (G:j9) (x y:y4),ρ x=lv->ρ y= .d (Z hi)->k8 ρ G (.ay 3 x K (J y))=J (w,[])
 pr:hi=m->∀(ρ:y4->c7) (G:j9) (x y:y4),ρ x=lv->ρ y= .d (Z lo)->k8 ρ G (.ay 3 x (J y) K)=J (w,[])
 sc:∀G:j9,(∀id,id<O H->H[id]? =J (.cells cs)->G[id]? =H[id]?)->C7 G 3 w=J (hi - lo,(cs.take (hi * 3)).drop (lo * 3))
def oO.part {H:j9}{lv:c7}{m:Nat}{cs:List c7}(h:oO H lv m cs){lo hi:Nat}(h1:lo<=hi)(h2:hi<=m):∃w,aj2 H lv m cs lo hi w:=by
 by_cases e:lo=hi
 .subst e
  refine ⟨.d (.slice 0 []),rfl,s9 _,λe ρ G x y hx hy=>?_,λe ρ G x y hx hy=>?_,λG _=>?_⟩
  .subst e
   rcases h.De with ⟨rfl,rfl⟩|⟨id,rfl,_⟩<;>simp [k8,hx,hy,Y5,Z]
  .subst e
   rcases h.De with ⟨rfl,rfl⟩|⟨id,rfl,_⟩<;>simp [k8,hx,hy,Y5,Z]
  simp_all [List.drop_eq_nil_of_le,P3,C7]
 .rcases h.De with ⟨rfl,rfl⟩|⟨id,rfl,hid⟩
  .omega
  .have UB:=BJ hid
   refine ⟨.s6 id 3 (lo * 3) (hi - lo),rfl,UB,λe ρ G x y hx hy=>?_,λe ρ G x y hx hy=>?_,λG hG=>?_⟩
   .grind [k8,Y5,Z]
   .grind [k8,Y5,Z]
   .have a0:rd G id (lo * 3) ((hi - lo) * 3)=J ((cs.take (hi * 3)).drop (lo * 3)):=by
     have a4:lo * 3+(hi - lo) * 3<=O cs:=by rw [h.len];omega
     have a5:(hi - lo) * 3=hi * 3 - lo * 3:=V
     simp_all [rd,if_true,Option.some.injEq,List.drop_take]
    have a1:((cs.take (hi * 3)).drop (lo * 3)).map c7.K9=(cs.take (hi * 3)).drop (lo * 3):=by rw [List.map_drop,List.map_take,h.cd]
    simp_all [C7,if_true]
def oO.parts {H:j9}{lv:c7}{m:Nat}{cs:List c7}(h:oO H lv m cs)(i j:Nat):A8 ((cs.take i).drop j)<=O H/\((cs.take i).drop j).all c7.one=W/\((cs.take i).drop j).map c7.K9=(cs.take i).drop j:=by
 refine ⟨s5 (s5 (qM _ _) (qN _ _)) h.bd,?_,by rw [List.map_drop,List.map_take,h.cd]⟩;rw [List.all_eq_true];intro x hx;exact List.all_eq_true.1 h.one x (List.mem_of_mem_take (List.mem_of_mem_drop hx))
def oO.bn1 {H:j9}{lv:c7}{m:Nat}{cs:List c7}(h:oO H lv m cs){ρ:y4->c7}{G:j9}{x:y4}(hx:ρ x=lv):k8 ρ G (.len x)=J (.d (Z m),[]):=by
 rcases h.De with ⟨rfl,rfl⟩|⟨id,rfl,_⟩<;>simp [k8,hx,Z,i64]
theorem oO.mono {H H' :j9}{lv:c7}{m:Nat}{cs:List c7}(h:oO H lv m cs)(hL:O H<=O H')(hm:∀id,id<O H->H[id]? =J (.cells cs)->H'[id]? =H[id]?):oO H' lv m cs:=by
 refine ⟨h.zY,h.len,h.cd,h.one,s5 h.bd hL,?_⟩
 rcases h.De with h1|⟨id,rfl,hid⟩
 all_goals grind
theorem qh {n:Nat}(h:n<=1000):roomFor n 56=W:=by
 refine decide_eq_true ?_;omega
end Go.A5
namespace Go.Proofs.YtibjocmpkoepoaaGreat
open Go.A5
def tj (l:List W9)(v:Vl):Nat:=O (l.takeWhile λq=>F0 (IS (Y q.row 0) v) 0)
def sS (l:List W9)(a:Int):List W9:=l.take a.toNat++l.drop (a.toNat+1)
def Zh (c:iN):W9:=⟨c.row,c8 (O c.row) c.seq,c.day⟩
def uM (l:List W9)(c:iN):List W9:=l.take (tj l (Y c.row 0))++Zh c::l.drop (tj l (Y c.row 0))
def Tj (l:List W9)(a:Int)(c:iN):List W9:=l.set a.toNat ⟨(Y l a.toNat).row.set c.col.toNat c.val,(Y l a.toNat).seq.set c.col.toNat c.seq,(Y l a.toNat).day⟩
def R6 (l:List W9)(a:Int)(c:iN):List W9 :=
 if x5 c.op 1 then (if F0 a 0&&aH 64 (O l) then l else uM (if F0 a 0 then l else sS l a) c)
 else if F0 a 0 then l else if x5 c.op 2 then Tj l a c else sS l a
def au (ts:List (List W9))(c:iN):List (List W9):=ts.set c.U1.toNat (R6 (Y ts c.U1.toNat) (ou (Y ts c.U1.toNat) (zJ c)) c)
def TB (w:Nat)(l:List W9):Prop:=O l<=64/\∀r∈l,O r.row=w/\O r.seq=w
def OkT (w:Nat->Nat)(ts:List (List W9)):Prop:=∀i,i<O ts->TB (w i) (Y ts i)
structure OkC (n:Nat)(w:Nat->Nat)(x:iN):Prop where
 t0:0<=x.U1
 t1:x.U1<n
 op:x.op=1\/x.op=2\/x.op=3
 row:O x.row=if x.op=1 then w x.U1.toNat else 0
 c0:0<=x.col
 c1:x.col<w x.U1.toNat
def Ai {α:Type} [Inhabited α] {l:List α}{i j:Nat}{a:α}(hi:i<O l):Y (l.set j a) i=if j=i then a else Y l i:=by
 simp_all [F9,List.getElem_set]
theorem OkT.set {w:Nat->Nat}{ts:List (List W9)}(h:OkT w ts){j:Nat}{t:List W9}(ht:TB (w j) t):OkT w (ts.set j t):=λi hi=>by
 have hi:i<O ts:=M
 rw [Ai hi];split
 .simp_all
 .exact h i hi
def Ja (t:List W9)(key:Vl):ou t key<O t/\ -1<=ou t key:=by
 grind [ou,List.findIdx?_eq_some_iff_getElem]
def YX (l:List W9)(v:Vl):tj l v<=O l:=(List.takeWhile_sublist _).length_le
theorem Ad {w:Nat}{l:List W9}{a:Int}(h:TB w l)(h0:0<=a)(h1:a<O l):TB w (sS l a)/\O (sS l a)+1=O l:=by
 have hl:O (sS l a)+1=O l:=by grind [sS]
 refine ⟨⟨by have:=h.1;omega,λr hr=>h.2 r ?_⟩,hl⟩
 rcases N9.1 hr with hr|hr
 all_goals grind
theorem Po {w:Nat}{l:List W9}{c:iN}(h:TB w l)(hl:O l<64)(hw:O c.row=w):TB w (uM l c)/\O (uM l c)=O l+1:=by
 have e:O (uM l c)=O l+1:=by grind [uM]
 refine ⟨⟨V,λr hr=>?_⟩,e⟩;simp [uM,N9,List.mem_cons] at hr
 rcases hr with hr|rfl|hr
 .exact h.2 r (List.mem_of_mem_take hr)
 .simp [Zh,hw]
 .exact h.2 r (List.mem_of_mem_drop hr)
theorem aa1 {w:Nat}{l:List W9}{a:Int}{c:iN}(h:TB w l)(h1:a.toNat<O l):TB w (Tj l a c):=by
 refine ⟨by simpa [Tj] using h.1,λr hr=>?_⟩
 rcases List.mem_or_eq_of_mem_set hr with hr|rfl
 .exact h.2 r hr
 .have:=h.2 _ (H6 h1)
  simp_all
def yg {w:Nat}{l:List W9}{a:Int}{c:iN}(h:TB w l)(h1:a<O l)(hw:c.op=1->O c.row=w):TB w (R6 l a c):=by
 unfold R6;split
 next ho=>
  have hw:=hw (br ho);split
  .exact h
  next hc=>
   by_cases h2:a<0
   .have e:F0 a 0=W:=by simp_all [A1]
    rw [e,Bool.true_and,x8,decide_eq_true_eq] at hc
    grind [Po]
   .rw [if_neg (by simp_all [A1])]
    have:=Ad h V h1;exact (Po this.1 (by have:=h.1;omega) hw).1
 grind [A1,aa1,Ad]
def pY {n:Nat}{w:Nat->Nat}{ts:List (List W9)}{x:iN}(h:OkT w ts)(hn:O ts=n)(hx:OkC n w x):OkT w (au ts x)/\O (au ts x)=n:=by
 have h0:=hx.t0;have h1:=hx.t1;refine ⟨h.set (yg (h _ V) (Ja _ _).1 λe=>?_),by simp_all [au]⟩;rw [hx.row,if_pos e]
end Go.Proofs.YtibjocmpkoepoaaGreat
namespace Go.A5
def az7 {T:List c7}{n:Nat}{rl:List c7}{H:j9}{x y:y4}{k:Nat}(hk:k<1000000)(hx:rq T n rl x= .d (Z (k:Int)))(hy:rq T n rl y= .d (Z 1)):k8 (rq T n rl) H (.bin .add x y)=J (.d (Z ((k+1:Nat):Int)),[]):=by
 grind [IntKind.wrap,i64,Go.A5.wrap_small,k8,Z,M1,Z5,cw]
def ag1 {H X:j9}{c:x4}(h:2<=O H):(H++X).set 1 c=H.set 1 c++X:=SS c V
end Go.A5
namespace Go.Proofs.YtibjocmpkoepoaaGreat
open Go.A5 Go.A5.S
attribute [local irreducible] Rx Ry Rn Ex Pf Rl
def ak5 (n i k m:Nat)(H:j9)(x:iN)(oc cs:List c7)(lv w0 w1 w3 w7 w8 w9:c7)(Q:J6->St->Prop)(h0:H[0]? =J (.cells (x.enc.map .d)))(h1:H[1]? =J (.cells oc))(hL:2<=O H)(Ih:O oc=n)(hi:x.U1=(i:Int))(hin:i<n)(hl:oO H lv m cs)(hk:k<m)(hm:m<=64)
  (hq:Q .normal ⟨[w0,w1,.ptr 0 0,w3,.s6 1 1 0 n,lv,.d (Z k),w7,w8,w9],H.set 1 (.cells (oc.set i (.s6 (O H+2) 3 0 (m - 1))))++[.dead,.dead,.cells (cs.take (k * 3)++cs.drop ((k+1) * 3))]⟩) :
  Ex A R5 0 (match ny.body with
   | .seq _ (.seq _ (.seq _ (.seq _ (.seq (.block _ (.test _ _ _ _ (.test _ _ _ _ (.test _ _ _ _ c)))) _))))=>c
   |c=>c) ⟨[w0,w1,.ptr 0 0,w3,.s6 1 1 0 n,lv,.d (Z k),w7,w8,w9],H⟩ Q:=by
 obtain ⟨u1,g1⟩:=hl.part (s9 k) V;obtain ⟨u2,g2⟩:=hl.part (show k+1<=m by omega) (k9 m);have e1:=hl.parts (k * 3) (0 * 3);have e2:=hl.parts (m * 3) ((k+1) * 3);have c1:(cs.take (k * 3)).drop (0 * 3)=cs.take (k * 3):=U
 have c2:(cs.take (m * 3)).drop ((k+1) * 3)=cs.drop ((k+1) * 3):=by rw [<- hl.len,List.take_length]
 rw [c2] at e2;have l1:O (cs.take (k * 3))=k * 3:=by rw [P3,hl.len];omega
 have s1:=g1.sc (H++[.cells []]) λid hid _=>dJ hid
 have s2:=g2.sc (H++[.dead,.cells (cs.take (k * 3))]) λid hid _=>dJ hid
 rw [c2] at s2;have b1:=g1.J4;have b2:=g2.J4;have hne:H≠[]:=by grind
 have r3:rd (H++[.dead]) 0 3 1=J [.d (Z x.U1)]:=cN ((dJ V).trans h0) rfl;refine Ex.region (Rn.DI (O H) (H++[.dead]) [] rfl rfl rfl ?_);refine ym ?_;refine yp (rs:=[]) (.ptr 0 3) rfl ?_;refine yp (rs:=[0]) (.d (Z i)) (by simp [k8,rq,Ms,lk,r3,hi,c7.K9]) ?_;refine yb' (O H+1) [] (H++[.cells []]) rfl U (uT H _ 0 _) rfl ?_;refine ym (hx:=⟨rfl,hl.zY⟩) ?_;refine ym ?_;refine yp (rs:=[]) u1 (g1.pf rfl _ _ _ _ hl.zY rfl) ?_;refine Wx (O H+1) k (O H+1) (H++[.dead,.cells (cs.take (k * 3))]) rfl g1.zY (mH H _ 0) s1 rfl ⟨U,by grind [qh],s5 e1.1 U,e1.2.1,U⟩ M U V V ?_;refine ym (hx:=⟨rfl,hl.zY⟩) ?_;refine ym ?_;refine yp (rs:=[]) _ (az7 (k:=k) V rfl rfl) ?_;refine yp (rs:=[]) u2 (g2.pr rfl _ _ _ _ hl.zY rfl) ?_;refine Wx (O H+2) (m - 1) (O H+2) (H++[.dead,.dead,.cells (cs.take (k * 3)++cs.drop ((k+1) * 3))]) rfl g2.zY (mH H _ 1) s2 rfl ⟨l1.symm,qh V,s5 e2.1 U,e2.2.1,U⟩ M U V V ?_;refine yp (rs:=[]) (.ptr 1 i) (by simp [k8,rq,Ms,lk,hin,Z,c7.K9]) ?_;refine ys rfl ⟨rfl,rfl⟩ rfl rfl rfl (.inr ⟨s9 _,s9 _⟩) ?_ ?_ (H2:=H.set 1 (.cells (oc.set i (.s6 (O H+2) 3 0 (m - 1))))++[.dead,.dead,.cells (cs.take (k * 3)++cs.drop ((k+1) * 3))])
 .simp only [wr,dJ (show 1<O H by omega),h1,E4,ag1 hL]
  rw [if_pos V,uW _ _ _ V]
 simp_all [yn,dN,G6,Touch.F7,s8.makes,s8.y7,c7.J4]
def as6 (n k m:Nat)(H:j9)(cs:List c7)(lv w0 w1 w2 w3 w4 w7 w8 w9:c7)(Q:J6->St->Prop)(hL:2<=O H)(hl:oO H lv m cs)(hk:k<m)(hm:m<=64)
  (hq:Q .normal ⟨[w0,w1,w2,w3,w4,.s6 (O H+2) 3 0 (m - 1),.d (Z k),w7,w8,w9],H++[.dead,.dead,.cells (cs.take (k * 3)++cs.drop ((k+1) * 3))]⟩) :
  Ex A R5 0 (match ny.body with
   | .seq _ (.seq _ (.seq _ (.seq _ (.seq (.block _ (.test _ _ _ (.seq (.test _ _ _ c _) _) _)) _))))=>c
   |c=>c) ⟨[w0,w1,w2,w3,w4,lv,.d (Z k),w7,w8,w9],H⟩ Q:=by
 obtain ⟨u1,g1⟩:=hl.part (s9 k) V;obtain ⟨u2,g2⟩:=hl.part (show k+1<=m by omega) (k9 m);have e1:=hl.parts (k * 3) (0 * 3);have e2:=hl.parts (m * 3) ((k+1) * 3);have c1:(cs.take (k * 3)).drop (0 * 3)=cs.take (k * 3):=U
 have c2:(cs.take (m * 3)).drop ((k+1) * 3)=cs.drop ((k+1) * 3):=by rw [<- hl.len,List.take_length]
 rw [c1] at e1;rw [c2] at e2;have l1:O (cs.take (k * 3))=k * 3:=by rw [P3,hl.len];omega
 have s1:=g1.sc (H++[.cells []]) λid hid _=>dJ hid
 have s2:=g2.sc (H++[.dead,.cells (cs.take (k * 3))]) λid hid _=>dJ hid
 rw [c1] at s1;rw [c2] at s2;have b1:=g1.J4;have b2:=g2.J4;show Ex A R5 0 (.region _ W) _ _
 refine Ex.region (Rn.DI (O H) (H++[.dead]) [] rfl rfl rfl ?_);refine yb' (O H+1) [] (H++[.cells []]) rfl U (uT H _ 0 _) rfl ?_;refine ym (hx:=⟨rfl,hl.zY⟩) ?_;refine ym ?_;refine yp (rs:=[]) u1 (g1.pf rfl _ _ _ _ hl.zY rfl) ?_;refine Wx (O H+1) k (O H+1) (H++[.dead,.cells (cs.take (k * 3))]) rfl g1.zY (mH H _ 0) s1 rfl ⟨U,by simpa using qh V,s5 e1.1 U,e1.2.1,U⟩ (by rw [show (H++[x4.cells []]).set (O H) .dead=H++[.dead] from uT H _ 0 _];simp) U V V ?_;refine ym (hx:=⟨rfl,hl.zY⟩) ?_;refine ym ?_;refine yp (rs:=[]) _ (az7 (k:=k) V rfl rfl) ?_;refine yp (rs:=[]) u2 (g2.pr rfl _ _ _ _ hl.zY rfl) ?_;refine Wx (O H+2) (m - 1) (O H+2) (H++[.dead,.dead,.cells (cs.take (k * 3)++cs.drop ((k+1) * 3))]) rfl g2.zY (mH H _ 1) s2 rfl ⟨l1.symm,qh V,s5 e2.1 U,e2.2.1,U⟩ (by rw [uT,e1.2.2];simp) U V V ?_;refine ymT [w0,w1,w2,w3,w4,.s6 (O H+2) 3 0 (m - 1),.d (Z k),w7,w8,w9] U rfl ?_;refine yn hq ?_;have hne:H≠[]:=by rintro rfl;cases hL
 simp [dN,G6,Touch.F7,s8.makes,s8.y7,c7.J4,hne]
def au5 {H:j9}{a i:Nat}{r:List Vl}(h:H[a]? =J (.cells (eG r)))(hi:i<O r)(v:Vl):wr H a (0+i * 3) (v.enc.map .d)=J (H.set a (.cells (eG (r.set i v)))):=by
 have e:r=r.take i++Y r i::r.drop (i+1):=by rw [<- D8 hi,List.take_append_drop]
 have hl:O (r.take i)=i:=by rw [P3];omega
 have h' :H[a]? =J (.cells (((r.take i++Y r i::r.drop (i+1)).flatMap Vl.enc).map .d)):=by rw [<- e];exact h
 have:=NV (enc:=Vl.enc) (sz:=3) (λ_=>rfl) h' v;rw [hl] at this;have hs:r.set i v=r.take i++v::r.drop (i+1):=by rw [P6,if_pos hi]
 rw [this,hs];rfl
def au6 {H:j9}{a i:Nat}{r:List Int}(h:H[a]? =J (.cells (fO r)))(hi:i<O r)(v:Int):wr H a (0+i * 1) [.d (Z v)]=J (H.set a (.cells (fO (r.set i v)))):=by
 have e:r=r.take i++Y r i::r.drop (i+1):=by rw [<- D8 hi,List.take_append_drop]
 have hl:O (r.take i)=i:=by rw [P3];omega
 have h' :H[a]? =J (.cells (((r.take i++Y r i::r.drop (i+1)).flatMap λn=>[Z n]).map .d)):=by rw [<- e];exact h
 have:=NV (enc:=λn:Int=>[Z n]) (sz:=1) (λ_=>rfl) h' v;rw [hl] at this;have hs:r.set i v=r.take i++v::r.drop (i+1):=by rw [P6,if_pos hi]
 rw [hs];exact this
def au3 (n k m i id a b:Nat)(H:j9)(x:iN)(r:W9)(cs:List c7)(w0 w1 w3 w4 w7 w8 w9:c7)(Q:J6->St->Prop)(h0:H[0]? =J (.cells (x.enc.map .d)))(hi:x.col=(i:Int))(hid:H[id]? =J (.cells cs))(hk:k<m)
  (hca:cs[k * 3]? =J (.s6 a 3 0 (O r.row))) (hcb:cs[k * 3+1]? =J (.s6 b 1 0 (O r.seq))) (ha:H[a]? =J (.cells (eG r.row))) (hb:H[b]? =J (.cells (fO r.seq))) (hab:a≠b) (ha0:a≠0) (hir:i<O r.row) (his:i<O r.seq)
  (hq:Q .normal ⟨[w0,w1,.ptr 0 0,w3,w4,.s6 id 3 0 m,.d (Z k),w7,w8,w9],(H.set a (.cells (eG (r.row.set i x.val)))).set b (.cells (fO (r.seq.set i x.seq)))⟩) :
  Ex A R5 0 (match ny.body with
   | .seq _ (.seq _ (.seq _ (.seq _ (.seq (.block _ (.test _ _ _ _ (.test _ _ _ _ (.test _ _ _ c _)))) _))))=>c
   |c=>c) ⟨[w0,w1,.ptr 0 0,w3,w4,.s6 id 3 0 m,.d (Z k),w7,w8,w9],H⟩ Q:=by
 have r8:rd H 0 (0+8) 1=J [.d (Z i)]:=by rw [<- hi];exact cN h0 rfl
 have r1:rd H 0 (0+1) 1=J [.d (Z x.seq)]:=cN h0 rfl;have r9:rd H 0 (0+9) 3=J (x.val.enc.map .d):=by simp [rd,h0,iN.enc,Vl.enc]
 have ra:rd H id (0+k * 3+0) 1=J [.s6 a 3 0 (O r.row)]:=cN hid (by simpa using hca);have rb:rd H id (0+k * 3+1) 1=J [.s6 b 1 0 (O r.seq)]:=cN hid (by simpa using hcb);show Ex A R5 0 (.region _ W) _ _
 refine Ex.region (Rn.DI (O H) H [] rfl (by simp [Y7,s8.y7]) rfl ?_);refine ym ?_;refine ym ?_;refine yp _ (SE rfl rfl hk) ?_;refine yp _ (wO rfl) ?_;refine yp _ (SF rfl ra rfl) ?_;refine yp _ (wO rfl) ?_;refine yp _ (SF rfl r8 rfl) ?_;refine ym ?_;refine ym ?_;refine yp _ (SE rfl rfl hk) ?_;refine yp _ (wO rfl) ?_;refine yp _ (SF rfl rb rfl) ?_;refine yp _ (wO rfl) ?_;refine yp _ (SF rfl r8 rfl) ?_;refine yp _ (wO rfl) ?_;refine yp _ (Nu rfl r9 rfl) ?_;refine yp _ (wO rfl) ?_;refine yp _ (SF rfl r1 rfl) ?_;refine yp _ (SE rfl rfl hir) ?_;refine ys rfl ⟨rfl,rfl⟩ rfl rfl rfl (.inl (s9 _)) (au5 ha hir x.val) ?_;refine yp _ (SE rfl rfl his) ?_;refine ys rfl ⟨rfl,rfl⟩ rfl rfl rfl (.inl (s9 _)) (au6 (by rw [x3 hab,hb]) his x.seq) ?_;refine yn hq ?_;simp [dN,G6,Touch.F7,s8.makes,s8.y7,ha0]
def ap9 (H:j9)(x:iN)(w0 w1 w3 w4 w5 w6 w7 w8 w9:c7)(Q:J6->St->Prop)(h0:H[0]? =J (.cells (x.enc.map .d)))(hL:2<=O H)(hr:O x.row<=100)
  (hq:Q .normal ⟨[w0,w1,.ptr 0 0,w3,w4,w5,w6,.ptr (O H+1) 0,w8,w9],H++[.dead,.cells [.s6 (O H+2) 3 0 (O x.row),.N7,.d (Z x.day)],.cells (eG x.row)]⟩) :
  Ex A R5 0 (match ny.body with
   | .seq _ (.seq _ (.seq _ (.seq _ (.seq (.block _ (.test _ _ _ (.seq _ (.seq c _)) _)) _))))=>c
   |c=>c) ⟨[w0,w1,.ptr 0 0,w3,w4,w5,w6,w7,w8,w9],H⟩ Q:=by
 have r4:∀X,rd (H++X) 0 (0+4) 1=J [.d (y6 Vl.enc x.row)]:=λX=>cN ((dJ V).trans h0) rfl
 have r2:∀X,rd (H++X) 0 (0+2) 1=J [.d (Z x.day)]:=λX=>cN ((dJ V).trans h0) rfl
 show Ex A R5 0 (.region _ W) _ _
 refine Ex.region (Rn.DI (O H) (H++[.dead,.dead]) [.slot 7] rfl rfl rfl ?_);refine yb' (O H+1) [] (H++[.cells [],.dead]) rfl U (uT H _ 0 _) rfl ?_;refine yp _ (wO rfl) ?_;refine yp _ (SF rfl (r4 _) rfl) ?_;refine Wx (O H+2) (O x.row) (O H+1) (H++[.dead,.dead,.cells (eG x.row)]) rfl rfl (mH H _ 0) (VQ _ _) rfl ⟨U,?_,by rw [eG,tV];omega,HF _,U⟩ (by rw [show (H++[x4.cells [],.dead]).set (O H) .dead=H++[.dead,.dead] from uT H _ 0 _];simp) U U (Nat.max_eq_left (s9 _)) ?_
 .refine decide_eq_true ?_
  exact s5 (I8 _ (show 2 * (0+O x.row)+512<=2512 by omega)) (by decide)
 refine yp _ (wO rfl) ?_;refine yp _ (SF rfl (r2 _) rfl) ?_;refine yp (rs:=[]) (.agg [.s6 (O H+2) 3 0 (O x.row),.N7,.d (Z x.day)]) rfl ?_;refine yal (O H+2) [w0,w1,.ptr 0 0,w3,w4,w5,w6,.ptr (O H+1) 0,w8,w9] (H++[.dead,.cells [.N7,.N7,.d (.int .i64 0)],.cells (eG x.row)]) U rfl rfl (uT H _ 1 _) rfl ?_;refine ys rfl ⟨rfl,rfl⟩ rfl rfl rfl (.inr ⟨s9 _,s9 _⟩) ?_ ?_ (H2:=H++[.dead,.cells [.s6 (O H+2) 3 0 (O x.row),.N7,.d (Z x.day)],.cells (eG x.row)])
 .simp only [wr,mH,uT]
  rfl
 refine yn hq ?_;have hne:H≠[]:=by rintro rfl;cases hL
 simp [dN,G6,Touch.F7,s8.makes,s8.y7,c7.J4,hne]
end Go.Proofs.YtibjocmpkoepoaaGreat
namespace Go.A5
def ag7 {H X:j9}{id:Nat}{p q r v:c7}(h:H[id]? =J (.cells [p,q,r])):wr (H++X) id (0+1) [v]=J (H.set id (.cells [p,v,r])++X):=by
 have hL:=BJ h;simp [wr,dJ hL,h,SS _ hL];rfl
def SR (k:Nat)(q:Int):fO (c8 k q)++[.d (Z q)]=fO (c8 (k+1) q):=by
 simp_all [List.replicate_succ',fO,List.flatMap_append,List.map_append]
def VT (s:List Int):O (fO s)=O s:=by rw [fO,A9,An]
def VS (s:List Int):(fO s).map c7.K9=fO s:=by
 simp [fO,c7.K9]
def af9 {n:Nat}(h:n<=1000):roomFor n 8=W:=by
 refine decide_eq_true ?_;omega
end Go.A5
namespace Go.Proofs.YtibjocmpkoepoaaGreat
open Go.A5 Go.A5.S
attribute [local irreducible] Rx Ry Rn Ex Pf Rl
def at3 (H:j9)(x:iN)(BQ:Nat)(pa w0 w1 w3 w4 w5 w6 w8 w9:c7)(Q:J6->St->Prop)(h0:H[0]? =J (.cells (x.enc.map .d)))(hr:O x.row<=100)(Nf:H[BQ]? =J (.cells [pa,.N7,.d (Z x.day)]))(hr0:BQ≠0)
  (hq:∀H' sv w0 w1 w3 w6 w9,O H<=O H'->(∀y,y<O H->y≠BQ->H'[y]? =H[y]?)->H'[BQ]? =J (.cells [pa,sv,.d (Z x.day)])->((O x.row=0/\sv= .N7)\/∃s,sv= .s6 s 1 0 (O x.row)/\O H<=s/\H'[s]? =J (.cells (fO (c8 (O x.row) x.seq)))) ->
   Q .normal ⟨[w0,w1,.ptr 0 0,w3,w4,w5,w6,.ptr BQ 0,.d (Z (O x.row)),w9],H'⟩) :
  Ex A R5 0 (match ny.body with
   | .seq _ (.seq _ (.seq _ (.seq _ (.seq (.block _ (.test _ _ _ (.seq _ (.seq _ (.seq c _))) _)) _))))=>c
   |c=>c) ⟨[w0,w1,.ptr 0 0,w3,w4,w5,w6,.ptr BQ 0,w8,w9],H⟩ Q:=by
 refine gr ?_;refine Ex.loop (λq s=>∃k H' sv w0 w1 w3 w6 w9,k<=O x.row/\q=O x.row - k/\s=⟨[w0,w1,.ptr 0 0,w3,w4,w5,w6,.ptr BQ 0,.d (Z (k:Nat)),w9],H'⟩/\O H<=O H'/\(∀y,y<O H->y≠BQ->H'[y]? =H[y]?)/\H'[BQ]? =J (.cells [pa,sv,.d (Z x.day)]) /\
  ((k=0/\sv= .N7/\O H'=O H)\/∃s,sv= .s6 s 1 0 k/\O H<=s/\H'[s]? =J (.cells (fO (c8 k x.seq))))) ?_ (k:=O x.row) ⟨0,H,.N7,_,_,_,_,_,V,V,rfl,V,λ_ _ _=>rfl,Nf,.inl ⟨rfl,rfl,rfl⟩⟩
 rintro q s ⟨k,H',sv,u0,u1,u3,u6,u9,hk,rfl,rfl,hL',hfr,Js,hsv⟩;have aE7:=BJ Nf;have hgrow:O H'=O H\/∃v∈[pa,sv,.d (Z x.day)],O H<v.J4:=by
  rcases hsv with ⟨_,_,h⟩|⟨s,rfl,h,_⟩
  all_goals (simp_all [c7.J4]<;>omega)
 rw [show (R5).strict=0 from rfl,pE Js aE7 hgrow];refine Ex.nT ?_;have g0:H'[0]? =J (.cells (x.enc.map .d)):=(hfr 0 V (Ne.symm hr0)).trans h0;have r4:rd H' 0 (0+4) 1=J [.d (y6 Vl.enc x.row)]:=cN g0 rfl;have r1:rd H' 0 (0+1) 1=J [.d (Z x.seq)]:=cN g0 rfl;refine Ex.seq ?_;refine Ex.gw (F0 (k:Int) (O x.row)) ?_ (λh=>?_) (λh=>?_)
 .refine Rn.text ?_
  repeat' (first|refine XX r4 rfl ?_|refine gx ?_|refine fq (λhw=>?_) λhw=>?_|refine ⟨rfl,rfl,_,rfl,?_⟩|refine ⟨rfl,rfl⟩|fail)
  rfl
 .have hlt:=C8 h
  refine Ex.skip ?_;refine Ex.seq ?_;refine Ex.block ?_;refine Ex.region (Rn.text ?_);refine gx ?_;refine Ry.pure rfl (SF rfl (cN Js rfl) rfl) ?_;refine gx ?_;refine XX r1 rfl ?_;refine bso (id:=O H') [.d (Z x.seq)] rfl ⟨by decide,rfl⟩ rfl rfl ?_;have sc:C7 (H' ++[.cells [.d (Z x.seq)]]) 1 (.s6 (O H') 1 0 1)=J (1,[.d (Z x.seq)]):=by simp [C7,rd,c7.K9]
  rcases hsv with ⟨rfl,rfl,hl⟩|⟨s,rfl,hs,hS⟩
  .refine apz (j2:=0) (O H'+1) (H' ++[.cells [.d (Z x.seq)],.cells [.d (Z x.seq)]]) rfl rfl rfl rfl rfl rfl ((dJ V).trans Js) rfl rfl sc (by decide) (by decide) U U ?_
   refine gx ?_;refine soy rfl ⟨rfl,rfl⟩ rfl rfl rfl (.inr ⟨s9 _,s9 _⟩) (ag7 Js) ?_
   repeat' (first|refine ad V ?_|refine gx ?_|fail)
   refine ⟨O x.row - (0+1),V,0+1,_,_,_,_,_,_,_,V,rfl,rfl,D,λy hy hne=>?_,?_,.inr ⟨O H'+1,rfl,V,?_⟩⟩
   .grind
   .grind
   .have:=mH (H'.set BQ (.cells [pa,.s6 (O H'+1) 1 0 1,.d (Z x.day)])) [.cells [.d (Z x.seq)],.cells [.d (Z x.seq)]] 1
    rw [List.length_set] at this;exact this
  .have hsL:=BJ hS
   have hsr:s≠BQ:=V
   have aE6:(H'.set s .dead)[BQ]? =J (.cells [pa,.s6 s 1 0 k,.d (Z x.day)]):=M
   refine apn (O H'+1) (k+1) (H'.set s .dead++[.cells [.d (Z x.seq)],.cells (fO (c8 (k+1) x.seq))]) rfl rfl ((dJ hsL).trans hS) sc rfl ⟨by rw [VT,List.length_replicate,Nat.mul_one],af9 V,by simp [A8,c7.J4],by rfl,by decide⟩ (by simp_all [SS,VS,SR]) U rfl ?_;refine gx ?_;refine soy rfl ⟨rfl,rfl⟩ rfl rfl rfl (.inr ⟨s9 _,s9 _⟩) (ag7 aE6) ?_
   repeat' (first|refine ad V ?_|refine gx ?_|fail)
   refine ⟨O x.row - (k+1),V,k+1,_,_,_,_,_,_,_,V,rfl,rfl,D,λy hy hne=>?_,?_,.inr ⟨O H'+1,rfl,V,?_⟩⟩
   .grind
   all_goals grind
 .have hge:=D4 h
  refine Ex.exit ?_;obtain rfl:k=O x.row:=V
  refine hq H' sv _ _ _ _ _ hL' hfr Js ?_
  rcases hsv with ⟨h,rfl,_⟩|h
  .exact .inl ⟨h,rfl⟩
  .exact .inr h
def YW {l:List W9}{v:Vl}{j:Nat}(hj:j<=O l)(h1:∀i,i<j->F0 (IS (Y (Y l i).row 0) v) 0=W)(h2:j<O l->F0 (IS (Y (Y l j).row 0) v) 0=F):tj l v=j:=by
 unfold tj
 induction l generalizing j with
 |nil=>simp at hj;simp [hj]
 |cons a l ih =>
  cases j with
  |zero =>
   have:=h2 U;rw [T8] at this;simp [List.takeWhile_cons,this]
  |succ j =>
   have h0:=h1 0 V;rw [T8] at h0;simp only [List.takeWhile_cons,h0,if_true,o8,Nat.add_right_cancel_iff];exact ih (by simpa using hj) (λi hi=>by have:=h1 (i+1) V;rwa [gp] at this) λhi=>by have:=h2 (by simpa using hi);rwa [gp] at this
def as0 (H:j9)(l:List W9)(row:List Vl)(cs:List c7)(ids:List Nat)(BQ a w:Nat)(lv w0 w1 w3 w4 w6 w8 sv dy:c7)(Q:J6->St->Prop)(hl:oO H lv (O l) cs)(hR:O9 H cs l ids)(hm:O l<=64)(hrow:∀r∈l,0<O r.row)(Nf:H[BQ]? =J (.cells [.s6 a 3 0 w,sv,dy]))(ha:H[a]? =J (.cells (eG row)))(hw:0<w)(hrl:0<O row)
  (hq:∀w0 w1 w3 w6 w8,Q .normal ⟨[w0,w1,.ptr 0 0,w3,w4,lv,w6,.ptr BQ 0,w8,.d (Z (tj l (Y row 0)))],H⟩) :
  Ex A R5 0 (match ny.body with
   | .seq _ (.seq _ (.seq _ (.seq _ (.seq (.block _ (.test _ _ _ (.seq _ (.seq _ (.seq _ (.seq _ (.seq c _))))) _)) _))))=>c
   |c=>c) ⟨[w0,w1,.ptr 0 0,w3,w4,lv,w6,.ptr BQ 0,w8,.d (Z 0)],H⟩ Q:=by
 show Ex A R5 0 (.block 3 (.loop _ (.seq (.test _ _ _ _ _) (.block 4 (.region _ F))))) _ _
 refine Ex.block ?_;refine Ex.EM (λk T' H' =>∃(j:Nat) (w0 w1 w3 w6 w8:c7),j<=O l/\k=O l - j/\T' =[w0,w1,.ptr 0 0,w3,w4,lv,w6,.ptr BQ 0,w8,.d (Z j)]/\H' =H/\∀i,i<j->F0 (IS (Y (Y l i).row 0) (Y row 0)) 0=W) (by rintro _ _ _ ⟨_,_,_,_,_,_,_,_,_,rfl,_⟩;rfl) ?_ (k:=O l) ⟨0,_,_,_,_,_,V,V,rfl,rfl,λ_ h=>V⟩;rintro k T' H' ⟨j,u0,u1,u3,u6,u8,hj,rfl,rfl,rfl,hb⟩;refine Ex.nT ?_;have rr:rd H' BQ (0+0) 1=J [.s6 a 3 0 w]:=cN Nf rfl;have ra:rd H' a (0+(0:Int).toNat * 3) 3=J ((Y row 0).enc.map .d):=ND ha hrl;have fin:(j<O l->F0 (IS (Y (Y l j).row 0) (Y row 0)) 0=F)->tj l (Y row 0)=j:=YW hj hb;refine Ex.seq ?_
 rcases hl.De with ⟨rfl,h0⟩|⟨id,rfl,hid⟩
 .obtain rfl:j=0:=V
  refine Ex.gw F ?_ (λh=>?_) (λh=>?_)
  .refine Rn.draw ?_
   refine gx ?_;refine gx ?_;refine gx ?_;refine gx ?_;refine gx ?_;refine fk (h1:=λhw=>?_) (h2:=λhw=>?_)
   .cases C8 hw
   .repeat' (first|refine gx ?_|refine fq (λhw=>?_) λhw=>?_|refine ⟨rfl,rfl,_,rfl,?_⟩|refine ⟨rfl,rfl⟩|fail)
    rfl
  .cases h
  .refine Ex.exit ?_
   have:=hq .any .any .any .any .any;rw [fin λh=>V] at this;exact this
 .refine Ex.gw (F0 (j:Int) (O l)&&F0 (IS (Y (Y l j).row 0) (Y row 0)) 0) ?_ (λh=>?_) (λh=>?_)
  .refine Rn.draw ?_
   by_cases hlt:j<O l
   .obtain ⟨a',b',g1,g2,g3,g4,g5,g6⟩:=hR.at hlt
    have r1:rd H' id (0+(j:Int).toNat * 3+0) 1=J [.s6 a' 3 0 (O (Y l j).row)]:=cN hid (by simpa using g1);have hp:=hrow _ (H6 hlt);have r3:rd H' a' (0+(0:Int).toNat * 3) 3=J ((Y (Y l j).row 0).enc.map .d):=ND g5 hp
    repeat' (first|refine lnr ?_|refine XV (e:=(j:Int)) (len:=O l) ⟨V,V⟩ ?_|refine XV (e:=0) (len:=O (Y l j).row) ⟨V,V⟩ ?_|refine XX r1 rfl ?_|refine Pa r3 rfl ?_|refine XX rr rfl ?_|refine XV (e:=0) (len:=w) ⟨V,V⟩ ?_|refine Pa ra rfl ?_|refine cl (aq8 _ _) ?_|refine sO (aq8 _ _) ?_|refine gx ?_|refine fq (λhw=>?_) λhw=>?_|refine ⟨rfl,rfl,_,rfl,?_⟩|refine ⟨rfl,rfl⟩|fail)
    all_goals first|(simp [*,j4];done)|(simp_all [j4];done)
   .have:F0 (j:Int) (O l)=F:=by rw [A1];simpa using hlt
    repeat' (first|refine lnr ?_|refine gx ?_|refine fq (λhw=>?_) λhw=>?_|refine ⟨rfl,rfl,_,rfl,?_⟩|refine ⟨rfl,rfl⟩|fail)
    all_goals first|(simp [*,j4];done)|(simp_all [j4];done)
  .rw [c9] at h
   have hlt:=C8 h.1
   repeat' (first|refine ad V ?_|refine gx ?_|fail)
   refine ⟨O l - (j+1),V,j+1,_,_,_,_,_,V,rfl,rfl,rfl,λi hi=>?_⟩
   rcases A7 i j with h2|h2
   .exact hb i h2
   .rw [show i=j by omega]
    exact h.2
  .refine Ex.exit ?_
   have:=hq .any .any .any .any .any;rw [fin λhlt=>by
    have e:F0 (j:Int) (O l)=W:=by rw [A1];simpa using hlt
    rwa [e,Bool.true_and] at h] at this
   exact this
end Go.Proofs.YtibjocmpkoepoaaGreat
namespace Go.A5
def O9.aO5 {H:j9}{r:W9}{a b:Nat}(ha:H[a]? =J (.cells (eG r.row)))(hb:H[b]? =J (.cells (fO r.seq))):O9 H [.s6 a 3 0 (O r.row),.s6 b 1 0 (O r.seq),.d (Z r.day)] [r] [a,b]:=⟨a,b,[],[],rfl,rfl,ha,hb,rfl,rfl⟩
end Go.A5
namespace Go.Proofs.YtibjocmpkoepoaaGreat
open Go.A5 Go.A5.S
attribute [local irreducible] Rx Ry Rn Ex Pf Rl
def ao8 (n i k m BQ a s w:Nat)(H:j9)(x:iN)(oc cs:List c7)(lv w0 w1 w3 w6 w8:c7)(dy:A5.Data)(Q:J6->St->Prop)(h0:H[0]? =J (.cells (x.enc.map .d)))(h1:H[1]? =J (.cells oc))(hL:2<=O H)(Ih:O oc=n)(hi:x.U1=(i:Int))(hin:i<n)(hl:oO H lv m cs)(hk:k<=m)(hm:m<=64)
  (Nf:H[BQ]? =J (.cells [.s6 a 3 0 w,.s6 s 1 0 w,.d dy])) (haL:a<O H) (hsL:s<O H)
  (hq:Q .normal ⟨[w0,w1,.ptr 0 0,w3,.s6 1 1 0 n,lv,w6,.ptr BQ 0,w8,.d (Z k)],H.set 1 (.cells (oc.set i (.s6 (O H+4) 3 0 (m+1))))++[.dead,.cells [.s6 a 3 0 w,.s6 s 1 0 w,.d dy],.dead,.dead,.cells (cs.take (k * 3)++[.s6 a 3 0 w,.s6 s 1 0 w,.d dy]++cs.drop (k * 3))]⟩) :
  Ex A R5 0 (match ny.body with
   | .seq _ (.seq _ (.seq _ (.seq _ (.seq (.block _ (.test _ _ _ (.seq _ (.seq _ (.seq _ (.seq _ (.seq _ c))))) _)) _))))=>c
   |c=>c) ⟨[w0,w1,.ptr 0 0,w3,.s6 1 1 0 n,lv,w6,.ptr BQ 0,w8,.d (Z k)],H⟩ Q:=by
 obtain ⟨u1,g1⟩:=hl.part (s9 k) hk;obtain ⟨u2,g2⟩:=hl.part hk (k9 m);have e1:=hl.parts (k * 3) (0 * 3);have e2:=hl.parts (m * 3) (k * 3);have c1:(cs.take (k * 3)).drop (0 * 3)=cs.take (k * 3):=U
 have c2:(cs.take (m * 3)).drop (k * 3)=cs.drop (k * 3):=by rw [<- hl.len,List.take_length]
 rw [c2] at e2;have l1:O (cs.take (k * 3))=k * 3:=by rw [P3,hl.len];omega
 have cb5:=BJ Nf;generalize hR:[c7.s6 a 3 0 w,.s6 s 1 0 w,.d dy]=R at Nf hq;have hRl:O R=3:=by subst hR;rfl
 have hRa:R.map c7.K9=R:=by subst hR;rfl
 have hRo:R.all c7.one=W:=by subst hR;rfl
 have hRb:A8 R<=O H:=by subst hR;simp [A8,c7.J4];omega
 have s1:=g1.sc (H++[.cells [],.dead]) λid hid _=>dJ hid
 have s2:=g2.sc (H++[.dead,.cells R,.dead,.cells (cs.take (k * 3)++R)]) λid hid _=>dJ hid
 rw [c2] at s2;have sR:C7 (H++[.dead,.cells R,.cells (cs.take (k * 3))]) 3 (.s6 (O H+1) 3 0 1)=J (1,R):=by
  simp_all [rd,mH,A4,C7,if_true]
 have b1:=g1.J4;have b2:=g2.J4;have hne:H≠[]:=by grind
 have r3:rd (H++[.dead,.dead]) 0 (0+3) 1=J [.d (Z i)]:=by rw [<- hi];exact cN ((dJ V).trans h0) rfl
 have rr:rd (H++[.dead,.dead,.cells (cs.take (k * 3))]) BQ 0 3=J R:=by
  simp_all [rd,dJ,A4]
 refine Ex.region (Rn.DI (O H) (H++[.dead,.dead]) [] rfl rfl rfl ?_);refine ym ?_;refine yp _ (wO rfl) ?_;refine yp _ (SF rfl r3 rfl) ?_;refine yb' (O H+1) [] (H++[.cells [],.dead]) rfl U (uT H _ 0 _) rfl ?_;refine ym (hx:=⟨rfl,hl.zY⟩) ?_;refine ym ?_;refine yp (rs:=[]) u1 (g1.pf rfl _ _ _ _ hl.zY rfl) ?_;refine Wx (O H+2) k (O H+1) (H++[.dead,.dead,.cells (cs.take (k * 3))]) rfl g1.zY (mH H _ 0) s1 rfl ⟨U,by grind [qh],s5 e1.1 U,e1.2.1,U⟩ M U V V ?_;refine yp _ (Nu rfl rr hRa) ?_;refine yb' (O H+2) R (H++[.dead,.cells R,.cells (cs.take (k * 3))]) (by subst hR;rfl) (by simp [hRl]) (uT H _ 1 _) rfl ?_;refine Wx (O H+3) (k+1) (O H+3) (H++[.dead,.cells R,.dead,.cells (cs.take (k * 3)++R)]) rfl rfl (mH H _ 2) sR rfl ⟨l1.symm,qh V,s5 hRb U,hRo,U⟩ M U V (Nat.max_eq_left (show O H+1+1<=O H+2+1 by omega)) ?_;refine ym (hx:=⟨rfl,hl.zY⟩) ?_;refine ym ?_;refine yp (rs:=[]) u2 (g2.pr rfl _ _ _ _ hl.zY rfl) ?_;refine Wx (O H+4) (m+1) (O H+4) (H++[.dead,.cells R,.dead,.dead,.cells (cs.take (k * 3)++R++cs.drop (k * 3))]) rfl g2.zY (mH H _ 3) s2 rfl ⟨by grind,qh V,s5 e2.1 U,e2.2.1,U⟩ M U V V ?_;refine yp _ (SE rfl rfl hin) ?_;refine ys rfl ⟨rfl,rfl⟩ rfl rfl rfl (.inr ⟨s9 _,s9 _⟩) ?_ ?_ (H2:=H.set 1 (.cells (oc.set i (.s6 (O H+4) 3 0 (m+1))))++[.dead,.cells R,.dead,.dead,.cells (cs.take (k * 3)++R++cs.drop (k * 3))])
 .simp only [wr,dJ (show 1<O H by omega),h1,E4,ag1 hL]
  rw [if_pos V,uW _ _ _ V];simp
 refine yn hq ?_;simp [dN,G6,Touch.F7,s8.makes,s8.y7,hne];omega
def Um {T:List c7}{H:j9}{ts:List (List W9)}{oc:List c7}{ids:List Nat}(hT:T[3]? =J (.s6 1 1 0 (O ts)))(ho:H[1]? =J (.cells oc))(h:Y4 H oc ts ids)(h1:O ts<300000)(h2:∀t∈ts,O t<100000/\∀r∈t,O r.row<100000/\O r.seq<100000):Z4 ny 0 (J (.ret,⟨T,H⟩))=J (.d (V6 ts),[]):=by
 have h3:=h.bg2 ho h1 h2;have h4:cB T H ny.results=J [.s6 1 1 0 (O ts)]:=by
  show cB T H [.slot 3]=_
  simp only [cB,qf,hT]
 unfold Z4;simp only [h4];show finish F 0 [.s6 1 1 0 (O ts)] H=_
 simp only [finish,j5,if_false,j4,h3];simp [c7.J4]
theorem Uh {H:j9}{ts:List (List W9)}{oc:List c7}{ids:List Nat}{n:Nat}{w0 w1 w2 w3 w5 w6 w7 w8 w9:c7}(hn:O ts=n)(ho:H[1]? =J (.cells oc))(h:Y4 H oc ts ids)(h1:O ts<300000)(h2:∀t∈ts,O t<100000/\∀r∈t,O r.row<100000/\O r.seq<100000) :
  Ex A R5 0 (match ny.body with
   | .seq _ (.seq _ (.seq _ (.seq _ (.seq _ c))))=>c
   |c=>c) ⟨[w0,w1,w2,w3,.s6 1 1 0 n,w5,w6,w7,w8,w9],H⟩ (λx s=>∃w,Z4 ny 0 (J (x,s))=J (w,[])/\w= .d (V6 ts)):=by
 subst hn;show Ex A R5 0 (.seq (.region _ F) .ret) _ _
 refine gr ?_;exact ⟨_,Um rfl ho h h1 h2,rfl⟩
theorem ZM {α:Type} [Inhabited α] {l:List α}{i:Nat}(h:i<O l):l.set i (Y l i)=l:=by rw [F9 h,List.set_getElem_self]
def SY {α:Type} [Inhabited α] {l:List α}{i:Nat}(h:i<O l):l=l.take i++Y l i::l.drop (i+1):=by rw [<- D8 h,List.take_append_drop]
def SU {α:Type}{l:List α}{i:Nat}(h:i<O l)(a:α):l.set i a=l.take i++a::l.drop (i+1):=by rw [P6,if_pos h]
end Go.Proofs.YtibjocmpkoepoaaGreat
namespace Go.A5.S
def lpa {A:Prog}{l:J2}{b:Nat}{dr:Bool}{j8 ops:List o3}{T:List c7}{H:j9}{n:Nat}{rl:List c7}{l6:List Touch}{Q:List c7->j9->List c7->Prop}{x:y4}{id o:Nat}{v w:c7}{u:List Nat}(hr:rd H id o 1=J [v])(hv:v.K9=w)(h2:Ry A l b dr j8 ops T H (n+1) (w::rl) l6 Q)(hx:rq T n rl x= .ptr id o:=by rfl) :
  Ry A l b dr j8 (⟨.load K x,K,K,u⟩::ops) T H n rl l6 Q:=Ry.pure (rs:=[id]) rfl (SF hx hr hv) h2
end Go.A5.S
namespace Go.Proofs.YtibjocmpkoepoaaGreat
open Go.A5 Go.A5.S
attribute [local irreducible] Rx Ry Rn Ex Pf Rl
def VN (n i:Nat)(H:j9)(x:iN)(oc cs:List c7)(lv:c7)(l:List W9)(ids:List Nat)(w0 w1 w3 w6 w7 w8 w9:c7)(Q:J6->St->Prop)(h0:H[0]? =J (.cells (x.enc.map .d)))(h1:H[1]? =J (.cells oc))(hL:2<=O H)(Ih:O oc=n)(hi:x.U1=(i:Int))(hin:i<n)(hl:oO H lv (O l) cs)(hR:O9 H cs l ids)(Jl:∀y∈ids,y<O H/\y≠1)(hm:O l<64)(hrow:∀r∈l,0<O r.row)(hx0:0<O x.row)(hx1:O x.row<=100)
  (hq:∀H' v' ids' w0 w1 w2 w3 w5 w6 w7 w8 w9,(∀y,y<O H->y≠1->H'[y]? =H[y]?)->H'[1]? =J (.cells (oc.set i v'))->eO H' v' (uM l x) ids' ->Q .normal ⟨[w0,w1,w2,w3,.s6 1 1 0 n,w5,w6,w7,w8,w9],H'⟩) :
  Ex A R5 0 (match ny.body with
   | .seq _ (.seq _ (.seq _ (.seq _ (.seq (.block _ (.test _ _ _ (.seq _ c) _)) _))))=>c
   |c=>c) ⟨[w0,w1,.ptr 0 0,w3,.s6 1 1 0 n,lv,w6,w7,w8,w9],H⟩ Q:=by
 refine Ex.seq ?_;refine ap9 H x w0 w1 w3 _ _ w6 w7 w8 w9 _ h0 hL hx1 ?_;have hf1:∀X:j9,∀y,y<O H->(H++X)[y]? =H[y]? :=λX y hy=>dJ hy
 refine Ex.seq ?_;refine at3 _ x (O H+1) _ _ _ _ _ _ _ _ _ _ ((hf1 _ 0 V).trans h0) hx1 (mH H _ 1) V (λH' sv u0 u1 u3 u6 u9 k1 k2 k3 k4=>?_);obtain ⟨s,rfl,ks,kS⟩:=k4.resolve_left λh=>V
 have hlen:O (H++[x4.dead,.cells [.s6 (O H+2) 3 0 (O x.row),.N7,.d (Z x.day)],.cells (eG x.row)])=O H+3:=U
 have fr:∀y,y<O H->H'[y]? =H[y]? :=λy hy=>(k2 y V V).trans (dJ hy)
 have EA:H'[O H+2]? =J (.cells (eG x.row)):=(k2 _ V V).trans (mH H _ 2);have hl' :oO H' lv (O l) cs:=hl.mono V λid hid _=>fr id hid
 have hR' :O9 H' cs l ids:=hR.mono λy hy=>fr y (Jl y hy).1
 refine Ex.seq ?_;refine Ex.region (Rn.text ?_);refine gx ?_;refine gx ?_;refine Ex.seq ?_;refine as0 H' l x.row cs ids (O H+1) (O H+2) (O x.row) lv _ _ _ _ _ _ _ _ _ hl' hR' V hrow k3 EA hx0 hx0 (λu0 u1 u3 u6 u8=>?_);have hk:=YX l (Y x.row 0);have hsL:=BJ kS;refine ao8 n i (tj l (Y x.row 0)) (O l) (O H+1) (O H+2) s (O x.row) H' x oc cs lv _ _ _ _ _ _ _ ((fr 0 V).trans h0) ((fr 1 V).trans h1) V Ih hi hin hl' hk V k3 V hsL ?_;generalize hX:[x4.dead,.cells [.s6 (O H+2) 3 0 (O x.row),.s6 s 1 0 (O x.row),.d (Z x.day)],.dead,.dead,.cells (cs.take (tj l (Y x.row 0) * 3)++[.s6 (O H+2) 3 0 (O x.row),.s6 s 1 0 (O x.row),.d (Z x.day)]++cs.drop (tj l (Y x.row 0) * 3))]=X;generalize hc:x4.cells (oc.set i (.s6 (O H'+4) 3 0 (O l+1)))=c1;have f2:∀y,y<O H'->y≠1->(H'.set 1 c1++X)[y]? =H'[y]? :=λy hy hne=>by grind
 obtain ⟨j1,j2,q1,q2,q3,q4⟩:=hR'.cut (tj l (Y x.row 0));have nw:=O9.aO5 (H:=H'.set 1 c1++X) (r:=Zh x) (a:=O H+2) (b:=s) ((f2 _ V V).trans EA) ((f2 _ hsL V).trans kS);have all:=((q1.mono λy hy=>f2 y (by grind) (Jl y (q3 y hy)).2).append nw).append (q2.mono λy hy=>f2 y (by grind) (Jl y (q4 y hy)).2);have all' :O9 (H'.set 1 c1++X) (cs.take (tj l (Y x.row 0) * 3)++[.s6 (O H+2) 3 0 (O x.row),.s6 s 1 0 (O x.row),.d (Z x.day)]++cs.drop (tj l (Y x.row 0) * 3)) (uM l x) (j1++[O H+2,s]++j2):=by simp_all [uM,Zh]
 have hX4:(H'.set 1 c1++X)[O H'+4]? =J (.cells (cs.take (tj l (Y x.row 0) * 3)++[.s6 (O H+2) 3 0 (O x.row),.s6 s 1 0 (O x.row),.d (Z x.day)]++cs.drop (tj l (Y x.row 0) * 3))):=by
  have:=mH (H'.set 1 c1) X 4;rw [List.length_set] at this;rw [this,<- hX];rfl
 have YC:eO (H'.set 1 c1++X) (.s6 (O H'+4) 3 0 (O l+1)) (uM l x) ((O H'+4)::(j1++[O H+2,s]++j2)):= .inr ⟨_,_,_,by
  have:O (uM l x)=O l+1:=by simp [uM];omega
  rw [this],rfl,hX4,all'⟩
 grind
def ZH (w:Nat->Nat)(n i:Nat)(a:Int)(ts:List (List W9))(x:iN)(l:List W9)(H:j9)(oc:List c7)(v:c7)(ids i0 i1 i2:List Nat)(w0 w1 w7 w8 w9:c7)(hn:O ts=n)(hn2:n<=1000)(hT:OkT w ts)(hx:OkC n w x)(hw:∀i,i<n->1<=w i/\w i<=100)(hi:x.U1=(i:Int))(hl0:Y ts i=l)(ha:ou l (zJ x)=a)
  (h0:H[0]? =J (.cells (x.enc.map .d))) (h1:H[1]? =J (.cells oc)) (hL:2<=O H) (Ih:O oc=n) (hts:Y4 H oc ts ids) (Jl:∀y∈ids,1<y/\y<O H) (Nd:ids.Nodup) (hW:F3 H<=O H) (Uf:ids=i0++i1++i2) (hv:oc[i]? =J v) (Ho:eO H v l i1)
  (hput:∀(H' :j9) (v' :c7) (p' :List W9) (OQ :List Nat),(∀y∈i0++i2,H'[y]? =H[y]?)->eO H' v' p' OQ ->Y4 H' (oc.set i v') (ts.take i++p' ::ts.drop (i+1)) (i0++OQ ++i2)) :
  Ex A R5 0 (match ny.body with
   | .seq _ (.seq _ (.seq _ (.seq _ c)))=>c
   |c=>c) ⟨[w0,w1,.ptr 0 0,.N7,.s6 1 1 0 n,v.K9,.d (Z a),w7,w8,w9],H⟩ (λy s=>∃w,Z4 ny 0 (J (y,s))=J (w,[])/\w= .d (V6 (au ts x))):=by
 obtain ⟨cs,ids',hl,hR,hsub,bT1,_⟩:=Ho.lv hW;have hin:i<n:=by grind
 have hit:x.U1.toNat=i:=V
 have hok:TB (w i) l:=by rw [<- hl0];exact hT i V
 have hwi:=hw i hin;have hav:=Ja l (zJ x);rw [ha] at hav;have hP:au ts x=ts.set i (R6 l a x):=by simp_all [au]
 have hPl:=yg (a:=a) (c:=x) hok hav.1 λe=>by rw [hx.row,if_pos e,hit]
 have rF:∀p,ts.set i p=ts.take i++p::ts.drop (i+1):=λp=>SU V p
 have sizes:∀t∈au ts x,O t<100000/\∀r∈t,O r.row<100000/\O r.seq<100000:=λt ht=>by
  obtain ⟨j,hj,rfl⟩:=L5 ht;have hp:=pY hT hn hx;have hj' :j<n:=V
  have:=hp.1 j V;rw [F9 hj] at this;have hwj:=hw j hj';exact ⟨by have:=this.1;omega,λr hr=>by have:=this.2 r hr;omega⟩
 have aD9:O (au ts x)=n:=(pY hT hn hx).2;have hi1:∀y∈ids',1<y/\y<O H:=λy hy=>Jl y M
 have Sf:∀y∈i0++i2,1<y/\y<O H:=λy hy=>Jl y (by grind)
 have fin:∀(H' :j9) (v' :c7) (OQ :List Nat) (w0 w1 w2 w3 w5 w6 w7 w8 w9:c7),(∀y∈i0++i2,H'[y]? =H[y]?)->H'[1]? =J (.cells (oc.set i v'))->eO H' v' (R6 l a x) OQ ->
   Ex A R5 0 (match ny.body with| .seq _ (.seq _ (.seq _ (.seq _ (.seq _ c))))=>c|c=>c) ⟨[w0,w1,w2,w3,.s6 1 1 0 n,w5,w6,w7,w8,w9],H'⟩ (λy s=>∃w,Z4 ny 0 (J (y,s))=J (w,[])/\w= .d (V6 (au ts x))):=λH' v' OQ u0 u1 u2 u3 u5 u6 u7 u8 u9 q1 q2 q3=>by
  have:=hput H' v' _ OQ q1 q3
  grind [Uh]
 have same:R6 l a x=l->au ts x=ts:=λe=>by grind [ZM]
 have bf8:R6 l a x=l->∀(w0 w1 w2 w3 w5 w6 w7 w8 w9:c7),Ex A R5 0 (match ny.body with| .seq _ (.seq _ (.seq _ (.seq _ (.seq _ c))))=>c|c=>c) ⟨[w0,w1,w2,w3,.s6 1 1 0 n,w5,w6,w7,w8,w9],H⟩ (λy s=>∃w,Z4 ny 0 (J (y,s))=J (w,[])/\w= .d (V6 (au ts x))):=λe u0 u1 u2 u3 u5 u6 u7 u8 u9=>by
  grind [Uh]
 have r0:rd H 0 (0+0) 1=J [.d (Z x.op)]:=cN h0 rfl;have c1:∀j,O (cs.take (j * 3))=min (j * 3) (O l * 3):=λj=>by rw [P3,hl.len]
 show Ex A R5 0 (.seq (.block 0 (.test _ _ _ (.seq (.test _ _ _ _ (.test _ _ _ (.seq _ .ret) .skip)) _) _)) _) _ _
 refine Ex.seq ?_;refine Ex.block ?_;refine Ex.gw (x5 x.op 1) ?_ (λho=>?_) (λho=>?_)
 .refine Rn.text ?_
  repeat' (first|refine XX r0 rfl ?_|refine gx ?_|refine fq (λhw=>?_) λhw=>?_|refine ⟨rfl,rfl,_,rfl,?_⟩|refine ⟨rfl,rfl⟩|fail)
  rfl
 .have ho1:x.op=1:=br ho
  have hrow:=hx.row;rw [if_pos ho1,hit] at hrow;refine Ex.seq ?_;refine Ex.gw (aH 0 a) ?_ (λh=>?_) (λh=>?_)
  .refine Rn.text ?_
   repeat' (first|refine gx ?_|refine fq (λhw=>?_) λhw=>?_|refine ⟨rfl,rfl,_,rfl,?_⟩|refine ⟨rfl,rfl⟩|fail)
   rfl
  .have h:=kM h
   obtain ⟨k,rfl⟩:∃k:Nat,a=k:=⟨a.toNat,V⟩;have hk:k<O l:=V
   have UA:=Ad hok (Int.natCast_nonneg k) V;have uy:R6 l k x=uM (sS l k) x:=by
    have e1:F0 (k:Int) 0=F:=by rw [A1];simp
    simp [R6,ho,e1]
   refine as6 n k (O l) H cs _ _ _ _ _ _ _ _ _ _ hL hl hk hok.1 ?_;obtain ⟨j1,j2,q1,q2,q3,q4⟩:=hR.cut k;obtain ⟨m1,m2,p1,p2,p3,p4⟩:=hR.cut (k+1);generalize hX:[x4.dead,.dead,.cells (cs.take (k * 3)++cs.drop ((k+1) * 3))]=X;have f1:∀y,y<O H->(H++X)[y]? =H[y]? :=λy hy=>dJ hy
   have all:=(q1.mono λy hy=>f1 y (hi1 y (q3 y hy)).2).append (p2.mono λy hy=>f1 y (hi1 y (p4 y hy)).2);have hXl:O (H++X)=O H+3:=by rw [<- hX];simp
   have e1:=hl.parts (k * 3) (0 * 3);have e2:=hl.parts (O l * 3) ((k+1) * 3);have c3:(cs.take (k * 3)).drop (0 * 3)=cs.take (k * 3):=U
   have c2:(cs.take (O l * 3)).drop ((k+1) * 3)=cs.drop ((k+1) * 3):=by rw [<- hl.len,List.take_length]
   rw [c3] at e1;rw [c2] at e2;have ov:oO (H++X) (.s6 (O H+2) 3 0 (O l - 1)) (O (sS l k)) (cs.take (k * 3)++cs.drop ((k+1) * 3)):=by
    have hcl:O (sS l k)=O l - 1:=V
    rw [hcl];refine ⟨rfl,?_,by rw [List.map_append,e1.2.2,e2.2.2],by rw [List.all_append,e1.2.1,e2.2.1];rfl,by rw [Aw];omega,.inr ⟨_,rfl,?_⟩⟩
    .rw [l5,c1,List.length_drop,hl.len]
     omega
    .rw [<- hX]
     exact mH H _ 2
   have hcr:sS l k=l.take k++l.drop (k+1):=by simp [sS]
   refine VN n i (H++X) x oc _ _ (sS l k) (j1++m2) _ _ _ _ _ _ _ _ ((f1 0 V).trans h0) ((f1 1 V).trans h1) V Ih hi hin ov (hcr ▸ all) (λy hy=>?_) (by have:=hok.1;omega) (λr hr=>by have:=(UA.1.2 r hr).1;omega) V V (λH' v' Ju u0 u1 u2 u3 u5 u6 u7 u8 u9 t1 t2 t3=>?_)
   .rcases N9.1 hy with hy|hy
    .have:=hi1 y (q3 y hy);omega
    .have:=hi1 y (p4 y hy);omega
   .exact fin H' v' Ju _ _ _ _ _ _ _ _ _ (λy hy=>by have:=Sf y hy;rw [t1 y V V,f1 y V]) t2 (uy.symm ▸ t3)
  .have h:=rR h
   refine Ex.gw (aH 64 (O l:Int)) ?_ (λh2=>?_) (λh2=>?_)
   .refine Rn.text ?_
    refine mv ?_ ⟨rfl,hl.zY⟩;refine Ry.pure rfl (hl.bn1 hl.zY) ?_
    repeat' (first|refine gx ?_|refine fq (λhw=>?_) λhw=>?_|refine ⟨rfl,rfl,_,rfl,?_⟩|refine ⟨rfl,rfl⟩|fail)
    rfl
   .have e1:F0 a 0=W:=by rw [A1];simpa using h
    have uy:R6 l a x=l:=by simp [R6,ho,e1,h2]
    have:=same uy;refine gr ?_;exact ⟨_,Um (by rw [aD9];rfl) h1 (this.symm ▸ hts) V sizes,rfl⟩
   .have e1:F0 a 0=W:=by rw [A1];simpa using h
    have uy:R6 l a x=uM l x:=by simp [R6,ho,e1,h2]
    have h3:=rR h2;refine Ex.skip ?_;refine VN n i H x oc cs _ l ids' _ _ _ _ _ _ _ _ h0 h1 hL Ih hi hin hl hR (λy hy=>by have:=hi1 y hy;omega) V (λr hr=>by have:=(hok.2 r hr).1;omega) V V (λH' v' Ju u0 u1 u2 u3 u5 u6 u7 u8 u9 t1 t2 t3=>?_);exact fin H' v' Ju _ _ _ _ _ _ _ _ _ (λy hy=>by have:=Sf y hy;exact t1 y V V) t2 (uy.symm ▸ t3)
 .refine Ex.gw (F0 a 0) ?_ (λh=>?_) (λh=>?_)
  .refine Rn.text ?_
   repeat' (first|refine gx ?_|refine fq (λhw=>?_) λhw=>?_|refine ⟨rfl,rfl,_,rfl,?_⟩|refine ⟨rfl,rfl⟩|fail)
   rfl
  .have uy:R6 l a x=l:=by simp [R6,ho,h]
   refine Ex.skip ?_;exact bf8 uy _ _ _ _ _ _ _ _ _
  .have h' :=D4 h
   obtain ⟨k,rfl⟩:∃k:Nat,a=k:=⟨a.toNat,V⟩;have hk:k<O l:=V
   refine Ex.gw (x5 x.op 2) ?_ (λh2=>?_) (λh2=>?_)
   .refine Rn.text ?_
    repeat' (first|refine XX r0 rfl ?_|refine gx ?_|refine fq (λhw=>?_) λhw=>?_|refine ⟨rfl,rfl,_,rfl,?_⟩|refine ⟨rfl,rfl⟩|fail)
    rfl
   .have uy:R6 l k x=Tj l k x:=by simp [R6,ho,h,h2]
    obtain ⟨j,hj⟩:∃j:Nat,x.col=j:=⟨x.col.toNat,by have:=hx.c0;omega⟩;have hj2:j<w i:=by have:=hx.c1;rw [hit] at this;omega
    rcases Ho with ⟨e,_⟩|⟨id,cs0,YU,rfl,rfl,hid,hR0⟩
    .rw [e] at hk
     cases hk
    subst Uf;simp only [List.nodup_append,List.nodup_cons,N9,List.mem_cons] at Nd;have bj7:YU.Nodup:=Nd.1.2.1.2;have hne:∀y∈YU,y≠id:=λy hy e=>Nd.1.2.1.1 (e ▸ hy)
    obtain ⟨ra,rb,g1,g2,g3,g4,g5,g6,g7,g8⟩:=hR0.gF bj7 hk;have hrk:=hok.2 _ (H6 hk);have hRa:=Jl ra (by simp [g3]);have hRb:=Jl rb (by simp [g4]);refine au3 n k (O l) j id ra rb H x (Y l k) cs0 _ _ _ _ _ _ _ _ h0 hj hid hk g1 g2 g6 g7 g5 V V V ?_;generalize hr1:x4.cells (eG ((Y l k).row.set j x.val))=r1;generalize Sh:x4.cells (fO ((Y l k).seq.set j x.seq))=r2;have f1:∀y,y≠ra->y≠rb->((H.set ra r1).set rb r2)[y]? =H[y]? :=λy a1 a2=>by rw [x3 (Ne.symm a2),x3 (Ne.symm a1)]
    have k1:((H.set ra r1).set rb r2)[ra]? =J r1:=by rw [x3 (Ne.symm g5),E9 V]
    have k2:((H.set ra r1).set rb r2)[rb]? =J r2:=by rw [E9 D]
    have all:=g8 ((H.set ra r1).set rb r2) ((Y l k).row.set j x.val) ((Y l k).seq.set j x.seq) U U (by rw [hr1];exact k1) (by rw [Sh];exact k2) λy _ a1 a2=>f1 y a1 a2
    have eu:Tj l k x=l.set k ⟨(Y l k).row.set j x.val,(Y l k).seq.set j x.seq,(Y l k).day⟩:=by simp [Tj,hj]
    have YC:eO ((H.set ra r1).set rb r2) (.s6 id 3 0 (O l)) (R6 l k x) (id::YU):= .inr ⟨id,cs0,YU,by rw [uy,eu,List.length_set],rfl,(f1 id (hne ra g3).symm (hne rb g4).symm).trans hid,by rw [uy,eu];exact all⟩;refine fin _ _ _ _ _ _ _ _ _ _ _ _ (λy hy=>f1 y ?_ ?_) ((f1 1 V V).trans (by rw [uU hv];exact h1)) YC
    .rintro rfl
     rcases N9.1 hy with hy|hy
     .exact Nd.1.2.2 _ hy _ (.inr g3) rfl
     .exact Nd.2.2 _ (.inr (.inr g3)) _ hy rfl
    .rintro rfl
     rcases N9.1 hy with hy|hy
     .exact Nd.1.2.2 _ hy _ (.inr g4) rfl
     .exact Nd.2.2 _ (.inr (.inr g4)) _ hy rfl
   .have uy:R6 l k x=sS l k:=by simp [R6,ho,h,h2]
    refine ak5 n i k (O l) H x oc cs _ _ _ _ _ _ _ _ h0 h1 hL Ih hi hin hl hk hok.1 ?_;obtain ⟨j1,j2,q1,q2,q3,q4⟩:=hR.cut k;obtain ⟨m1,m2,p1,p2,p3,p4⟩:=hR.cut (k+1);have UA:=Ad hok (Int.natCast_nonneg k) V;generalize hX:[x4.dead,.dead,.cells (cs.take (k * 3)++cs.drop ((k+1) * 3))]=X;generalize hc:x4.cells (oc.set i (.s6 (O H+2) 3 0 (O l - 1)))=c0;have f2:∀y,y<O H->y≠1->(H.set 1 c0++X)[y]? =H[y]? :=λy hy hne=>by rw [dJ (by simpa using hy),x3 (Ne.symm hne)]
    have all:=(q1.mono λy hy=>by have:=hi1 y (q3 y hy);exact f2 y this.2 V).append (p2.mono λy hy=>by have:=hi1 y (p4 y hy);exact f2 y this.2 V);have hcr:sS l k=l.take k++l.drop (k+1):=by simp [sS]
    have hX2:(H.set 1 c0++X)[O H+2]? =J (.cells (cs.take (k * 3)++cs.drop ((k+1) * 3))):=by
     have:=mH (H.set 1 c0) X 2;rw [List.length_set] at this;rw [this,<- hX];rfl
    have YC:eO (H.set 1 c0++X) (.s6 (O H+2) 3 0 (O l - 1)) (R6 l k x) ((O H+2)::(j1++m2)):= .inr ⟨_,_,_,by
     have:O (R6 l k x)=O l - 1:=by rw [uy];omega
     rw [this],rfl,hX2,by rw [uy,hcr];exact all⟩
    refine fin _ _ _ _ _ _ _ _ _ _ _ _ (λy hy=>by have:=Sf y hy;exact f2 y V V) ?_ YC;rw [dJ D,E9 V,hc]
def bo9 (w:Nat->Nat)(n:Nat)(ts:List (List W9))(x:iN)(hn:O ts=n)(hn2:n<=1000)(hT:OkT w ts)(hx:OkC n w x)(hw:∀i,i<n->1<=w i/\w i<=100):Pf A 123 [.d (V6 ts),.agg (x.enc.map .d)] (.d (V6 (au ts x))):=by
 subst hn;obtain ⟨i,hi⟩:∃i:Nat,x.U1=i:=⟨x.U1.toNat,by have:=hx.t0;omega⟩;have hin:i<O ts:=by have:=hx.t1;omega
 have hit:x.U1.toNat=i:=V
 have hok:=hT i V;obtain ⟨v0,H,⟨rfl,h0,oc,ids,hC⟩,pc⟩:=aA7 ts (.cells (x.enc.map .d)) (tV x.enc) V (λj hj=>qh (by have:=(hT j hj).1;omega)) (λj hj k hk=>by
  have h1:=(hT j hj).2 _ (H6 hk);have h2:=hw j V;exact ⟨decide_eq_true (s5 (I8 _ (show 2 * O (Y (Y ts j) k).row+512<=2512 by omega)) (by decide)),af9 V⟩)
 obtain ⟨h1,hTs,hnd,hlt,YR⟩:=hC;have hW:F3 H<=O H:=V
 have h1L:=BJ h1;have Ih:O oc=O ts:=hTs.len;have aC1 :=hTs;rw [SY (by omega:i<O ts)] at aC1;obtain ⟨v,i0,i1,i2,ev,Uf,Ho,hput⟩:=aC1.split;have eA:O (ts.take i)=i:=by rw [P3];omega
 rw [eA] at ev hput;obtain ⟨cs,ids',hl,hR,hsub,_,hform⟩:=Ho.lv hW;have rest:=ZH w (O ts) i (ou (Y ts i) (zJ x)) ts x (Y ts i) H oc v ids i0 i1 i2 (.d (V6 ts)) (.agg (x.enc.map .d)) .any .any .any rfl hn2 hT hx hw hi rfl rfl h0 h1 V Ih hTs (λy hy=>hlt y hy) hnd hW Uf ev Ho hput;have r3:rd H 0 (0+3) 1=J [.d (Z x.U1)]:=cN h0 rfl;have rv:rd H 1 (0+x.U1.toNat * 1) 1=J [v]:=cN h1 (by rw [hit];simpa using ev);have r12:rd H 0 0 12=J (x.enc.map .d):=by simp [rd,h0,iN.enc]
 have hrow:x.op=1->0<O x.row:=λe=>by
  have:=hx.row;rw [if_pos e,hit] at this;have:=(hw i hin).1;omega
 have pk:=aq5 x hrow;refine Pf.go 8 ?_;refine Ex.seq ?_;refine Ex.region (Rn.text ?_);refine gx ?_;refine mn (h2:=?_);refine gx ?_;refine Ex.seq ?_;refine Ex.region (Rn.text ?_);refine gx ?_;refine cp pc (by show 1<=O H;omega) ?_;refine gx ?_;refine gx ?_;refine Ex.seq ?_;refine Ex.region (Rn.text ?_);refine gx ?_;refine gx ?_;refine XX r3 rfl ?_;refine XV (e:=x.U1) (len:=O ts) V ?_;refine lpa rv rfl ?_;refine mt (hx:=⟨rfl,hl.zY⟩) (h2:=?_);refine gx ?_;refine Ex.seq ?_;refine Ex.region (Rn.text ?_);refine mv ?_ ⟨rfl,hl.zY⟩;refine Pa r12 rfl ?_;refine cl pk ?_
 rcases hform with e|⟨id,hid,e⟩
 .have h00:O (Y ts i)=0:=by
   rcases hl.De with ⟨_,h⟩|⟨id,h,_⟩
   .exact h
   .rw [e] at h
    cases h
  have pz:=aq7 (Y ts i) (zJ x) V;have ez:zQ (Y ts i)= .slice 0 []:=by rw [List.eq_nil_of_length_eq_zero h00];rfl
  rw [ez] at pz;refine cl pz ?_ (ha:=?_)
  .refine gx ?_
   refine gx ?_;exact rest
  .show [v.K9.K9,.agg ((zJ x).enc.map .d)]=_
   rw [e];rfl
 .have bj0:H[id]? =J (.cells cs):=by
   rcases hl.De with ⟨h,_⟩|⟨id',h,h'⟩
   .rw [e] at h
    cases h
   .rw [e] at h
    cases h;exact h'
  have hmem:id∈ids:=by rw [Uf];simp [hid]
  obtain ⟨tp1,tp2⟩:=YR.resolve_left λh=>by rw [h.1] at hmem;cases hmem
  have YH:=hlt id hmem;obtain ⟨_,_,⟨rfl,rfl⟩,pf⟩:=aH3 H ⟨0,O H,O H,B5 H 0 (O H)⟩ id cs ids' (Y ts i) (zJ x) (by have:=hok.1;omega) bj0 hR λy hy=>(hlt y (by rw [Uf];simp [hsub y hy])).2
  have eb:A8 [c7.s6 id 3 0 (O (Y ts i)),.agg ((zJ x).enc.map .d)]=id+1:=by simp [A8,c7.J4,tV]
  refine c1 pf rfl ?_ (by rw [List.take_length];exact hW) ?_ (List.take_length ..) (Nat.ble_eq_true_of_le (k9 _)) rfl ?_
  .refine gx ?_
   refine gx ?_;exact rest
  .rw [eb]
   have:=MM h1 (n:=id+1) V V V 6;rw [tp2] at this;exact this
  .show [v.K9.K9,.agg ((zJ x).enc.map .d)]=_
   rw [e];rfl
end Go.Proofs.YtibjocmpkoepoaaGreat


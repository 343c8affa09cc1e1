import Derived.Test.YtibjocmpkoepoaaGreatAbs
set_option linter.all false
open Bool renaming and_eq_true→c8,false_eq_true→e8,true→W,false→F
open List renaming all_eq_true→L4,append_assoc→M3,getElem?_append_left→s8,getElem?_eq_getElem→n5,getElem?_set_ne→q8,getElem?_set_self→C7,getElem_of_mem→O8,length_append→s9,length_cons→q7,length_map→C5,length_take→P7,map_cons→M8,mem_cons→C4,replicate→c9,set_cons_succ→A8,take_of_length_le→y6,length→O
open Nat renaming le_refl→o6,le_trans→A3,lt_or_ge→x9,mul_le_mul_right→K4,zero_le→A4
open Option renaming some→J,none→K
namespace Go.B3
structure Vl where
 k:Int
 n:Int
 t:M6
 deriving DecidableEq,Inhabited
def Vl.enc (v:Vl):List Data:=[Z v.k,Z v.n,.str v.t]
structure X9 where
 row:List Vl
 seq:List Int
 day:Int
 deriving DecidableEq,Inhabited
def X9.enc (r:X9):List Data:=[B8 Vl.enc r.row,B8 (λn=>[Z n]) r.seq,Z r.day]
def AN (l:List X9):Data:=B8 X9.enc l
def V9 (ts:List (List X9)):Data:=B8 (λl=>[AN l]) ts
def fe (r:List Vl):List c7:=(r.flatMap Vl.enc).map .d
def eD (s:List Int):List c7:=(s.flatMap λn=>[Z n]).map .d
def O4 (H:n9):List c7->List X9->List Nat->Prop
 |cs,[],ids=>cs=[]/\ids=[]
 |cs,r::rs,ids=>∃a b cs' ids',cs= .s5 a 3 0 (O r.row):: .s5 b 1 0 (O r.seq):: .d (Z r.day)::cs' /\ids=a::b::ids' /\H[a]? =J (.cells (fe r.row))/\H[b]? =J (.cells (eD r.seq))/\O4 H cs' rs ids'
def fo (H:n9)(v:c7)(rs:List X9)(ids:List Nat):Prop :=
 (rs=[]/\v= .H7/\ids=[])\/∃id cs ids',v= .s5 id 3 0 (O rs)/\ids=id::ids' /\H[id]? =J (.cells cs)/\O4 H cs rs ids'
def Y7 (H:n9):List c7->List (List X9)->List Nat->Prop
 |vs,[],ids=>vs=[]/\ids=[]
 |vs,t::ts,ids=>∃v vs' i1 i2,vs=v::vs' /\ids=i1++i2/\fo H v t i1/\Y7 H vs' ts i2
theorem O4.mono {H H' :n9}:∀{rs:List X9} {cs:List c7} {ids:List Nat},(∀i∈ids,H'[i]? =H[i]?)->O4 H cs rs ids->O4 H' cs rs ids
 |[],_,_,_,h=>h
 |r::rs,_,_,hm,⟨a,b,cs',ids',e1,e2,h1,h2,h3⟩=>by
  subst e2;exact ⟨a,b,cs',ids',e1,rfl,(hm a U).trans h1,(hm b U).trans h2,O4.mono (λi hi=>hm i (by simp [hi])) h3⟩
theorem fo.mono {H H' :n9}{v:c7}{rs:List X9}{ids:List Nat}(hm:∀i∈ids,H'[i]? =H[i]?)(h:fo H v rs ids):fo H' v rs ids:=by
 rcases h with h|⟨id,cs,ids',rfl,rfl,h1,h2⟩
 .exact .inl h
 .exact .inr ⟨id,cs,ids',rfl,rfl,(hm id U).trans h1,h2.mono λi hi=>hm i (by simp [hi])⟩
theorem Y7.mono {H H' :n9}:∀{ts:List (List X9)} {vs:List c7} {ids:List Nat},(∀i∈ids,H'[i]? =H[i]?)->Y7 H vs ts ids->Y7 H' vs ts ids
 |[],_,_,_,h=>h
 |t::ts,_,_,hm,⟨v,vs',i1,i2,e1,e2,h1,h2⟩=>by
  subst e2;exact ⟨v,vs',i1,i2,e1,rfl,h1.mono λi hi=>hm i (by simp [hi]),Y7.mono (λi hi=>hm i (by simp [hi])) h2⟩
theorem O4.len {H:n9}:∀{rs:List X9} {cs:List c7} {ids:List Nat},O4 H cs rs ids->O cs=O rs * 3
 |[],_,_,h=>by simp [h.1]
 |r::rs,_,_,⟨a,b,cs',ids',e1,e2,h1,h2,h3⟩=>by
  have:=h3.len
  grind
theorem O4.append {H:n9}:∀{rs rs2:List X9} {cs cs2:List c7} {ids Lj:List Nat},O4 H cs rs ids->O4 H cs2 rs2 Lj->O4 H (cs++cs2) (rs++rs2) (ids++Lj)
 |[],_,_,_,_,_,h,h2=>by
  obtain ⟨rfl,rfl⟩:=h;exact h2
 |r::rs,_,_,_,_,_,⟨a,b,cs',ids',e1,e2,h1,h2,h3⟩,h4=>by
  subst e1 e2;exact ⟨a,b,cs' ++_,ids' ++_,rfl,rfl,h1,h2,h3.append h4⟩
theorem O4.F4 {H:n9}:∀{rs:List X9} {cs:List c7} {ids:List Nat},O4 H cs rs ids->cs.map c7.F4=cs
 |[],_,_,h=>by simp [h.1]
 |r::rs,_,_,⟨a,b,cs',ids',e1,e2,h1,h2,h3⟩=>by
  subst e1;simp only [M8,h3.F4];rfl
theorem Y7.len {H:n9}:∀{ts:List (List X9)} {vs:List c7} {ids:List Nat},Y7 H vs ts ids->O vs=O ts
 |[],_,_,h=>by simp [h.1]
 |t::ts,_,_,⟨v,vs',i1,i2,e1,e2,h1,h2⟩=>by
  subst e1;simp [h2.len]
theorem Y7.split {H:n9}:∀{A i4:List (List X9)} {p:List X9} {vs:List c7} {ids:List Nat},Y7 H vs (A++p::i4) ids ->
  ∃v i0 i1 i2,vs[O A]? =J v/\ids=i0++i1++i2/\fo H v p i1/\∀(H' :n9) (v' :c7) (p' :List X9) (Rr :List Nat),(∀i∈i0++i2,H'[i]? =H[i]?)->fo H' v' p' Rr ->Y7 H' (vs.set (O A) v') (A++p' ::i4) (i0++Rr ++i2)
 |[],i4,p,_,_,⟨v,vs',i1,i2,e1,e2,h1,h2⟩=>by
  subst e1 e2;exact ⟨v,[],i1,i2,rfl,rfl,h1,λH' v' p' Rr hm h=>⟨v',vs',Rr,i2,rfl,rfl,h,h2.mono λi hi=>hm i (by simp [hi])⟩⟩
 |a::A,i4,p,_,_,⟨v,vs',i1,i2,e1,e2,h1,h2⟩=>by
  subst e1 e2;obtain ⟨u,j0,j1,j2,g1,g2,g3,g4⟩:=Y7.split h2;refine ⟨u,i1++j0,j1,j2,g1,M,g3,λH' v' p' Rr hm h=>?_⟩;exact ⟨v,_,i1,j0++Rr ++j2,rfl,M,h1.mono λi hi=>hm i (by simp [hi]),g4 H' v' p' Rr (λi hi=>hm i M) h⟩
def fo.snoc {H:n9}{v:c7}{rs:List X9}{ids:List Nat}{r:X9}{H' :n9}{id a b:Nat}{cs:List c7}(h:fo H v rs ids)(hcs:(rs=[]/\cs=[])\/∃id0,v= .s5 id0 3 0 (O rs)/\H[id0]? =J (.cells cs))
  (hm:∀i∈ids.drop 1,H'[i]? =H[i]?) (ha:H'[a]? =J (.cells (fe r.row))) (hb:H'[b]? =J (.cells (eD r.seq)))
  (hid:H'[id]? =J (.cells (cs++[.s5 a 3 0 (O r.row),.s5 b 1 0 (O r.seq),.d (Z r.day)]))):fo H' (.s5 id 3 0 (O rs+1)) (rs++[r]) (id::(ids.drop 1++[a,b])):=by
 have h1:O4 H' [.s5 a 3 0 (O r.row),.s5 b 1 0 (O r.seq),.d (Z r.day)] [r] [a,b]:=⟨a,b,[],[],rfl,rfl,ha,hb,rfl,rfl⟩;refine .inr ⟨id,_,_,U,rfl,hid,?_⟩
 rcases h with ⟨rfl,rfl,rfl⟩|⟨id1,cs1,ids',rfl,rfl,g1,g2⟩
 .simp_all
 .obtain rfl:cs1=cs:=by
   rcases hcs with h|⟨id0,h,h'⟩
   .obtain ⟨rfl,rfl⟩:=h
    exact g2.1
   simp_all
  exact (g2.mono hm).append h1
attribute [local irreducible] Rl
def qW (H X:n9)(j:Nat)(c:B4):(H++X).set (O H+j) c=H++X.set j c:=U
theorem mK (H X:n9)(j:Nat):(H++X)[O H+j]? =X[j]? :=by grind
def bX {H X:n9}{j:Nat}(h:j<O H):(H++X)[j]? =H[j]? :=s8 h
def VO {H X:n9}{j:Nat}(c:B4)(h:j<O H):(H++X).set j c=H.set j c++X:=by simp [h]
def Rn.Fe {A:Prog}{l:H8}{b:Nat}{ops:List o4}{Q:List c7->n9->List c7->Prop}{T:List c7}{H:n9}(na:Nat)(H' :n9)(o5:List Touch)(hn:O H=na)(hH:H++Z2 ops=H')(hs:slotsOf ops=o5)(h:Rl A l b ops ops T H' 0 [] o5 na [] Q):Rn A l b ops W T H Q:=by
 grind [Rn.bL2]
theorem uU:∀l:List Data,C0 (l.map .d)=0
 |[]=>rfl
 |_::l=>by simp [C0,c7.K9,uU l]
def Jh (l:List Data):(l.map c7.d).all c7.one=W:=by simp [c7.one]
def Js (r:List Vl):O (r.flatMap Vl.enc)=O r * 3:=by
 induction r with
 |nil=>rfl
 |cons a r ih=>rw [List.flatMap_cons,s9,ih,q7,show O a.enc=3 from rfl];omega
def Br (r:List Int):O (r.flatMap λn=>[Z n])=O r:=by
 induction r with
 |nil=>rfl
 |cons a r ih=>simp_all
def Zm (H:n9)(r:List Vl):C1 H 3 (.d (B8 Vl.enc r))=J (O r,fe r):=by
 simp only [C1,B8,Js,if_true,fe]
def aQ4 (H:n9)(r:List Int):C1 H 1 (.d (B8 (λn=>[Z n]) r))=J (O r,eD r):=by
 simp only [C1,B8,Br,Nat.mul_one,if_true,eD]
def rd1 {oc:List c7}{i:Nat}{v:c7}(h:oc[i]? =J v):(if i+1<=O oc then J ((oc.drop i).take 1) else K)=J [v]:=by
 obtain ⟨h1,h2⟩:=List.getElem?_eq_some_iff.1 h;rw [if_pos V,List.drop_eq_getElem_cons h1,h2];rfl
namespace S
variable {A:Prog} {l:H8} {b:Nat} {j9 ops:List o4} {T:List c7} {H:n9} {n:Nat} {rl:List c7} {o5:List Touch} {na:Nat} {lg:List jx} {Q:List c7->n9->List c7->Prop}
def yb' {sz len:Nat}{zero:List c7}{ps:List (Nat×Nat×z6)}{u:List Nat}(Yr :Nat)(cs:List c7)(H2:n9)(hr:bB zero (ps.map λp=>(p.1,p.2.1,rq T n rl p.2.2))=J cs)(hl:0<sz/\O cs=len * sz)(hH:H.set na (.cells cs)=H2)(hn:na+1=Yr)
  (h2:Rl A l b j9 ops T H2 (n+1) (.s5 na sz 0 len::rl) o5 Yr (⟨[],[.obj na],0,na⟩::lg) Q):Rl A l b j9 (⟨.J3 sz len zero ps W,K,K,u⟩::ops) T H n rl o5 na lg Q:=by
 grind [yb]
def ya' {sz bytes id len m:Nat}{x y:z6}{u:List Nat}{cs l0:List c7}{w:c7}(y4 t sb:Nat)(H2:n9)(hx:rq T n rl x= .s5 id sz 0 len)(hy:rq T n rl y=w)(hO:H[id]? =J (.cells l0))(hc:C1 H sz w=J (m,cs))(hmay:l.may id=W)
  (aU:len * sz=O l0/\roomFor (len+m) bytes=W/\C0 cs<=O H/\cs.all c7.one=W/\0<sz) (hH:H.set id .dead++[.cells (l0.map c7.F4++cs)]=H2) (hN:O H=y4) (ht:len+m=t) (hs:max (id+1) w.K9=sb)
  (h2:Rl A l b j9 ops T H2 (n+1) (.s5 y4 sz 0 t::rl) (.obj y4:: .obj id::o5) na (⟨[],[.obj y4,.obj id],sb,0⟩::lg) Q):Rl A l b j9 (⟨.J9 sz bytes x y,K,K,u⟩::ops) T H n rl o5 na lg Q:=by
 grind [ya]
def bU0 {sz bytes j j2 id off m:Nat}{y:z6}{u:List Nat}{a:o4}{cs l0:List c7}{w:c7}(y4:Nat)(H2:n9)(hL:lk n rl j=J (.d (.slice 0 [])))(ha:j9[j]? =J a)(hz:a.op= .load K (.loc j2))(hp:lk n rl j2=J (.ptr id off))(ht:o5.any (Touch.aR id off)=F)(hmay:l.may id=W)
  (hO:H[id]? =J (.cells l0)) (h0:l0[off]? =J .H7) (hy:rq T n rl y=w) (hc:C1 H sz w=J (m,cs)) (aU:roomFor m bytes=W/\0<sz) (hm:m≠0) (hH:H++[.cells cs]=H2) (hN:O H=y4)
  (h2:Rl A l b j9 ops T H2 (n+1) (.s5 y4 sz 0 m::rl) (.obj y4::o5) na (⟨[],[.obj y4],w.K9,0⟩::lg) Q):Rl A l b j9 (⟨.J9 sz bytes (.loc j) y,K,K,u⟩::ops) T H n rl o5 na lg Q:=by
 grind [ya0]
end S
def Bw (old:List c7)(off:Nat)(v:c7)(hq:off<O old):splice old off [v]=old.set off v:=by
 simp_all [splice,List.length_singleton,List.set_eq_take_append_cons_drop,if_pos]
def gW (H:n9):c7->n9
 | .s5 id _ _ _=>H.set id .dead
 |_=>H
def fJ (L:Nat)(r:X9)(cs:List c7):n9 :=
 [.cells (r.enc.map .d),.dead,.dead,.cells [.s5 (L+4) 3 0 (O r.row),.s5 (L+5) 1 0 (O r.seq),.d (Z r.day)],.cells (fe r.row),.cells (eD r.seq),.cells (cs++[.s5 (L+4) 3 0 (O r.row),.s5 (L+5) 1 0 (O r.seq),.d (Z r.day)])]
def AK {H:n9}{o:Nat}{c:B4}(ho:H[o]? =J c):o<O H:=by
 grind
end Go.B3
namespace Go.Proofs.YtibjocmpkoepoaaGreat
open Go.B3 Go.B3.S
attribute [local irreducible] Rx Ry Rn Ex Pf Rl
def aW9 (ts:List (List X9))(i k o n m:Nat)(H:n9)(w1 w5 v:c7)(cs:List c7)(Q:E6->St->Prop)(hi:i<O ts)(hk:k<O (Y ts i))(oc:List c7)(ho:H[o]? =J (.cells oc))(hin:i<n)(IM:O oc=n)(hn:oc[i]? =J v)
  (hv:(v= .H7/\m=0/\cs=[])\/∃id,v= .s5 id 3 0 m/\id≠o/\H[id]? =J (.cells cs)/\O cs=m * 3/\cs.map c7.F4=cs) (h0:roomFor (m+1) 56=W)
  (h1:roomFor (O (Y (Y ts i) k).row) 32=W) (h2:roomFor (O (Y (Y ts i) k).seq) 8=W)
  (hq:Q .normal ⟨[.d (V9 ts),w1,.s5 o 1 0 n,.d (Z i),.d (Z k),.ptr (O H) 0],(gW H v).set o (.cells (oc.set i (.s5 (O H+6) 3 0 (m+1))))++fJ (O H) (Y (Y ts i) k) cs⟩) :
  Ex A Q9 1 (match a182.body with
   | .seq _ (.seq _ (.seq (.seq _ (.block _ (.loop _ (.seq _ (.seq (.block _ (.seq _ (.block _ (.loop _ (.seq _ (.seq b _)))))) _))))) _))=>b
   |c=>c) ⟨[.d (V9 ts),w1,.s5 o 1 0 n,.d (Z i),.d (Z k),w5],H⟩ Q:=by
 have hoL:=AK ho;generalize hr:Y (Y ts i) k=r at h1 h2 hq;refine gr ?_;rw [hr];refine ac (hi:=rfl) (hH:=rfl) (h2:=?_);refine so (ho:=mK H [_] 0) (H2:=H++[.cells (r.enc.map .d)]) (hH:=qW H [_] 0 _) (h2:=?_);refine nl ?_;refine Ex.region (Rn.Fe (O H+1) (H++[.cells (r.enc.map .d),.dead,.dead,.dead]) [] U (by simp;rfl) rfl ?_);refine ym ?_;refine ym ?_;refine ym ?_;refine ym ?_;refine yp (rs:=[]) (.ptr o i) (by simp [l8,rq,LR,lk,hin,Z,c7.F4]) ?_;refine yp (rs:=[o]) v.F4 (by simp [l8,rq,LR,lk,rd,bX hoL,ho,c7.F4,rd1 hn]) ?_;refine yb' (O H+2) [] (H++[.cells (r.enc.map .d),.cells [],.dead,.dead]) rfl U (qW H _ 1 _) rfl ?_;refine yp (rs:=[]) (.ptr (O H) 0) rfl ?_;refine yp (rs:=[O H]) (.d (B8 Vl.enc r.row)) (by simp [l8,rq,LR,lk,rd,X9.enc,c7.F4]) ?_;refine ya' (O H+4) (O r.row) (O H+2) (H++[.cells (r.enc.map .d),.dead,.dead,.dead,.cells (fe r.row)]) rfl rfl (mK H _ 1) (Zm _ _) rfl ⟨U,M,by rw [fe,uU];omega,Jh _,U⟩ M U U (Nat.max_eq_left (A4 _)) ?_;refine yb' (O H+3) [] (H++[.cells (r.enc.map .d),.dead,.cells [],.dead,.cells (fe r.row)]) rfl U (qW H _ 2 _) rfl ?_;refine yp (rs:=[]) (.ptr (O H) 1) rfl ?_;refine yp (rs:=[O H]) (.d (B8 (λn=>[Z n]) r.seq)) (by simp [l8,rq,LR,lk,rd,X9.enc,c7.F4]) ?_;refine ya' (O H+5) (O r.seq) (O H+3) (H++[.cells (r.enc.map .d),.dead,.dead,.dead,.cells (fe r.row),.cells (eD r.seq)]) rfl rfl (mK H _ 2) (aQ4 _ _) rfl ⟨U,M,by rw [eD,uU];omega,Jh _,U⟩ M U U (Nat.max_eq_left (A4 _)) ?_;refine yp (rs:=[]) (.ptr (O H) 2) rfl ?_;refine yp (rs:=[O H]) (.d (Z r.day)) (by simp [l8,rq,LR,lk,rd,X9.enc,c7.F4]) ?_;refine yp (rs:=[]) (.agg [.s5 (O H+4) 3 0 (O r.row),.s5 (O H+5) 1 0 (O r.seq),.d (Z r.day)]) rfl ?_;refine yb' (O H+4) _ (H++[.cells (r.enc.map .d),.dead,.dead,.cells [.s5 (O H+4) 3 0 (O r.row),.s5 (O H+5) 1 0 (O r.seq),.d (Z r.day)],.cells (fe r.row),.cells (eD r.seq)]) rfl ⟨by decide,rfl⟩ (qW H _ 3 _) rfl ?_
 rcases hv with ⟨rfl,rfl,rfl⟩|⟨id,rfl,hne,hid,hcs,has⟩
 .refine bU0 (j2:=4) (w:= .s5 (O H+3) 3 0 1) (m:=1) (cs:=[.s5 (O H+4) 3 0 (O r.row),.s5 (O H+5) 1 0 (O r.seq),.d (Z r.day)]) (O H+6) (H++fJ (O H) r []) rfl rfl rfl rfl ?_ rfl ((bX hoL).trans ho) hn rfl ?_ (by decide) U (by simp [fJ]) U ?_
  .grind [Touch.aR]
  .simp [C1,rd,c7.F4]
  refine yp (rs:=[]) (.ptr o i) (by simp [l8,rq,LR,lk,hin,Z,c7.F4]) ?_;refine ys rfl ⟨rfl,rfl⟩ rfl rfl rfl (.inr ⟨A4 _,A4 _⟩) ?_ ?_ (H2:=H.set o (.cells (oc.set i (.s5 (O H+6) 3 0 1)))++fJ (O H) r [])
  .simp only [wr,bX hoL,ho,List.length_singleton,VO _ hoL]
   rw [if_pos V,Bw _ _ _ V]
  refine yn hq ?_;simp [fK,I9,Touch.G8,s7.makes,s7.A6,c7.K9];omega
 .have UU:=AK hid
  refine ya' (w:= .s5 (O H+3) 3 0 1) (m:=1) (cs:=[.s5 (O H+4) 3 0 (O r.row),.s5 (O H+5) 1 0 (O r.seq),.d (Z r.day)]) (O H+6) (m+1) _ (H.set id .dead++fJ (O H) r cs) rfl rfl ((bX UU).trans hid) ?_ rfl ⟨hcs.symm,h0,?_,?_,U⟩ ?_ U rfl rfl ?_
  .simp [C1,rd,c7.F4]
  .simp [C0,c7.K9]
  .rfl
  .simp_all [VO,fJ]
  refine yp (rs:=[]) (.ptr o i) (by simp [l8,rq,LR,lk,hin,Z,c7.F4]) ?_;have hL:O (H.set id .dead)=O H:=List.length_set ..;refine ys rfl ⟨rfl,rfl⟩ rfl rfl rfl (.inr ⟨A4 _,A4 _⟩) ?_ ?_ (H2:=(H.set id .dead).set o (.cells (oc.set i (.s5 (O H+6) 3 0 (m+1))))++fJ (O H) r cs)
  .have:(H.set id .dead++fJ (O H) r cs)[o]? =J (.cells oc):=by
    grind
   simp only [wr,this,List.length_singleton,VO _ (hL ▸ hoL)];rw [if_pos V,Bw _ _ _ V]
  refine yn hq ?_;simp [fK,I9,Touch.G8,s7.makes,s7.A6,c7.K9];omega
end Go.Proofs.YtibjocmpkoepoaaGreat
namespace Go.B3
def QI {l:List c7}{v:c7}(h:v∈l):v.K9<=C0 l:=by
 obtain ⟨i,hi,rfl⟩:=O8 h;exact ql l i _ (n5 hi)
def sj {l:List B4}{v:B4}(h:v∈l):v.K9<=Q5 l:=by
 induction l with
 |nil=>cases h
 |cons a l ih =>
  grind [Q5]
theorem qm:∀a b:n9,Q5 (a++b)=max (Q5 a) (Q5 b)
 |[],b=>by simp [Q5]
 |x::a,b=>by simp [Q5,qm a b]
theorem qn:∀(H:n9) (i:Nat) (c:B4),Q5 (H.set i c)<=max (Q5 H) c.K9
 |[],_,_=>by simp [Q5]
 |x::H,0,c=>by grind [Q5]
 |x::H,i+1,c=>by
  have:=qn H i c
  grind [Q5]
theorem yE:∀(l:List c7) (i:Nat) (v:c7),C0 (l.set i v)<=max (C0 l) v.K9
 |[],_,_=>by simp [C0]
 |x::H,0,c=>by grind [C0]
 |x::H,i+1,c=>by
  have:=yE H i c
  grind [C0]
theorem BM:∀a b:List c7,C0 (a++b)=max (C0 a) (C0 b)
 |[],b=>by simp [C0]
 |x::a,b=>by simp [C0,BM a b]
def Vg (H:n9)(v:c7):Q5 (gW H v)<=Q5 H:=by
 cases v with
 |s5 id _ _ _=>exact A3 (qn H id .dead) (by simp [B4.K9])
 |_=>exact o6 _
theorem FX (H:n9)(v:c7):O (gW H v)=O H:=by cases v<;>simp [gW]
def Vs (L:Nat)(r:X9)(cs:List c7):Q5 (fJ L r cs)=max (C0 cs) (L+6):=by
 have e1:=uU (r.row.flatMap Vl.enc);have e2:=uU (r.seq.flatMap λn=>[Z n]);have e3:=uU r.enc;simp [fJ,Q5,B4.K9,fe,eD,BM,C0,c7.K9];omega
def aa6 {H:n9}{o i m:Nat}{oc cs:List c7}(v:c7)(r:X9)(ho:o<O H)(hi:i<O oc)(hW:Q5 H<=O H)(IM:C0 oc<=O H)(hcs:C0 cs<=O H) :
  C0 (oc.set i (.s5 (O H+6) 3 0 m))=O H+7/\Q5 ((gW H v).set o (.cells (oc.set i (.s5 (O H+6) 3 0 m)))++fJ (O H) r cs)=O H+7:=by
 have h1:=yE oc i (.s5 (O H+6) 3 0 m);have h2:(c7.s5 (O H+6) 3 0 m).K9<=C0 (oc.set i (.s5 (O H+6) 3 0 m)):=QI (List.mem_set hi _);have h3:(c7.s5 (O H+6) 3 0 m).K9=O H+7:=rfl;have h4:=Vg H v;have h5:=qn (gW H v) o (.cells (oc.set i (.s5 (O H+6) 3 0 m)));have h6:(B4.cells (oc.set i (.s5 (O H+6) 3 0 m))).K9<=Q5 ((gW H v).set o (.cells (oc.set i (.s5 (O H+6) 3 0 m)))):=sj (List.mem_set (by grind [FX]) _);have h7:(B4.cells (oc.set i (.s5 (O H+6) 3 0 m))).K9=C0 (oc.set i (.s5 (O H+6) 3 0 m)):=rfl;rw [qm,Vs];omega
def Ib (H:n9)(o:Nat)(oc:List c7)(ts:List (List X9))(ids:List Nat):Prop :=
 H[o]? =J (.cells oc)/\Y7 H oc ts ids/\ids.Nodup/\(∀x∈ids,o<x/\x<O H)/\((ids=[]/\Q5 H=0)\/(C0 oc=O H/\Q5 H=O H))
def Ib.step {H:n9}{o:Nat}{oc:List c7}{A i4:List (List X9)}{p:List X9}{ids:List Nat}(r:X9)(h:Ib H o oc (A++p::i4) ids) :
  ∃v cs,oc[O A]? =J v/\((v= .H7/\O p=0/\cs=[])\/∃id,v= .s5 id 3 0 (O p)/\id≠o/\H[id]? =J (.cells cs)/\O cs=O p * 3/\cs.map c7.F4=cs) /\
   ∃ids',Ib ((gW H v).set o (.cells (oc.set (O A) (.s5 (O H+6) 3 0 (O p+1))))++fJ (O H) r cs) o (oc.set (O A) (.s5 (O H+6) 3 0 (O p+1))) (A++(p++[r])::i4) ids' /\∀x,x<o->((gW H v).set o (.cells (oc.set (O A) (.s5 (O H+6) 3 0 (O p+1))))++fJ (O H) r cs)[x]? =H[x]? :=by
 obtain ⟨ho,ht,Wr,hlt,an9⟩:=h;have hoL:=AK ho;have hW:Q5 H<=O H:=V
 have bH3:C0 oc<=O H:=A3 (sj (v:= .cells oc) (List.mem_of_getElem? ho)) hW;obtain ⟨v,i0,i1,i2,e1,e2,h1,h2⟩:=Y7.split ht;subst e2;have key:∃cs,((v= .H7/\O p=0/\cs=[])\/∃id,v= .s5 id 3 0 (O p)/\id≠o/\H[id]? =J (.cells cs)/\O cs=O p * 3/\cs.map c7.F4=cs)/\((p=[]/\cs=[])\/∃id0,v= .s5 id0 3 0 (O p)/\H[id0]? =J (.cells cs)) /\
   (C0 cs<=O H)/\(∀x,x≠o->x<O H->(∀y,i1.head? =J y->x≠y)->∀c,((gW H v).set o c++fJ (O H) r cs)[x]? =H[x]?)/\O (gW H v)=O H:=by
  rcases h1 with ⟨rfl,rfl,rfl⟩|⟨id,cs,ids',rfl,rfl,g1,g2⟩
  .refine ⟨[],.inl ⟨rfl,rfl,rfl⟩,.inl ⟨rfl,rfl⟩,A4 _,λx hx hL _ c=>?_,rfl⟩
   simp_all [bX,gW,q8,Ne.symm]
  .have hid:=hlt id U
   refine ⟨cs,.inr ⟨id,rfl,V,g1,g2.len,g2.F4⟩,.inr ⟨id,rfl,g1⟩,A3 (sj (v:= .cells cs) (List.mem_of_getElem? g1)) hW,λx hx hL hne c=>?_,by simp [gW]⟩;simp_all [bX,gW,q8,Ne.symm]
 obtain ⟨cs,k1,k2,kb,k3,k4⟩:=key;have kL:∀c j,((gW H v).set o c++fJ (O H) r cs)[O H+j]? =(fJ (O H) r cs)[j]? :=λc j=>by
  grind [gW,set,mK]
 refine ⟨v,cs,e1,k1,_,⟨?_,h2 _ _ _ _ (λx hx=>?_) (h1.snoc k2 (λx hx=>?_) (kL _ 4) (kL _ 5) (kL _ 6)),?_,?_,.inr ?_⟩,λx hx=>k3 x V V (λy hy=>?_) _⟩
 .grind
 .have hb:=hlt x (by grind)
  refine k3 x V hb.2 (λy hy=>?_) _
  grind [List.mem_of_mem_head?,List.nodup_append]
 .have hx' :=List.mem_of_mem_drop hx
  have hb:=hlt x (by simp [hx']);refine k3 x V hb.2 (λy hy=>?_) _;cases i1 with
  |nil=>cases hy
  |cons a t =>
   grind
 .have hb:∀x,x∈i0\/x∈i1\/x∈i2->x<O H:=λx hx=>(hlt x M).2
  simp only [List.nodup_append,List.mem_append,List.nodup_cons,C4,List.not_mem_nil,or_false] at Wr ⊢
  grind
 .intro x hx
  have hsub:∀a,a∈i1.drop 1->a∈i1:=λa=>List.mem_of_mem_drop
  have hb:∀x,x∈i0\/x∈i1\/x∈i2->o<x/\x<O H:=λx hx=>hlt x M
  have hl:O ((gW H v).set o (.cells (oc.set (O A) (.s5 (O H+6) 3 0 (O p+1))))++fJ (O H) r cs)=O H+7:=by simp [k4,fJ]
  simp_all<;>grind
 .have:=aa6 (m:=O p+1) v r hoL (by grind:O A<O oc) hW bH3 kb
  simp_all [gW,set,fJ]
 .have hy' :y∈i1:=List.mem_of_mem_head? hy
  simp_all<;>grind
theorem Y7.H7 (H:n9):∀n:Nat,Y7 H (c9 n .H7) (c9 n []) []
 |0=>⟨rfl,rfl⟩
 |n+1=>⟨.H7,_,[],[],rfl,rfl,.inl ⟨rfl,rfl,rfl⟩,Y7.H7 H n⟩
theorem KI:∀l:List Data,L5 (l.map .d)=J l
 |[]=>rfl
 |_::l=>by simp [L5,c7.data?,KI l]
theorem XB (H:n9)(n:Nat):∀(l:List Data) (f:Nat),O l<f->X4 H n f (l.map .d)=J (l.map .d)
 |[],f+1,_=>rfl
 |x::l,f+1,h=>by
  have h:=XB H n l f (by simpa using h);simp only [M8,X4,h]
def XD {H:n9}{n f id sz len:Nat}{vs ws us us' :List c7}{xs:List Data}(hid:n<=id)(h:X4 H n f vs=J ws)(hc:H[id]? =J (.cells us))(hl:O us=len * sz)(hu:X4 H n f us=J us')(hx:L5 us' =J xs):X4 H n (f+1) (.s5 id sz 0 len::vs)=J (.d (.slice len xs)::ws):=by
 have hr:rd H id 0 (len * sz)=J us:=by
  simp [rd,hc,hl];rw [y6 V]
 simp only [X4,h,Nat.not_lt.2 hid,if_false,hr,hu,hx]
def XC {H:n9}{n f id sz len:Nat}{vs ws us:List c7}{xs:List Data}(hid:n<=id)(h:X4 H n f vs=J ws)(hc:H[id]? =J (.cells us))(hl:O us=len * sz)(hu:X4 H n f us=J (xs.map .d)):X4 H n (f+1) (.s5 id sz 0 len::vs)=J (.d (.slice len xs)::ws):=XD hid h hc hl hu (KI xs)
theorem O4.frz {H:n9}{n:Nat}:∀{rs:List X9} {cs:List c7} {ids:List Nat} {f:Nat},O4 H cs rs ids->(∀x∈ids,n<=x)->(∀r∈rs,O rs * 3+O r.row * 3<f/\O rs * 3+O r.seq<f)->0<f->X4 H n f cs=J ((rs.flatMap X9.enc).map .d)
 |[],_,_,f+1,h,_,_,_=>by
  rw [h.1];rfl
 |r::rs,_,_,f,⟨a,b,cs',ids',e1,e2,h1,h2,h3⟩,hn,hf,h0=>by
  subst e1 e2;have hf1:=hf r U;simp only [q7] at hf1;obtain ⟨g,rfl⟩:∃g,f=g+3:=⟨f - 3,V⟩;have ih:=h3.frz (n:=n) (f:=g) (λx hx=>hn x (by simp [hx])) (λr' hr' =>by
   have:=hf r' (by simp [hr']);simp only [q7] at this;omega) V
  have i1:X4 H n (g+1) (.d (Z r.day)::cs')=J (.d (Z r.day)::(rs.flatMap X9.enc).map .d):=by simp only [X4,ih]
  have i2:=XC (sz:=1) (len:=O r.seq) (hn b U) i1 h2 (by rw [eD,C5,Br,Nat.mul_one]) (XB H n _ _ (by rw [Br];omega));have i3:=XC (sz:=3) (len:=O r.row) (hn a U) i2 h1 (by rw [fe,C5,Js]) (XB H n _ _ (by rw [Js];omega));rw [List.flatMap_cons,List.map_append];exact i3
theorem fo.frz {H:n9}{n f:Nat}{v:c7}{rs:List X9}{ids:List Nat}{vs ws:List c7}(h:fo H v rs ids)(hn:∀x∈ids,n<=x)(hf:∀r∈rs,O rs * 3+O r.row * 3<f/\O rs * 3+O r.seq<f)(h0:0<f)(hw:X4 H n f vs=J ws):∃w,X4 H n (f+1) (v::vs)=J (w::ws)/\w.data? =J (AN rs):=by
 rcases h with ⟨rfl,rfl,rfl⟩|⟨id,cs,ids',rfl,rfl,h1,h2⟩
 .refine ⟨.H7,?_,rfl⟩
  simp only [X4,hw]
 .exact ⟨_,XC (hn id U) hw h1 h2.len (h2.frz (λx hx=>hn x (by simp [hx])) hf h0),rfl⟩
theorem Y7.frz {H:n9}{n:Nat}:∀{ts:List (List X9)} {vs:List c7} {ids:List Nat} {f:Nat},Y7 H vs ts ids->(∀x∈ids,n<=x)->(∀t∈ts,O ts<f/\∀r∈t,O ts+O t * 3+O r.row * 3<f/\O ts+O t * 3+O r.seq<f)->0<f ->
  ∃ws,X4 H n f vs=J ws/\L5 ws=J (ts.map AN)
 |[],_,_,f+1,h,_,_,_=>⟨[],by rw [h.1];rfl,rfl⟩
 |t::ts,_,_,f,⟨v,vs',i1,i2,e1,e2,h1,h2⟩,hn,hf,h0=>by
  subst e1 e2;have hf1:=hf t U;simp only [q7] at hf1;obtain ⟨g,rfl⟩:∃g,f=g+1:=⟨f - 1,V⟩;obtain ⟨ws,w1,w2⟩:=h2.frz (n:=n) (f:=g) (λx hx=>hn x (by simp [hx])) (λt' ht=>by
   have:=hf t' (by simp [ht]);simp only [q7] at this;refine ⟨V,λr hr=>?_⟩;have:=this.2 r hr;omega) V
  obtain ⟨w,w3,w4⟩:=h1.frz (n:=n) (λx hx=>hn x (by simp [hx])) (λr hr=>by
   have:=hf1.2 r hr;omega) V w1
  exact ⟨w::ws,w3,by simp only [L5,w4,w2,M8]⟩
def qw {mask:List Bool}{n:Nat}{T:List c7}{H:n9}{o:Nat}{oc:List c7}(ho:H[o]? =J (.cells oc))(hon:o<n)(h:O H=n\/∃v∈oc,n<v.K9):clean mask 0 n ⟨T,H⟩=⟨U3 mask T,H⟩:=by
 unfold clean;split
 next hc=>
  rcases h with h|⟨v,hv,hb⟩
  .simp [<- h]
  .exfalso
   have h1:B4.cells oc∈H.take n:=by
    rw [List.mem_take_iff_getElem];obtain ⟨h1,h2⟩:=List.getElem?_eq_some_iff.1 ho;exact ⟨o,V,h2⟩
   have h2:=sj h1;have h3:=QI hv;simp only [B4.K9] at h2;simp only [List.drop_zero] at hc;omega
 .rfl
def room_le {n m b:Nat}(h:roomFor m b=W)(hn:n<=m):roomFor n b=W:=by
 rw [roomFor,decide_eq_true_eq] at h ⊢;exact A3 (K4 _ V) h
def at0 {m:Nat}(h:roomFor m 56=W):m<2513169434917:=by
 have h:=of_decide_eq_true h;generalize hc:281474976710656=c at h;have:c<281474976710657:=by rw [<- hc];decide
 omega
theorem Kt:∀n:Nat,C0 (c9 n .H7)=0
 |0=>rfl
 |n+1=>by simp [List.replicate_succ,C0,Kt n,c7.K9]
end Go.B3
namespace Go.Proofs.YtibjocmpkoepoaaGreat
open Go.B3 Go.B3.S
attribute [local irreducible] Rx Ry Rn Ex Pf Rl
def aX0 (ts:List (List X9))(i o n0:Nat)(H:n9)(w1 w4 w5:c7)(Q:E6->St->Prop)(hi:i<O ts)(oc:List c7)(ids:List Nat)(A0 B0:List (List X9))(hA:O A0=i)(h:Ib H o oc (A0++[]::B0) ids)(IM:O oc=O ts)(hon:o<n0)(hn0:n0<=O H)(hg:O H=n0\/∃v∈oc,n0<v.K9)
  (h0:roomFor (O (Y ts i)+1) 56=W) (h1:∀k,k<O (Y ts i)->roomFor (O (Y (Y ts i) k).row) 32=W/\roomFor (O (Y (Y ts i) k).seq) 8=W)
  (hq:∀H' oc' ids' w1 w4 w5,Ib H' o oc' (A0++Y ts i::B0) ids' ->O oc'=O ts->n0<=O H'->(O H'=n0\/∃v∈oc',n0<v.K9)->(∀x,x<o->H'[x]? =H[x]?)->Q .normal ⟨[.d (V9 ts),w1,.s5 o 1 0 (O ts),.d (Z i),w4,w5],H'⟩) :
  Ex A Q9 1 (match a182.body with
   | .seq _ (.seq _ (.seq (.seq _ (.block _ (.loop _ (.seq _ (.seq b _))))) _))=>b
   |c=>c) ⟨[.d (V9 ts),w1,.s5 o 1 0 (O ts),.d (Z i),w4,w5],H⟩ Q:=by
 show Ex A Q9 1 (.block 1 (.seq (.region _ F) (.block 2 (.loop _ (.seq (.test _ _ _ _ _) (.seq _ (.region _ F))))))) _ _
 refine gr ?_;refine Ex.loop (λq s=>∃k oc ids H' w1 w5,k<=O (Y ts i)/\q=O (Y ts i) - k/\s=⟨[.d (V9 ts),w1,.s5 o 1 0 (O ts),.d (Z i),.d (Z k),w5],H'⟩/\Ib H' o oc (A0++(Y ts i).take k::B0) ids/\O oc=O ts/\O H<=O H'/\(O H'=n0\/∃v∈oc,n0<v.K9)/\(O H'=O H\/∃v∈oc,O H<v.K9)/\∀x,x<o->H'[x]? =H[x]?) ?_ (k:=O (Y ts i)) ⟨0,oc,ids,H,w1,w5,V,V,rfl,by simpa using h,IM,V,hg,.inl rfl,λ_ _=>rfl⟩;rintro q s ⟨k,oc,ids,H',w1,w5,hk,rfl,rfl,hC,IM,hL,Wq,hg1,hlo⟩;rw [show (Q9).strict=0 from rfl,qw hC.1 (by show o<O H;omega) hg1];refine Ex.seq ?_;refine tl (k:Int) (O (Y ts i):Int) (λhlt=>?_) (λhge=>?_)
 .have hk' :k<O (Y ts i):=V
  obtain ⟨v,cs,e1,e2,ids',hC',aJ4⟩:=hC.step (Y (Y ts i) k);rw [hA] at e1 hC' aJ4;have e3:O ((Y ts i).take k)=k:=by rw [P7];omega
  rw [e3] at e2 hC' aJ4;refine Ex.skip ?_;refine Ex.seq ?_;refine aW9 ts i k o (O ts) k H' .any .any v cs _ hi hk' oc hC.1 hi IM e1 e2 (room_le h0 V) (h1 k hk').1 (h1 k hk').2 ?_;have hb:=at0 h0
  repeat' (first|refine ad V ?_|refine gx ?_|fail)
  have hin:i<O oc:=V
  have hmem:(c7.s5 (O H'+6) 3 0 (k+1))∈oc.set i (.s5 (O H'+6) 3 0 (k+1)):=List.mem_set hin _;refine ⟨O (Y ts i) - (k+1),V,k+1,_,ids',_,_,_,V,rfl,rfl,?_,?_,?_,.inr ⟨_,hmem,?_⟩,.inr ⟨_,hmem,?_⟩,λx hx=>(aJ4 x hx).trans (hlo x hx)⟩
  .rw [N7 hk']
   exact hC'
  .rw [List.length_set,IM]
  .have:=FX H' v
   simp [this,fJ];omega
  .simp [c7.K9]
   omega
  .simp [c7.K9]
   omega
 .refine Ex.exit ?_
  obtain rfl:k=O (Y ts i):=V
  rw [List.take_length] at hC;exact hq _ _ _ _ _ _ hC IM V Wq hlo
def aX1 (ts:List (List X9))(c0:B4)(hc0:c0.K9=0)(hmk:O ts<=1000000)
  (h0:∀i,i<O ts->roomFor (O (Y ts i)+1) 56=W) (h1:∀i,i<O ts->∀k,k<O (Y ts i)->roomFor (O (Y (Y ts i) k).row) 32=W/\roomFor (O (Y (Y ts i) k).seq) 8=W) :
  Pq A 182 [.d (V9 ts)] [c0] Q9 λv H=>v= .s5 1 1 0 (O ts)/\H[0]? =J c0/\∃oc ids,Ib H 1 oc ts ids:=by
 refine Pq.go (b:=1) 5 ?_
 repeat' (first|refine mn (h2:=?_)|refine ln ?_|refine gx ?_|fail)
 refine mks (id:=1) (len:=O ts) (H2:=[c0,.cells (c9 (O ts) .H7)]) ?_ ?_ rfl ?_
 .have:(O ts:Int)<=1000000:=V
  simp [CI,rq,LR,lk,c7.F4,this]
 .simp
 refine gr ?_;have hC0:Ib [c0,.cells (c9 (O ts) .H7)] 1 (c9 (O ts) .H7) (ts.take 0++c9 (O ts - 0) []) []:=⟨rfl,Y7.H7 _ _,List.nodup_nil,(λ_ h=>by cases h),.inl ⟨rfl,by simp [Q5,hc0,show ∀l,(B4.cells l).K9=C0 l from λ_=>rfl,Kt]⟩⟩;refine Ex.loop (λq s=>∃i oc ids H' w1 w4 w5,i<=O ts/\q=O ts - i/\s=⟨[.d (V9 ts),w1,.s5 1 1 0 (O ts),.d (Z i),w4,w5],H'⟩/\Ib H' 1 oc (ts.take i++c9 (O ts - i) []) ids/\O oc=O ts/\2<=O H'/\(O H'=2\/∃v∈oc,2<v.K9)/\H'[0]? =J c0) ?_ (k:=O ts) ⟨0,_,_,_,_,_,_,V,V,rfl,hC0,U,U,.inl rfl,rfl⟩;rintro q s ⟨i,oc,ids,H',w1,w4,w5,hi,rfl,rfl,hC,IM,hL,hg,hc⟩;rw [show (Q9).strict=0 from rfl];show Ex A Q9 1 _ (clean _ 0 2 _) _
 rw [qw hC.1 V hg];refine Ex.seq ?_;refine tl (i:Int) (O ts:Int) (λhlt=>?_) (λhge=>?_)
 .have hi' :i<O ts:=V
  refine Ex.skip ?_;refine Ex.seq ?_;obtain ⟨m,hm⟩:∃m,O ts - i=m+1:=⟨O ts - i - 1,V⟩;have hm' :O ts - (i+1)=m:=V
  rw [hm,List.replicate_succ] at hC;refine aX0 ts i 1 2 H' .any .any .any _ hi' oc ids _ _ (by rw [P7];omega) hC IM V hL hg (h0 i hi') (h1 i hi') (λH2 oc2 Lj u1 u4 u5 g1 g2 g3 g4 g5=>?_);refine gr ?_;refine ⟨O ts - (i+1),V,i+1,oc2,Lj,H2,_,_,_,V,rfl,rfl,?_,g2,g3,g4,?_⟩
  .rw [N7 hi',hm',M3]
   exact g1
  .rw [g5 0 V,hc]
 .refine Ex.exit ?_
  obtain rfl:i=O ts:=V
  rw [List.take_length,Nat.sub_self,List.replicate_zero,List.append_nil] at hC;show Ex A Q9 1 (.seq (.region _ F) .ret) ⟨[.d (V9 ts),.any,.s5 1 1 0 (O ts),.d (Z (O ts)),.any,.any],H'⟩ _
  refine gr ?_;exact ⟨_,_,rfl,rfl,hc,oc,ids,hC⟩
def Wu (v:Vl):Bool :=
 if A1 v.k 0 then A1 v.n 0&&Q2 v.t []
 else if A1 v.k 1 then bC (-4294967296) v.n&&(bC v.n 4294967296&&Q2 v.t [])
 else A1 v.k 2&&(A1 v.n 0&&bC (O v.t) 32)
def Dd (v:Vl):Pf A 228 [.agg (v.enc.map .d)] (.d (.bool (Wu v))):=by
 refine Pf.go 3 ?_
 repeat' (first|refine gy ?_|refine fq (λhw=>?_) λhw=>?_|refine ⟨_,rfl,?_⟩|fail)
 all_goals simp [Wu,j5, *]
def isKey (key:Vl)(r:X9):Bool:=J2 0 (O r.row)&&decide (Y r.row 0=key)
def pF (t:List X9)(key:Vl):Int:=if Wu key&& !A1 key.k 0 then (match t.findIdx? (isKey key) with|some i=>(i:Int)|none=> -1) else -1
def CC (a b:Vl):(a.k==b.k&&(a.n==b.n&&(a.t==b.t&&W)))=decide (a=b):=by
 cases a;cases b;rw [Bool.eq_iff_iff];simp
def QY {t:List X9}{key:Vl}{i:Nat}(hi:i<O t)(h:isKey key (Y t i)=W)(hb:∀j,j<i->isKey key (Y t j)=F):t.findIdx? (isKey key)=J i:=by
 rw [List.findIdx?_eq_some_iff_getElem];refine ⟨hi,by rw [<- H6 hi];exact h,λj hj=>?_⟩;rw [<- H6 (by omega:j<O t),hb j hj];simp
def QZ {t:List X9}{key:Vl}(hb:∀j,j<O t->isKey key (Y t j)=F):t.findIdx? (isKey key)=K:=by
 rw [List.findIdx?_eq_none_iff];intro x hx;obtain ⟨j,hj,rfl⟩:=O8 hx;rw [<- H6 hj];exact hb j hj
def aN1 (t:List X9)(key:Vl)(ht:O t<4294967296):Pf A 183 [.d (AN t),.agg (key.enc.map .d)] (.d (Z (pF t key))):=by
 refine Pf.gr 3 ?_;refine Ex.R8 (λk T' H' =>∃i:Nat,i<=O t/\k=O t - i/\T' =[.d (AN t),.any,.ptr 0 0,.any,.d (Z i)]/\H' =[.cells (key.enc.map .d)]/\∀j,j<i->isKey key (Y t j)=F) ?_ (k:=O t) ⟨0,V,V,rfl,rfl,λ_ h=>V⟩;rintro k T' H' ⟨i,hi,rfl,rfl,rfl,hb⟩;refine Ex.seq ?_;refine tc (J2 (i:Int) (O t)&&(Wu key&& !A1 key.k 0)) Dd (λh=>?_) (λh=>?_)
 .rw [c8] at h
  have hlt:(i:Int)<O t:=F5 h.1;have hok:=h.2;have next:isKey key (Y t i)=F->∀j,j<i+1->isKey key (Y t j)=F:=λh1 j hj=>by
   rcases x9 j i with h2|h2
   .exact hb j h2
   .rwa [show j=i by omega]
  repeat' (first|refine gx ?_|refine fq (λhw=>?_) λhw=>?_|refine Ex.tq ?_|refine Ex.vj ?_|refine Ex.cond rfl (λht=>?_) (λht=>?_)|refine Ex.test (Rn.text ?_)|refine Ex.test (Rn.draw ?_)|refine ⟨_,rfl,λht=>?_,λht=>?_⟩|refine ⟨_,rfl,?_⟩|fail)
  .rename_i h9;have ht:=hw;have hw:=h9;simp only [CC,Bool.false_bne,decide_eq_true_eq] at ht
   have:isKey key (Y t i)=W:=by rw [isKey,hw,ht];simp
   simp only [j5,pF,hok,if_true,QY V this hb]
  .have ht:=hw;simp only [CC,Bool.false_bne] at ht
   exact ⟨O t - (i+1),V,i+1,V,rfl,rfl,rfl,next (by rw [isKey,ht,Bool.and_false])⟩
  .cases hw
  .rename_i h9;exact ⟨O t - (i+1),V,i+1,V,rfl,rfl,rfl,next (by rw [isKey,h9,Bool.false_and])⟩
 .repeat' (first|refine gx ?_|refine fq (λhw=>?_) λhw=>?_|refine Ex.tq ?_|refine Ex.vj ?_|refine Ex.cond rfl (λht=>?_) (λht=>?_)|refine Ex.test (Rn.text ?_)|refine Ex.test (Rn.draw ?_)|refine ⟨_,rfl,λht=>?_,λht=>?_⟩|refine ⟨_,rfl,?_⟩|fail)
  simp only [j5,pF];split
  next hok=>
   rw [hok,Bool.and_true] at h;have:=G7 h;rw [QZ λj hj=>hb j V];rfl
  .rfl
end Go.Proofs.YtibjocmpkoepoaaGreat
namespace Go.B3
structure jw where
 op:Int
 seq:Int
 day:Int
 W5:Int
 row:List Vl
 key:Vl
 col:Int
 val:Vl
 deriving DecidableEq,Inhabited
def jw.enc (c:jw):List Data:=[Z c.op,Z c.seq,Z c.day,Z c.W5,B8 Vl.enc c.row,Z c.key.k,Z c.key.n,.str c.key.t,Z c.col,Z c.val.k,Z c.val.n,.str c.val.t]
section
variable {A:Prog} {l:H8} {b:Nat} {dr:Bool} {j9 ops:List o4} {T:List c7} {H:n9} {n:Nat} {rl:List c7} {o5:List Touch} {Q:List c7->n9->List c7->Prop}
def S.ltS {x y:z6}{s t:M6}{u:List Nat}(h2:Ry A l b dr j9 ops T H (n+1) (.d (.bool (Op.bytesLess s t))::rl) o5 Q)(hx:rq T n rl x= .d (.str s):=by rfl)(hy:rq T n rl y= .d (.str t):=by rfl) :
  Ry A l b dr j9 (⟨.bin .lss x y,K,K,u⟩::ops) T H n rl o5 Q:=Ry.pure (rs:=[]) rfl (by simp [l8,hx,hy,O2,uc]) h2
end
end Go.B3
namespace Go.Proofs.YtibjocmpkoepoaaGreat
open Go.B3 Go.B3.S
attribute [local irreducible] Rx Ry Rn Ex Pf Rl
def ar3 (a b c:Int):Pf A 236 [.d (Z a),.d (Z b),.d (Z c)] (.d (.bool (bC b a&&bC a c))):=by
 refine Pf.go 1 ?_
 repeat' (first|refine gy ?_|refine fq (λhw=>?_) λhw=>?_|refine ⟨_,rfl,?_⟩|fail)
 all_goals simp [j5, *]
def aN0 (v:Vl)(k:Int):Pf A 180 [.agg (v.enc.map .d),.d (Z k)] (.d (.bool (A1 v.k 0||A1 v.k k))):=by
 refine Pf.go 2 ?_
 repeat' (first|refine gy ?_|refine fq (λhw=>?_) λhw=>?_|refine ⟨_,rfl,?_⟩|fail)
 all_goals simp [j5, *]
def nJ (v:Vl):Vl:=if Wu v then v else ⟨0,0,[]⟩
def bd8 (v:Vl):Pf A 169 [.agg (v.enc.map .d)] (.agg ((nJ v).enc.map .d)):=by
 refine Pf.go 2 ?_
 repeat' (first|refine cl (Dd _) ?_|refine uf (Dd _) ?_|refine gx ?_|refine fq (λht=>?_) λht=>?_|refine Ex.tq ?_|refine Ex.vj ?_|refine Ex.cond rfl (λht=>?_) (λht=>?_)|refine Ex.test (Rn.text ?_)|refine Ex.test (Rn.draw ?_)|refine ⟨_,rfl,λht=>?_,λht=>?_⟩|refine ⟨_,rfl,?_⟩|fail)
 .simp only [nJ,ht]
  rfl
 .simp only [nJ,ht]
  rfl
def AG (c:jw):Vl:=if A1 c.op 1 then Y c.row 0 else c.key
def aM9 (c:jw)(h:c.op=1->0<O c.row):Pf A 179 [.agg (c.enc.map .d)] (.agg ((AG c).enc.map .d)):=by
 refine Pf.go 2 ?_
 repeat' (first|refine gx ?_|refine fq (λht=>?_) λht=>?_|refine Ex.tq ?_|refine Ex.vj ?_|refine Ex.cond rfl (λht=>?_) (λht=>?_)|refine Ex.test (Rn.text ?_)|refine Ex.test (Rn.draw ?_)|refine ⟨_,rfl,λht=>?_,λht=>?_⟩|refine ⟨_,rfl,?_⟩|fail)
 all_goals
  simp only [AG,ht];rfl
def KG (a b:Vl):Int :=
 if nJ a=nJ b then 0 else if J2 (nJ a).k (nJ b).k||(A1 (nJ a).k (nJ b).k&&(J2 (nJ a).n (nJ b).n||Op.bytesLess (nJ a).t (nJ b).t)) then -1 else 1
def aN2 (a b:Vl):Pf A 184 [.agg (a.enc.map .d),.agg (b.enc.map .d)] (.d (Z (KG a b))):=by
 refine Pf.go 3 ?_
 repeat' (first|refine cl (bd8 _) ?_|refine uf (bd8 _) ?_|refine soD (h2:=?_)|refine ltS ?_|refine gy ?_|refine fq (λhw=>?_) λhw=>?_|refine ⟨_,rfl,?_⟩|fail)
 all_goals simp only [CC,Bool.false_bne,decide_eq_true_eq,decide_eq_false_iff_not] at *
 all_goals simp_all [j5,KG,Z]
def bM5 (l:List Vl):Pf A 237 [.d (B8 Vl.enc l)] (.d (.bool (!J2 16 (O l)&&l.all Wu))):=by
 refine Pf.go 2 ?_;refine Ex.seq ?_;refine gr ?_;refine tc (J2 16 (O l)) trivial (λh=>?_) (λh=>?_)
 .refine gr ?_
  exact ⟨_,rfl,by rw [h];rfl⟩
 have hl:=G7 h;refine gr ?_;refine Ex.R8 (λk T' H' =>∃i:Nat,i<=O l/\k=O l - i/\T' =[.d (B8 Vl.enc l),.any,.d (Z i)]/\H' =[]/\∀j,j<i->Wu (Y l j)=W) ?_ (k:=O l) ⟨0,V,V,rfl,rfl,λ_ h=>V⟩;rintro k T' H' ⟨i,hi,rfl,rfl,rfl,hb⟩;refine Ex.seq ?_;refine tl (i:Int) (O l:Int) (λh2=>?_) (λh2=>?_)
 .repeat' (first|refine cl (Dd _) ?_|refine uf (Dd _) ?_|refine gx ?_|refine fq (λht=>?_) λht=>?_|refine Ex.tq ?_|refine Ex.vj ?_|refine Ex.cond rfl (λht=>?_) (λht=>?_)|refine Ex.test (Rn.text ?_)|refine Ex.test (Rn.draw ?_)|refine ⟨_,rfl,λht=>?_,λht=>?_⟩|refine ⟨_,rfl,?_⟩|fail)
  .have h3:Wu (Y l i)=F:=by simpa using ht
   have h4:l.all Wu=F:=by
    rw [Bool.eq_false_iff];intro h4;have:=L4.1 h4 _ (List.getElem_mem (by omega:i<O l));rw [<- H6 V,h3] at this;cases this
   simp only [j5,h4,Bool.and_false]
  .have h3:Wu (Y l i)=W:=by simpa using ht
   refine ⟨O l - (i+1),V,i+1,V,rfl,rfl,rfl,λj hj=>?_⟩
   rcases x9 j i with h5|h5
   .exact hb j h5
   .rwa [show j=i by omega]
 .refine gr ?_
  have h4:l.all Wu=W:=by
   rw [L4];intro x hx;obtain ⟨j,hj,rfl⟩:=O8 hx;rw [<- H6 hj];exact hb j V
  exact ⟨_,rfl,by rw [h,h4];rfl⟩
end Go.Proofs.YtibjocmpkoepoaaGreat
namespace Go.B3
theorem O4.at {H:n9}:∀{rs:List X9} {cs:List c7} {ids:List Nat} {i:Nat},O4 H cs rs ids->i<O rs->∃a b,cs[i * 3]? =J (.s5 a 3 0 (O (Y rs i).row))/\cs[i * 3+1]? =J (.s5 b 1 0 (O (Y rs i).seq))/\a∈ids/\b∈ids/\H[a]? =J (.cells (fe (Y rs i).row))/\H[b]? =J (.cells (eD (Y rs i).seq))
 |[],_,_,_,_,h=>by cases h
 |r::rs,_,_,i,⟨a,b,cs',ids',e1,e2,h1,h2,h3⟩,h=>by
  subst e1 e2;have n0:Y (r::rs) 0=r:=by simp [Y]
  have n1:∀i,Y (r::rs) (i+1)=Y rs i:=λi=>by simp [Y]
  cases i with
  |zero =>
   rw [n0];exact ⟨a,b,rfl,rfl,U,U,h1,h2⟩
  |succ i =>
   rw [n1];obtain ⟨a',b',g1,g2,g3,g4,g5,g6⟩:=h3.at (i:=i) (by simpa using h);refine ⟨a',b',?_,?_,by simp [g3],by simp [g4],g5,g6⟩
   .rw [show (i+1) * 3=i * 3+1+1+1 by omega]
    simpa using g1
   .rw [show (i+1) * 3+1=i * 3+1+1+1+1 by omega]
    simpa using g2
def de {H:n9}{id o:Nat}{cs:List c7}{v:c7}(h:H[id]? =J (.cells cs))(hv:cs[o]? =J v):rd H id o 1=J [v]:=by
 rw [rd,h];exact rd1 hv
def PR {H:n9}{a:Nat}{r:List Vl}(h:H[a]? =J (.cells (fe r)))(hr:0<O r):rd H a 0 3=J ((Y r 0).enc.map .d):=by
 cases r with
 |nil=>cases hr
 |cons v r=>simp [rd,h,fe,Vl.enc,Y]
end Go.B3
namespace Go.Proofs.YtibjocmpkoepoaaGreat
open Go.B3 Go.B3.S
attribute [local irreducible] Rx Ry Rn Ex Pf Rl
def Xs (H X:n9)(w0 w1 w2 w4:c7)(x:Int):aZ a183 (O H) (J (.ret,⟨[w0,w1,w2,.d (Z x),w4],H++X⟩))=J (.d (Z x),H):=by
 have:aZ a183 (O H) (J (.ret,⟨[w0,w1,w2,.d (Z x),w4],H++X⟩))=(if (0:Nat)<=O H then J (.d (Z x),(H++X).take (O H)) else K):=rfl;rw [this,if_pos (A4 _),List.take_left]
def be0 (H:n9)(l:H8)(id:Nat)(cs:List c7)(ids:List Nat)(t:List X9)(key:Vl)(ht:O t<4294967296)(hid:H[id]? =J (.cells cs))(hR:O4 H cs t ids)(hi:∀x∈ids,x<O H) :
  Pq A 183 [.s5 id 3 0 (O t),.agg (key.enc.map .d)] H l λw H1=>w= .d (Z (pF t key))/\H1=H:=by
 have UU:=AK hid;refine Pq.go (b:=O H) 3 ?_
 repeat' (first|refine bx (hi:=rfl) (hH:=rfl) (h2:=?_)|refine gx ?_|fail)
 have rk:rd (H++[.cells (key.enc.map .d)]) (O H) 0 3=J (key.enc.map .d):=by simp [rd,Vl.enc]
 have rk1:rd (H++[.cells (key.enc.map .d)]) (O H) 0 1=J [.d (Z key.k)]:=by simp [rd,Vl.enc]
 refine Ex.R8 (λk T' H' =>∃i:Nat,i<=O t/\k=O t - i/\T' =[.s5 id 3 0 (O t),.any,.ptr (O H) 0,.any,.d (Z i)]/\H' =H++[.cells (key.enc.map .d)]/\∀j,j<i->isKey key (Y t j)=F) ?_ (k:=O t) ⟨0,V,V,rfl,rfl,λ_ h=>V⟩ (by rintro _ _ _ ⟨_,_,_,_,rfl,_⟩;rfl);rintro k T' H' ⟨i,hi',rfl,rfl,rfl,hb⟩;refine Ex.seq ?_;refine Ex.jl (J2 (i:Int) (O t)&&(Wu key&& !A1 key.k 0)) ?_ (λh=>?_) (λh=>?_)
 .refine Rn.text ?_
  repeat' (first|refine Vk rk rfl ?_|refine lpx rk1 rfl ?_|refine lnr ?_|refine cl (Dd _) ?_|refine uf (Dd _) ?_|refine gx ?_|refine fq (λ_=>?_) λ_=>?_|refine ⟨rfl,rfl,_,rfl,?_⟩|refine ⟨rfl,rfl⟩|fail)
  all_goals first|(simp [*];done)|(simp_all;done)|skip
 .rw [c8] at h
  have hlt:(i:Int)<O t:=F5 h.1;have hok:=h.2;have next:isKey key (Y t i)=F->∀j,j<i+1->isKey key (Y t j)=F:=λh1 j hj=>by
   rcases x9 j i with h2|h2
   .exact hb j h2
   .rwa [show j=i by omega]
  obtain ⟨a,b,g1,g2,g3,g4,g5,g6⟩:=hR.at (i:=i) V;have r1:rd (H++[.cells (key.enc.map .d)]) id (0+(i:Int).toNat * 3+0) 1=J [.s5 a 3 0 (O (Y t i).row)]:=de ((bX UU).trans hid) (by simpa using g1);have r3:J2 0 (O (Y t i).row:Int)=W->rd (H++[.cells (key.enc.map .d)]) a (0+(0:Int).toNat * 3) 3=J ((Y (Y t i).row 0).enc.map .d):=λh=>PR ((bX (hi a g3)).trans g5) (by have:=F5 h;omega)
  repeat' (first|refine ixo (e:=(i:Int)) (len:=O t) ⟨V,hlt⟩ ?_|refine ixo (e:=0) (len:=O (Y t i).row) ⟨V,F5 (by assumption)⟩ ?_|refine lpx r1 rfl ?_|refine lnr ?_|refine Vk (r3 (by assumption)) rfl ?_|refine Vk rk rfl ?_|refine gx ?_|refine fq (λ_=>?_) λ_=>?_|refine Ex.tq ?_|refine Ex.vj ?_|refine Ex.cond rfl (λht=>?_) (λht=>?_)|refine Ex.test (Rn.text ?_)|refine Ex.test (Rn.draw ?_)|refine ⟨_,rfl,λht=>?_,λht=>?_⟩|refine ⟨_,rfl,?_⟩|fail)
  next ht=>
   simp only [CC,Bool.false_bne,decide_eq_true_eq] at ht;have hw:J2 0 (O (Y t i).row:Int)=W:=by assumption
   have:isKey key (Y t i)=W:=by rw [isKey,hw,ht];simp
   refine ⟨_,_,Xs _ _ _ _ _ _ _,?_,rfl⟩;simp only [pF,hok,if_true,QY V this hb]
  next ht=>
   simp only [CC,Bool.false_bne] at ht;exact ⟨O t - (i+1),V,i+1,V,rfl,rfl,rfl,next (by rw [isKey,ht,Bool.and_false])⟩
  next ht=>
   cases ht
  .have hw:J2 0 (O (Y t i).row:Int)=F:=by assumption
   exact ⟨O t - (i+1),V,i+1,V,rfl,rfl,rfl,next (by rw [isKey,hw,Bool.false_and])⟩
 .repeat' (first|refine gx ?_|refine fq (λ_=>?_) λ_=>?_|refine Ex.tq ?_|refine Ex.vj ?_|refine Ex.cond rfl (λht=>?_) (λht=>?_)|refine Ex.test (Rn.text ?_)|refine Ex.test (Rn.draw ?_)|refine ⟨_,rfl,λht=>?_,λht=>?_⟩|refine ⟨_,rfl,?_⟩|fail)
  refine ⟨_,_,Xs _ _ _ _ _ _ _,?_,rfl⟩;simp only [pF];split
  next hok=>
   rw [hok,Bool.and_true] at h;have:=G7 h;rw [QZ λj hj=>hb j V]
  .rfl
end Go.Proofs.YtibjocmpkoepoaaGreat
namespace Go.B3
theorem O4.cut {H:n9}:∀{rs:List X9} {cs:List c7} {ids:List Nat} (i:Nat),O4 H cs rs ids->∃j1 j2,O4 H (cs.take (i * 3)) (rs.take i) j1/\O4 H (cs.drop (i * 3)) (rs.drop i) j2/\(∀x∈j1,x∈ids)/\∀x∈j2,x∈ids
 |[],_,_,i,h=>by
  obtain ⟨rfl,rfl⟩:=h;exact ⟨[],[],by simp [O4],by simp [O4],U,U⟩
 |r::rs,cs,ids,0,h=>⟨[],ids,by simp [O4],by simpa using h,U,λ_ h=>h⟩
 |r::rs,_,_,i+1,⟨a,b,cs',ids',e1,e2,h1,h2,h3⟩=>by
  subst e1 e2;obtain ⟨j1,j2,g1,g2,g3,g4⟩:=h3.cut i;refine ⟨a::b::j1,j2,?_,?_,λx hx=>?_,λx hx=>by simp [g4 x hx]⟩
  .rw [show (i+1) * 3=i * 3+1+1+1 by omega]
   exact ⟨a,b,_,_,rfl,rfl,h1,h2,g1⟩
  .rw [show (i+1) * 3=i * 3+1+1+1 by omega]
   exact g2
  .simp only [C4] at hx ⊢
   rcases hx with rfl|rfl|hx
   .exact .inl rfl
   .exact .inr (.inl rfl)
   .exact .inr (.inr (g3 x hx))
theorem O4.gR {H:n9}:∀{rs:List X9} {cs:List c7} {ids:List Nat} {i:Nat},O4 H cs rs ids->ids.Nodup->i<O rs ->
  ∃a b,cs[i * 3]? =J (.s5 a 3 0 (O (Y rs i).row))/\cs[i * 3+1]? =J (.s5 b 1 0 (O (Y rs i).seq))/\a∈ids/\b∈ids/\a≠b/\H[a]? =J (.cells (fe (Y rs i).row))/\H[b]? =J (.cells (eD (Y rs i).seq)) /\
   ∀(H' :n9) (row:List Vl) (seq:List Int),O row=O (Y rs i).row->O seq=O (Y rs i).seq->H'[a]? =J (.cells (fe row))->H'[b]? =J (.cells (eD seq))->(∀x∈ids,x≠a->x≠b->H'[x]? =H[x]?)->O4 H' cs (rs.set i ⟨row,seq,(Y rs i).day⟩) ids
 |[],_,_,_,_,_,h=>by cases h
 |r::rs,_,_,i,⟨a,b,cs',ids',e1,e2,h1,h2,h3⟩,Wr,h=>by
  subst e1 e2;simp only [List.nodup_cons,C4,not_or] at Wr;cases i with
  |zero =>
   rw [V8];refine ⟨a,b,rfl,rfl,U,U,Wr.1.1,h1,h2,λH' row seq e1 e2 k1 k2 k3=>?_⟩;refine ⟨a,b,cs',ids',by rw [e1,e2],rfl,k1,k2,h3.mono λx hx=>k3 x (by simp [hx]) ?_ ?_⟩
   .rintro rfl
    exact Wr.1.2 hx
   .rintro rfl
    exact Wr.2.1 hx
  |succ i =>
   rw [kU];obtain ⟨a',b',g1,g2,g3,g4,g5,g6,g7,g8⟩:=h3.gR (i:=i) Wr.2.2 (by simpa using h);refine ⟨a',b',?_,?_,by simp [g3],by simp [g4],g5,g6,g7,λH' row seq e1 e2 k1 k2 k3=>?_⟩
   .rw [show (i+1) * 3=i * 3+1+1+1 by omega]
    simpa using g1
   .rw [show (i+1) * 3+1=i * 3+1+1+1+1 by omega]
    simpa using g2
   .rw [A8]
    have ha:∀x∈ids',x≠a/\x≠b:=λx hx=>⟨by rintro rfl;exact Wr.1.2 hx,by rintro rfl;exact Wr.2.1 hx⟩
    refine ⟨a,b,cs',ids',rfl,rfl,?_,?_,g8 H' row seq e1 e2 k1 k2 λx hx=>k3 x (by simp [hx])⟩
    .rw [k3 a U (Ne.symm (ha a' g3).1) (Ne.symm (ha b' g4).1),h1]
    .rw [k3 b U (Ne.symm (ha a' g3).2) (Ne.symm (ha b' g4).2),h2]
def Y7.UR {H:n9}{o:Nat}{oc:List c7}{ts:List (List X9)}{ids:List Nat}(ho:H[o]? =J (.cells oc))(h:Y7 H oc ts ids)(h1:O ts<300000)(h2:∀t∈ts,O t<100000/\∀r∈t,O r.row<100000/\O r.seq<100000):X4 H 0 1000000 [.s5 o 1 0 (O ts)]=J [.d (V9 ts)]:=by
 obtain ⟨ws,w1,w2⟩:=h.frz (n:=0) (f:=999999) (λx hx=>A4 _) (λt ht=>⟨V,λr hr=>by
  have:=h2 t ht;have:=this.2 r hr;omega⟩) V
 have:=XD (sz:=1) (len:=O ts) (A4 o) (show X4 H 0 999999 []=J [] from rfl) ho (by rw [h.len,Nat.mul_one]) w1 w2;rw [show (1000000:Nat)=999999+1 from rfl,this];rw [show V9 ts= .slice (O ts) (ts.map AN) from by
  have e1:∀l:List (List X9),(l.flatMap λl=>[AN l])=l.map AN:=λl=>by
   induction l with
   |nil=>rfl
   |cons a l ih=>rw [List.flatMap_cons,ih];rfl
  rw [V9,B8,e1]]
def WN (H:n9)(n:Nat):Q5 (H.take n)<=Q5 H:=by
 conv=>rhs;rw [<- List.take_append_drop n H]
 rw [qm];omega
def OO {H:n9}{n o:Nat}{oc:List c7}(ho:H[o]? =J (.cells oc))(hon:o<n)(hn:n<=Q5 H)(hc:C0 oc=Q5 H)(k:Nat):I4 H 0 (k+2) n=Q5 H:=by
 have key:∀m,o<m->Q5 (H.take m)=Q5 H:=λm hm=>by
  refine Nat.le_antisymm (WN H m) ?_;have h1:B4.cells oc∈H.take m:=by
   rw [List.mem_take_iff_getElem];obtain ⟨h1,h2⟩:=List.getElem?_eq_some_iff.1 ho;exact ⟨o,V,h2⟩
  have:=sj h1;simp only [B4.K9,hc] at this;exact this
 have step:∀k m,o<m->m<=Q5 H->I4 H 0 (k+1) m=if Q5 H=m then m else I4 H 0 k (Q5 H):=λk m h1 h2=>by
  rw [I4,if_neg V];simp only [List.drop_zero,key m h1,Nat.max_eq_right h2]
 rw [step _ n hon hn];split
 .omega
 .rw [step _ _ V (o6 _),if_pos rfl]
structure qd (H:n9)(lv:c7)(m:Nat)(cs:List c7):Prop where
 AW:lv.F4=lv
 len:O cs=m * 3
 cd:cs.map c7.F4=cs
 one:cs.all c7.one=W
 bd:C0 cs<=O H
 at' :(lv= .d (.slice 0 [])/\m=0)\/∃id,lv= .s5 id 3 0 m/\H[id]? =J (.cells cs)
theorem O4.one {H:n9}:∀{rs:List X9} {cs:List c7} {ids:List Nat},O4 H cs rs ids->cs.all c7.one=W
 |[],_,_,h=>by simp [h.1]
 |r::rs,_,_,⟨a,b,cs',ids',e1,e2,h1,h2,h3⟩=>by
  subst e1;simp only [List.all_cons,h3.one];rfl
def fo.lv {H:n9}{v:c7}{l:List X9}{ids:List Nat}(h:fo H v l ids)(hW:Q5 H<=O H):∃cs ids',qd H v.F4 (O l) cs/\O4 H cs l ids' /\(∀y∈ids',y∈ids)/\(ids.Nodup->ids'.Nodup)/\(v.F4= .d (.slice 0 [])\/∃id,id∈ids/\v.F4= .s5 id 3 0 (O l)):=by
 rcases h with ⟨rfl,rfl,rfl⟩|⟨id,cs,ids',rfl,rfl,h1,h2⟩
 .exact ⟨[],[],⟨rfl,rfl,rfl,rfl,A4 _,.inl ⟨rfl,rfl⟩⟩,⟨rfl,rfl⟩,U,λ_=>List.nodup_nil,.inl rfl⟩
 .refine ⟨cs,ids',⟨rfl,h2.len,h2.F4,h2.one,A3 (sj (v:= .cells cs) (List.mem_of_getElem? h1)) hW,.inr ⟨id,rfl,h1⟩⟩,h2,λy hy=>by simp [hy],λh=>(List.nodup_cons.1 h).2,.inr ⟨id,U,rfl⟩⟩
structure aG1 (H:n9)(lv:c7)(m:Nat)(cs:List c7)(lo hi:Nat)(w:c7):Prop where
 AW:w.F4=w
 K9:w.K9<=O H
 pf:lo=0->∀(ρ:z6->c7) (G:n9) (x y:z6),ρ x=lv->ρ y= .d (Z hi)->l8 ρ G (.Z0 3 x K (J y))=J (w,[])
 pr:hi=m->∀(ρ:z6->c7) (G:n9) (x y:z6),ρ x=lv->ρ y= .d (Z lo)->l8 ρ G (.Z0 3 x (J y) K)=J (w,[])
 sc:∀G:n9,(∀id,id<O H->H[id]? =J (.cells cs)->G[id]? =H[id]?)->C1 G 3 w=J (hi - lo,(cs.take (hi * 3)).drop (lo * 3))
def qd.part {H:n9}{lv:c7}{m:Nat}{cs:List c7}(h:qd H lv m cs){lo hi:Nat}(h1:lo<=hi)(h2:hi<=m):∃w,aG1 H lv m cs lo hi w:=by
 by_cases e:lo=hi
 .subst e
  refine ⟨.d (.slice 0 []),rfl,A4 _,λe ρ G x y hx hy=>?_,λe ρ G x y hx hy=>?_,λG _=>?_⟩
  .subst e
   rcases h.at' with ⟨rfl,rfl⟩|⟨id,rfl,_⟩<;>simp [l8,hx,hy,V2,Z]
  .subst e
   rcases h.at' with ⟨rfl,rfl⟩|⟨id,rfl,_⟩<;>simp [l8,hx,hy,V2,Z]
  .have:((cs.take (lo * 3)).drop (lo * 3))=[]:=List.drop_eq_nil_of_le (by rw [P7];omega)
   simp [C1,this]
 .rcases h.at' with ⟨rfl,rfl⟩|⟨id,rfl,hid⟩
  .omega
  .have UU:=AK hid
   refine ⟨.s5 id 3 (lo * 3) (hi - lo),rfl,UU,λe ρ G x y hx hy=>?_,λe ρ G x y hx hy=>?_,λG hG=>?_⟩
   .subst e
    have a1:(hi:Int)<=m:=V
    have a2:¬ (0:Int)=hi:=V
    simp [l8,hx,hy,V2,Z,a1,a2]
   .subst e
    have a1:(lo:Int)<=hi:=V
    have a2:¬ (lo:Int)=hi:=V
    have a3:((hi:Int) - lo).toNat=hi - lo:=V
    simp [l8,hx,hy,V2,Z,a1,a2,a3]
   .have a0:rd G id (lo * 3) ((hi - lo) * 3)=J ((cs.take (hi * 3)).drop (lo * 3)):=by
     have a4:lo * 3+(hi - lo) * 3<=O cs:=by rw [h.len];omega
     have a5:(hi - lo) * 3=hi * 3 - lo * 3:=V
     rw [rd,hG id UU hid,hid];simp only [a4,if_true,Option.some.injEq];rw [List.drop_take,a5]
    have a1:((cs.take (hi * 3)).drop (lo * 3)).map c7.F4=(cs.take (hi * 3)).drop (lo * 3):=by rw [List.map_drop,List.map_take,h.cd]
    simp only [C1,if_true,a0,a1]
def qd.parts {H:n9}{lv:c7}{m:Nat}{cs:List c7}(h:qd H lv m cs)(i j:Nat):C0 ((cs.take i).drop j)<=O H/\((cs.take i).drop j).all c7.one=W/\((cs.take i).drop j).map c7.F4=(cs.take i).drop j:=by
 refine ⟨A3 (A3 (sg _ _) (si _ _)) h.bd,?_,by rw [List.map_drop,List.map_take,h.cd]⟩;rw [L4];intro x hx;exact L4.1 h.one x (List.mem_of_mem_take (List.mem_of_mem_drop hx))
def qd.bJ8 {H:n9}{lv:c7}{m:Nat}{cs:List c7}(h:qd H lv m cs){ρ:z6->c7}{G:n9}{x:z6}(hx:ρ x=lv):l8 ρ G (.len x)=J (.d (Z m),[]):=by
 rcases h.at' with ⟨rfl,rfl⟩|⟨id,rfl,_⟩<;>simp [l8,hx,Z,i64]
theorem qd.mono {H H' :n9}{lv:c7}{m:Nat}{cs:List c7}(h:qd H lv m cs)(hL:O H<=O H')(hm:∀id,id<O H->H[id]? =J (.cells cs)->H'[id]? =H[id]?):qd H' lv m cs:=by
 refine ⟨h.AW,h.len,h.cd,h.one,A3 h.bd hL,?_⟩
 rcases h.at' with h1|⟨id,rfl,hid⟩
 .exact .inl h1
 .exact .inr ⟨id,rfl,(hm id (AK hid) hid).trans hid⟩
theorem qR {n:Nat}(h:n<=1000):roomFor n 56=W:=by
 refine decide_eq_true ?_;exact A3 (K4 _ (show 2 * n+512<=2512 by omega)) (by decide)
end Go.B3
namespace Go.Proofs.YtibjocmpkoepoaaGreat
open Go.B3
def uy (l:List X9)(v:Vl):Nat:=O (l.takeWhile λq=>J2 (KG (Y q.row 0) v) 0)
def uj (l:List X9)(a:Int):List X9:=l.take a.toNat++l.drop (a.toNat+1)
def ap8 (c:jw):X9:=⟨c.row,c9 (O c.row) c.seq,c.day⟩
def vN (l:List X9)(c:jw):List X9:=l.take (uy l (Y c.row 0))++ap8 c::l.drop (uy l (Y c.row 0))
def Wh (l:List X9)(a:Int)(c:jw):List X9:=l.set a.toNat ⟨(Y l a.toNat).row.set c.col.toNat c.val,(Y l a.toNat).seq.set c.col.toNat c.seq,(Y l a.toNat).day⟩
def S3 (l:List X9)(a:Int)(c:jw):List X9 :=
 if A1 c.op 1 then (if J2 a 0&&bC 64 (O l) then l else vN (if J2 a 0 then l else uj l a) c)
 else if J2 a 0 then l else if A1 c.op 2 then Wh l a c else uj l a
def au (ts:List (List X9))(c:jw):List (List X9):=ts.set c.W5.toNat (S3 (Y ts c.W5.toNat) (pF (Y ts c.W5.toNat) (AG c)) c)
def WD (w:Nat)(l:List X9):Prop:=O l<=64/\∀r∈l,O r.row=w/\O r.seq=w
def OkT (w:Nat->Nat)(ts:List (List X9)):Prop:=∀i,i<O ts->WD (w i) (Y ts i)
structure OkC (n:Nat)(w:Nat->Nat)(x:jw):Prop where
 t0:0<=x.W5
 t1:x.W5<n
 op:x.op=1\/x.op=2\/x.op=3
 row:O x.row=if x.op=1 then w x.W5.toNat else 0
 c0:0<=x.col
 c1:x.col<w x.W5.toNat
def aq5 {α:Type} [Inhabited α] {l:List α}{i j:Nat}{a:α}(hi:i<O l):Y (l.set j a) i=if j=i then a else Y l i:=by
 rw [H6 (by simpa using hi),List.getElem_set];split
 .rfl
 .rw [H6 hi]
theorem OkT.set {w:Nat->Nat}{ts:List (List X9)}(h:OkT w ts){j:Nat}{t:List X9}(ht:WD (w j) t):OkT w (ts.set j t):=λi hi=>by
 have hi:i<O ts:=by simpa using hi
 rw [aq5 hi];split
 next e=>
  subst e;exact ht
 .exact h i hi
def KN (t:List X9)(key:Vl):pF t key<O t/\ -1<=pF t key:=by
 unfold pF;split
 .split
  next i h=>
   have:=(List.findIdx?_eq_some_iff_getElem.1 h).1;omega
  .omega
 .omega
def Rt (l:List X9)(v:Vl):uy l v<=O l:=(List.takeWhile_sublist _).length_le
def Bb {w:Nat}{l:List X9}{a:Int}(h:WD w l)(h0:0<=a)(h1:a<O l):WD w (uj l a)/\O (uj l a)+1=O l:=by
 have hl:O (uj l a)+1=O l:=by simp [uj];omega
 refine ⟨⟨by have:=h.1;omega,λr hr=>h.2 r ?_⟩,hl⟩
 rcases List.mem_append.1 hr with hr|hr
 .exact List.mem_of_mem_take hr
 .exact List.mem_of_mem_drop hr
def RQ {w:Nat}{l:List X9}{c:jw}(h:WD w l)(hl:O l<64)(hw:O c.row=w):WD w (vN l c)/\O (vN l c)=O l+1:=by
 have hi:=Rt l (Y c.row 0);have e:O (vN l c)=O l+1:=by simp [vN];omega
 refine ⟨⟨V,λr hr=>?_⟩,e⟩;simp only [vN,List.mem_append,C4] at hr
 rcases hr with hr|rfl|hr
 .exact h.2 r (List.mem_of_mem_take hr)
 .simp [ap8,hw]
 .exact h.2 r (List.mem_of_mem_drop hr)
def aw4 {w:Nat}{l:List X9}{a:Int}{c:jw}(h:WD w l)(h1:a.toNat<O l):WD w (Wh l a c):=by
 refine ⟨by simpa [Wh] using h.1,λr hr=>?_⟩
 rcases List.mem_or_eq_of_mem_set hr with hr|rfl
 .exact h.2 r hr
 .have:=h.2 _ (P6 h1)
  simpa using this
def zg {w:Nat}{l:List X9}{a:Int}{c:jw}(h:WD w l)(h1:a<O l)(hw:c.op=1->O c.row=w):WD w (S3 l a c):=by
 unfold S3;split
 next ho=>
  have hw:=hw (aT ho);split
  .exact h
  next hc=>
   by_cases h2:a<0
   .have e:J2 a 0=W:=by rw [A5];simpa using h2
    rw [e,Bool.true_and,A7,decide_eq_true_eq] at hc;rw [if_pos e];exact (RQ h V hw).1
   .rw [if_neg (by rw [A5];simpa using h2)]
    have:=Bb h V h1;exact (RQ this.1 (by have:=h.1;omega) hw).1
 .split
  .exact h
  next h2=>
   have h2:¬ a<0:=by rw [A5] at h2;simpa using h2
   split
   .exact aw4 h V
   .exact (Bb h V h1).1
def qM {n:Nat}{w:Nat->Nat}{ts:List (List X9)}{x:jw}(h:OkT w ts)(hn:O ts=n)(hx:OkC n w x):OkT w (au ts x)/\O (au ts x)=n:=by
 have h0:=hx.t0;have h1:=hx.t1;refine ⟨h.set (zg (h _ V) (KN _ _).1 λe=>?_),by simpa [au] using hn⟩;rw [hx.row,if_pos e]
end Go.Proofs.YtibjocmpkoepoaaGreat
namespace Go.B3
def aW2 {T:List c7}{n:Nat}{rl:List c7}{H:n9}{x y:z6}{k:Nat}(hk:k<1000000)(hx:rq T n rl x= .d (Z (k:Int)))(hy:rq T n rl y= .d (Z 1)):l8 (rq T n rl) H (.bin .add x y)=J (.d (Z ((k+1:Nat):Int)),[]):=by
 grind [IntKind.wrap,i64,Go.B3.wrap_small,l8,Z,O2,aI,cC]
def aC7 {H X:n9}{c:B4}(h:2<=O H):(H++X).set 1 c=H.set 1 c++X:=VO c V
end Go.B3
namespace Go.Proofs.YtibjocmpkoepoaaGreat
open Go.B3 Go.B3.S
attribute [local irreducible] Rx Ry Rn Ex Pf Rl
def aH6 (n i k m:Nat)(H:n9)(x:jw)(oc cs:List c7)(lv w0 w1 w3 w7 w8 w9:c7)(Q:E6->St->Prop)(h0:H[0]? =J (.cells (x.enc.map .d)))(h1:H[1]? =J (.cells oc))(hL:2<=O H)(IM:O oc=n)(hi:x.W5=(i:Int))(hin:i<n)(hl:qd H lv m cs)(hk:k<m)(hm:m<=64)
  (hq:Q .normal ⟨[w0,w1,.ptr 0 0,w3,.s5 1 1 0 n,lv,.d (Z k),w7,w8,w9],H.set 1 (.cells (oc.set i (.s5 (O H+2) 3 0 (m - 1))))++[.dead,.dead,.cells (cs.take (k * 3)++cs.drop ((k+1) * 3))]⟩) :
  Ex A Q9 0 (match om.body with
   | .seq _ (.seq _ (.seq _ (.seq _ (.seq (.block _ (.test _ _ _ _ (.test _ _ _ _ (.test _ _ _ _ c)))) _))))=>c
   |c=>c) ⟨[w0,w1,.ptr 0 0,w3,.s5 1 1 0 n,lv,.d (Z k),w7,w8,w9],H⟩ Q:=by
 obtain ⟨u1,g1⟩:=hl.part (A4 k) V;obtain ⟨u2,g2⟩:=hl.part (show k+1<=m by omega) (o6 m);have e1:=hl.parts (k * 3) (0 * 3);have e2:=hl.parts (m * 3) ((k+1) * 3);have c1:(cs.take (k * 3)).drop (0 * 3)=cs.take (k * 3):=U
 have c2:(cs.take (m * 3)).drop ((k+1) * 3)=cs.drop ((k+1) * 3):=by rw [<- hl.len,List.take_length]
 rw [c2] at e2;have l1:O (cs.take (k * 3))=k * 3:=by rw [P7,hl.len];omega
 have s1:=g1.sc (H++[.cells []]) λid hid _=>bX hid
 have s2:=g2.sc (H++[.dead,.cells (cs.take (k * 3))]) λid hid _=>bX hid
 rw [c2] at s2;have b1:=g1.K9;have b2:=g2.K9;have hne:H≠[]:=by grind
 have r3:rd (H++[.dead]) 0 3 1=J [.d (Z x.W5)]:=de ((bX V).trans h0) rfl;refine Ex.region (Rn.Fe (O H) (H++[.dead]) [] rfl rfl rfl ?_);refine ym ?_;refine yp (rs:=[]) (.ptr 0 3) rfl ?_;refine yp (rs:=[0]) (.d (Z i)) (by simp [l8,rq,LR,lk,r3,hi,c7.F4]) ?_;refine yb' (O H+1) [] (H++[.cells []]) rfl U (qW H _ 0 _) rfl ?_;refine ym (hx:=⟨rfl,hl.AW⟩) ?_;refine ym ?_;refine yp (rs:=[]) u1 (g1.pf rfl _ _ _ _ hl.AW rfl) ?_;refine ya' (O H+1) k (O H+1) (H++[.dead,.cells (cs.take (k * 3))]) rfl g1.AW (mK H _ 0) s1 rfl ⟨U,by grind [qR],A3 e1.1 U,e1.2.1,U⟩ M U V V ?_;refine ym (hx:=⟨rfl,hl.AW⟩) ?_;refine ym ?_;refine yp (rs:=[]) _ (aW2 (k:=k) V rfl rfl) ?_;refine yp (rs:=[]) u2 (g2.pr rfl _ _ _ _ hl.AW rfl) ?_;refine ya' (O H+2) (m - 1) (O H+2) (H++[.dead,.dead,.cells (cs.take (k * 3)++cs.drop ((k+1) * 3))]) rfl g2.AW (mK H _ 1) s2 rfl ⟨l1.symm,qR V,A3 e2.1 U,e2.2.1,U⟩ M U V V ?_;refine yp (rs:=[]) (.ptr 1 i) (by simp [l8,rq,LR,lk,hin,Z,c7.F4]) ?_;refine ys rfl ⟨rfl,rfl⟩ rfl rfl rfl (.inr ⟨A4 _,A4 _⟩) ?_ ?_ (H2:=H.set 1 (.cells (oc.set i (.s5 (O H+2) 3 0 (m - 1))))++[.dead,.dead,.cells (cs.take (k * 3)++cs.drop ((k+1) * 3))])
 .simp only [wr,bX (show 1<O H by omega),h1,List.length_singleton,aC7 hL]
  rw [if_pos V,Bw _ _ _ V]
 simp_all [yn,fK,I9,Touch.G8,s7.makes,s7.A6,c7.K9]
def aO6 (n k m:Nat)(H:n9)(cs:List c7)(lv w0 w1 w2 w3 w4 w7 w8 w9:c7)(Q:E6->St->Prop)(hL:2<=O H)(hl:qd H lv m cs)(hk:k<m)(hm:m<=64)
  (hq:Q .normal ⟨[w0,w1,w2,w3,w4,.s5 (O H+2) 3 0 (m - 1),.d (Z k),w7,w8,w9],H++[.dead,.dead,.cells (cs.take (k * 3)++cs.drop ((k+1) * 3))]⟩) :
  Ex A Q9 0 (match om.body with
   | .seq _ (.seq _ (.seq _ (.seq _ (.seq (.block _ (.test _ _ _ (.seq (.test _ _ _ c _) _) _)) _))))=>c
   |c=>c) ⟨[w0,w1,w2,w3,w4,lv,.d (Z k),w7,w8,w9],H⟩ Q:=by
 obtain ⟨u1,g1⟩:=hl.part (A4 k) V;obtain ⟨u2,g2⟩:=hl.part (show k+1<=m by omega) (o6 m);have e1:=hl.parts (k * 3) (0 * 3);have e2:=hl.parts (m * 3) ((k+1) * 3);have c1:(cs.take (k * 3)).drop (0 * 3)=cs.take (k * 3):=U
 have c2:(cs.take (m * 3)).drop ((k+1) * 3)=cs.drop ((k+1) * 3):=by rw [<- hl.len,List.take_length]
 rw [c1] at e1;rw [c2] at e2;have l1:O (cs.take (k * 3))=k * 3:=by rw [P7,hl.len];omega
 have s1:=g1.sc (H++[.cells []]) λid hid _=>bX hid
 have s2:=g2.sc (H++[.dead,.cells (cs.take (k * 3))]) λid hid _=>bX hid
 rw [c1] at s1;rw [c2] at s2;have b1:=g1.K9;have b2:=g2.K9;show Ex A Q9 0 (.region _ W) _ _
 refine Ex.region (Rn.Fe (O H) (H++[.dead]) [] rfl rfl rfl ?_);refine yb' (O H+1) [] (H++[.cells []]) rfl U (qW H _ 0 _) rfl ?_;refine ym (hx:=⟨rfl,hl.AW⟩) ?_;refine ym ?_;refine yp (rs:=[]) u1 (g1.pf rfl _ _ _ _ hl.AW rfl) ?_;refine ya' (O H+1) k (O H+1) (H++[.dead,.cells (cs.take (k * 3))]) rfl g1.AW (mK H _ 0) s1 rfl ⟨U,by simpa using qR V,A3 e1.1 U,e1.2.1,U⟩ (by rw [show (H++[B4.cells []]).set (O H) .dead=H++[.dead] from qW H _ 0 _];simp) U V V ?_;refine ym (hx:=⟨rfl,hl.AW⟩) ?_;refine ym ?_;refine yp (rs:=[]) _ (aW2 (k:=k) V rfl rfl) ?_;refine yp (rs:=[]) u2 (g2.pr rfl _ _ _ _ hl.AW rfl) ?_;refine ya' (O H+2) (m - 1) (O H+2) (H++[.dead,.dead,.cells (cs.take (k * 3)++cs.drop ((k+1) * 3))]) rfl g2.AW (mK H _ 1) s2 rfl ⟨l1.symm,qR V,A3 e2.1 U,e2.2.1,U⟩ (by rw [qW,e1.2.2];simp) U V V ?_;refine ymT [w0,w1,w2,w3,w4,.s5 (O H+2) 3 0 (m - 1),.d (Z k),w7,w8,w9] U rfl ?_;refine yn hq ?_;have hne:H≠[]:=by rintro rfl;cases hL
 simp [fK,I9,Touch.G8,s7.makes,s7.A6,c7.K9,hne]
def aR7 {H:n9}{a i:Nat}{r:List Vl}(h:H[a]? =J (.cells (fe r)))(hi:i<O r)(v:Vl):wr H a (0+i * 3) (v.enc.map .d)=J (H.set a (.cells (fe (r.set i v)))):=by
 have e:r=r.take i++Y r i::r.drop (i+1):=by rw [<- E3 hi,List.take_append_drop]
 have hl:O (r.take i)=i:=by rw [P7];omega
 have h' :H[a]? =J (.cells (((r.take i++Y r i::r.drop (i+1)).flatMap Vl.enc).map .d)):=by rw [<- e];exact h
 have:=Qq (enc:=Vl.enc) (sz:=3) (λ_=>rfl) h' v;rw [hl] at this;have hs:r.set i v=r.take i++v::r.drop (i+1):=by rw [List.set_eq_take_append_cons_drop,if_pos hi]
 rw [this,hs];rfl
def aR8 {H:n9}{a i:Nat}{r:List Int}(h:H[a]? =J (.cells (eD r)))(hi:i<O r)(v:Int):wr H a (0+i * 1) [.d (Z v)]=J (H.set a (.cells (eD (r.set i v)))):=by
 have e:r=r.take i++Y r i::r.drop (i+1):=by rw [<- E3 hi,List.take_append_drop]
 have hl:O (r.take i)=i:=by rw [P7];omega
 have h' :H[a]? =J (.cells (((r.take i++Y r i::r.drop (i+1)).flatMap λn=>[Z n]).map .d)):=by rw [<- e];exact h
 have:=Qq (enc:=λn:Int=>[Z n]) (sz:=1) (λ_=>rfl) h' v;rw [hl] at this;have hs:r.set i v=r.take i++v::r.drop (i+1):=by rw [List.set_eq_take_append_cons_drop,if_pos hi]
 rw [hs];exact this
def aR4 (n k m i id a b:Nat)(H:n9)(x:jw)(r:X9)(cs:List c7)(w0 w1 w3 w4 w7 w8 w9:c7)(Q:E6->St->Prop)(h0:H[0]? =J (.cells (x.enc.map .d)))(hi:x.col=(i:Int))(hid:H[id]? =J (.cells cs))(hk:k<m)
  (hca:cs[k * 3]? =J (.s5 a 3 0 (O r.row))) (hcb:cs[k * 3+1]? =J (.s5 b 1 0 (O r.seq))) (ha:H[a]? =J (.cells (fe r.row))) (hb:H[b]? =J (.cells (eD r.seq))) (hab:a≠b) (ha0:a≠0) (hir:i<O r.row) (his:i<O r.seq)
  (hq:Q .normal ⟨[w0,w1,.ptr 0 0,w3,w4,.s5 id 3 0 m,.d (Z k),w7,w8,w9],(H.set a (.cells (fe (r.row.set i x.val)))).set b (.cells (eD (r.seq.set i x.seq)))⟩) :
  Ex A Q9 0 (match om.body with
   | .seq _ (.seq _ (.seq _ (.seq _ (.seq (.block _ (.test _ _ _ _ (.test _ _ _ _ (.test _ _ _ c _)))) _))))=>c
   |c=>c) ⟨[w0,w1,.ptr 0 0,w3,w4,.s5 id 3 0 m,.d (Z k),w7,w8,w9],H⟩ Q:=by
 have r8:rd H 0 (0+8) 1=J [.d (Z i)]:=by rw [<- hi];exact de h0 rfl
 have r1:rd H 0 (0+1) 1=J [.d (Z x.seq)]:=de h0 rfl;have r9:rd H 0 (0+9) 3=J (x.val.enc.map .d):=by simp [rd,h0,jw.enc,Vl.enc]
 have ra:rd H id (0+k * 3+0) 1=J [.s5 a 3 0 (O r.row)]:=de hid (by simpa using hca);have rb:rd H id (0+k * 3+1) 1=J [.s5 b 1 0 (O r.seq)]:=de hid (by simpa using hcb);show Ex A Q9 0 (.region _ W) _ _
 refine Ex.region (Rn.Fe (O H) H [] rfl (by simp [Z2,s7.A6]) rfl ?_);refine ym ?_;refine ym ?_;refine yp _ (YK rfl rfl hk) ?_;refine yp _ (AM rfl) ?_;refine yp _ (Wv rfl ra rfl) ?_;refine yp _ (AM rfl) ?_;refine yp _ (Wv rfl r8 rfl) ?_;refine ym ?_;refine ym ?_;refine yp _ (YK rfl rfl hk) ?_;refine yp _ (AM rfl) ?_;refine yp _ (Wv rfl rb rfl) ?_;refine yp _ (AM rfl) ?_;refine yp _ (Wv rfl r8 rfl) ?_;refine yp _ (AM rfl) ?_;refine yp _ (Vv rfl r9 rfl) ?_;refine yp _ (AM rfl) ?_;refine yp _ (Wv rfl r1 rfl) ?_;refine yp _ (YK rfl rfl hir) ?_;refine ys rfl ⟨rfl,rfl⟩ rfl rfl rfl (.inl (A4 _)) (aR7 ha hir x.val) ?_;refine yp _ (YK rfl rfl his) ?_;refine ys rfl ⟨rfl,rfl⟩ rfl rfl rfl (.inl (A4 _)) (aR8 (by rw [q8 hab,hb]) his x.seq) ?_;refine yn hq ?_;simp [fK,I9,Touch.G8,s7.makes,s7.A6,ha0]
def aM3 (H:n9)(x:jw)(w0 w1 w3 w4 w5 w6 w7 w8 w9:c7)(Q:E6->St->Prop)(h0:H[0]? =J (.cells (x.enc.map .d)))(hL:2<=O H)(hr:O x.row<=100)
  (hq:Q .normal ⟨[w0,w1,.ptr 0 0,w3,w4,w5,w6,.ptr (O H+1) 0,w8,w9],H++[.dead,.cells [.s5 (O H+2) 3 0 (O x.row),.H7,.d (Z x.day)],.cells (fe x.row)]⟩) :
  Ex A Q9 0 (match om.body with
   | .seq _ (.seq _ (.seq _ (.seq _ (.seq (.block _ (.test _ _ _ (.seq _ (.seq c _)) _)) _))))=>c
   |c=>c) ⟨[w0,w1,.ptr 0 0,w3,w4,w5,w6,w7,w8,w9],H⟩ Q:=by
 have r4:∀X,rd (H++X) 0 (0+4) 1=J [.d (B8 Vl.enc x.row)]:=λX=>de ((bX V).trans h0) rfl
 have r2:∀X,rd (H++X) 0 (0+2) 1=J [.d (Z x.day)]:=λX=>de ((bX V).trans h0) rfl
 show Ex A Q9 0 (.region _ W) _ _
 refine Ex.region (Rn.Fe (O H) (H++[.dead,.dead]) [.slot 7] rfl rfl rfl ?_);refine yb' (O H+1) [] (H++[.cells [],.dead]) rfl U (qW H _ 0 _) rfl ?_;refine yp _ (AM rfl) ?_;refine yp _ (Wv rfl (r4 _) rfl) ?_;refine ya' (O H+2) (O x.row) (O H+1) (H++[.dead,.dead,.cells (fe x.row)]) rfl rfl (mK H _ 0) (Zm _ _) rfl ⟨U,?_,by rw [fe,uU];omega,Jh _,U⟩ (by rw [show (H++[B4.cells [],.dead]).set (O H) .dead=H++[.dead,.dead] from qW H _ 0 _];simp) U U (Nat.max_eq_left (A4 _)) ?_
 .refine decide_eq_true ?_
  exact A3 (K4 _ (show 2 * (0+O x.row)+512<=2512 by omega)) (by decide)
 refine yp _ (AM rfl) ?_;refine yp _ (Wv rfl (r2 _) rfl) ?_;refine yp (rs:=[]) (.agg [.s5 (O H+2) 3 0 (O x.row),.H7,.d (Z x.day)]) rfl ?_;refine yal (O H+2) [w0,w1,.ptr 0 0,w3,w4,w5,w6,.ptr (O H+1) 0,w8,w9] (H++[.dead,.cells [.H7,.H7,.d (.int .i64 0)],.cells (fe x.row)]) U rfl rfl (qW H _ 1 _) rfl ?_;refine ys rfl ⟨rfl,rfl⟩ rfl rfl rfl (.inr ⟨A4 _,A4 _⟩) ?_ ?_ (H2:=H++[.dead,.cells [.s5 (O H+2) 3 0 (O x.row),.H7,.d (Z x.day)],.cells (fe x.row)])
 .simp only [wr,mK,qW]
  rfl
 refine yn hq ?_;have hne:H≠[]:=by rintro rfl;cases hL
 simp [fK,I9,Touch.G8,s7.makes,s7.A6,c7.K9,hne]
end Go.Proofs.YtibjocmpkoepoaaGreat
namespace Go.B3
def aD2 {H X:n9}{id:Nat}{p q r v:c7}(h:H[id]? =J (.cells [p,q,r])):wr (H++X) id (0+1) [v]=J (H.set id (.cells [p,v,r])++X):=by
 have hL:=AK h;simp only [wr,bX hL,h,VO _ hL];rfl
def VN (k:Nat)(q:Int):eD (c9 k q)++[.d (Z q)]=eD (c9 (k+1) q):=by
 rw [List.replicate_succ',eD,eD,List.flatMap_append,List.map_append];rfl
def Zz (s:List Int):O (eD s)=O s:=by rw [eD,C5,Br]
def Zy (s:List Int):(eD s).map c7.F4=eD s:=by
 simp [eD,c7.F4]
def aC4 {n:Nat}(h:n<=1000):roomFor n 8=W:=by
 refine decide_eq_true ?_;exact A3 (K4 _ (show 2 * n+512<=2512 by omega)) (by decide)
end Go.B3
namespace Go.Proofs.YtibjocmpkoepoaaGreat
open Go.B3 Go.B3.S
attribute [local irreducible] Rx Ry Rn Ex Pf Rl
def aQ3 (H:n9)(x:jw)(Bl:Nat)(pa w0 w1 w3 w4 w5 w6 w8 w9:c7)(Q:E6->St->Prop)(h0:H[0]? =J (.cells (x.enc.map .d)))(hr:O x.row<=100)(Li:H[Bl]? =J (.cells [pa,.H7,.d (Z x.day)]))(hr0:Bl≠0)
  (hq:∀H' sv w0 w1 w3 w6 w9,O H<=O H'->(∀y,y<O H->y≠Bl->H'[y]? =H[y]?)->H'[Bl]? =J (.cells [pa,sv,.d (Z x.day)])->((O x.row=0/\sv= .H7)\/∃s,sv= .s5 s 1 0 (O x.row)/\O H<=s/\H'[s]? =J (.cells (eD (c9 (O x.row) x.seq)))) ->
   Q .normal ⟨[w0,w1,.ptr 0 0,w3,w4,w5,w6,.ptr Bl 0,.d (Z (O x.row)),w9],H'⟩) :
  Ex A Q9 0 (match om.body with
   | .seq _ (.seq _ (.seq _ (.seq _ (.seq (.block _ (.test _ _ _ (.seq _ (.seq _ (.seq c _))) _)) _))))=>c
   |c=>c) ⟨[w0,w1,.ptr 0 0,w3,w4,w5,w6,.ptr Bl 0,w8,w9],H⟩ Q:=by
 show Ex A Q9 0 (.seq (.region _ F) (.block 1 (.loop _ (.seq (.test _ _ _ _ _) (.seq (.block 2 (.region _ F)) (.region _ F)))))) _ _
 refine gr ?_;refine Ex.loop (λq s=>∃k H' sv w0 w1 w3 w6 w9,k<=O x.row/\q=O x.row - k/\s=⟨[w0,w1,.ptr 0 0,w3,w4,w5,w6,.ptr Bl 0,.d (Z (k:Nat)),w9],H'⟩/\O H<=O H'/\(∀y,y<O H->y≠Bl->H'[y]? =H[y]?)/\H'[Bl]? =J (.cells [pa,sv,.d (Z x.day)]) /\
  ((k=0/\sv= .H7/\O H'=O H)\/∃s,sv= .s5 s 1 0 k/\O H<=s/\H'[s]? =J (.cells (eD (c9 k x.seq))))) ?_ (k:=O x.row) ⟨0,H,.H7,_,_,_,_,_,V,V,rfl,V,λ_ _ _=>rfl,Li,.inl ⟨rfl,rfl,rfl⟩⟩
 rintro q s ⟨k,H',sv,u0,u1,u3,u6,u9,hk,rfl,rfl,hL',hfr,FO,hsv⟩;have ba8:=AK Li;have hgrow:O H'=O H\/∃v∈[pa,sv,.d (Z x.day)],O H<v.K9:=by
  rcases hsv with ⟨_,_,h⟩|⟨s,rfl,h,_⟩
  .exact .inl h
  .exact .inr ⟨.s5 s 1 0 k,U,by simp [c7.K9];omega⟩
 rw [show (Q9).strict=0 from rfl,qw FO ba8 hgrow];refine Ex.nT ?_;have g0:H'[0]? =J (.cells (x.enc.map .d)):=(hfr 0 V (Ne.symm hr0)).trans h0;have r4:rd H' 0 (0+4) 1=J [.d (B8 Vl.enc x.row)]:=de g0 rfl;have r1:rd H' 0 (0+1) 1=J [.d (Z x.seq)]:=de g0 rfl;refine Ex.seq ?_;refine Ex.jl (J2 (k:Int) (O x.row)) ?_ (λh=>?_) (λh=>?_)
 .refine Rn.text ?_
  repeat' (first|refine lpx r4 rfl ?_|refine gx ?_|refine fq (λhw=>?_) λhw=>?_|refine ⟨rfl,rfl,_,rfl,?_⟩|refine ⟨rfl,rfl⟩|fail)
  rfl
 .have hlt:=F5 h
  refine Ex.skip ?_;refine Ex.seq ?_;refine Ex.block ?_;refine Ex.region (Rn.text ?_);refine gx ?_;refine Ry.pure rfl (Wv rfl (de FO rfl) rfl) ?_;refine gx ?_;refine lpx r1 rfl ?_;refine bso (id:=O H') [.d (Z x.seq)] rfl ⟨by decide,rfl⟩ rfl rfl ?_;have sc:C1 (H' ++[.cells [.d (Z x.seq)]]) 1 (.s5 (O H') 1 0 1)=J (1,[.d (Z x.seq)]):=by simp [C1,rd,c7.F4]
  rcases hsv with ⟨rfl,rfl,hl⟩|⟨s,rfl,hs,hS⟩
  .refine apz (j2:=0) (O H'+1) (H' ++[.cells [.d (Z x.seq)],.cells [.d (Z x.seq)]]) rfl rfl rfl rfl rfl rfl ((bX V).trans FO) rfl rfl sc (by decide) (by decide) U U ?_
   refine gx ?_;refine soy rfl ⟨rfl,rfl⟩ rfl rfl rfl (.inr ⟨A4 _,A4 _⟩) (aD2 FO) ?_
   repeat' (first|refine ad V ?_|refine gx ?_|fail)
   refine ⟨O x.row - (0+1),V,0+1,_,_,_,_,_,_,_,V,rfl,rfl,D,λy hy hne=>?_,?_,.inr ⟨O H'+1,rfl,V,?_⟩⟩
   .rw [bX D,q8 (Ne.symm hne),hfr y hy hne]
   .rw [bX D,C7 V]
   .have:=mK (H'.set Bl (.cells [pa,.s5 (O H'+1) 1 0 1,.d (Z x.day)])) [.cells [.d (Z x.seq)],.cells [.d (Z x.seq)]] 1
    rw [List.length_set] at this;exact this
  .have hsL:=AK hS
   have hsr:s≠Bl:=V
   have ba7:(H'.set s .dead)[Bl]? =J (.cells [pa,.s5 s 1 0 k,.d (Z x.day)]):=by rw [q8 hsr,FO]
   refine apn (O H'+1) (k+1) (H'.set s .dead++[.cells [.d (Z x.seq)],.cells (eD (c9 (k+1) x.seq))]) rfl rfl ((bX hsL).trans hS) sc rfl ⟨by rw [Zz,List.length_replicate,Nat.mul_one],aC4 V,by simp [C0,c7.K9],by simp [c7.one],by decide⟩ (by rw [VO _ hsL,Zy,VN];simp) U rfl ?_;refine gx ?_;refine soy rfl ⟨rfl,rfl⟩ rfl rfl rfl (.inr ⟨A4 _,A4 _⟩) (aD2 ba7) ?_
   repeat' (first|refine ad V ?_|refine gx ?_|fail)
   refine ⟨O x.row - (k+1),V,k+1,_,_,_,_,_,_,_,V,rfl,rfl,D,λy hy hne=>?_,?_,.inr ⟨O H'+1,rfl,V,?_⟩⟩
   .rw [bX D,q8 (Ne.symm hne),q8 V,hfr y hy hne]
   .rw [bX D,C7 D]
   .have:=mK ((H'.set s .dead).set Bl (.cells [pa,.s5 (O H'+1) 1 0 (k+1),.d (Z x.day)])) [.cells [.d (Z x.seq)],.cells (eD (c9 (k+1) x.seq))] 1
    rw [List.length_set,List.length_set] at this;exact this
 .have hge:=G7 h
  refine Ex.exit ?_;obtain rfl:k=O x.row:=V
  refine hq H' sv _ _ _ _ _ hL' hfr FO ?_
  rcases hsv with ⟨h,rfl,_⟩|h
  .exact .inl ⟨h,rfl⟩
  .exact .inr h
def ao5 {l:List X9}{v:Vl}{j:Nat}(hj:j<=O l)(h1:∀i,i<j->J2 (KG (Y (Y l i).row 0) v) 0=W)(h2:j<O l->J2 (KG (Y (Y l j).row 0) v) 0=F):uy l v=j:=by
 unfold uy
 induction l generalizing j with
 |nil=>simp at hj;simp [hj]
 |cons a l ih =>
  cases j with
  |zero =>
   have:=h2 U;rw [V8] at this;simp [List.takeWhile_cons,this]
  |succ j =>
   have h0:=h1 0 V;rw [V8] at h0;simp only [List.takeWhile_cons,h0,if_true,q7,Nat.add_right_cancel_iff];exact ih (by simpa using hj) (λi hi=>by have:=h1 (i+1) V;rwa [kU] at this) λhi=>by have:=h2 (by simpa using hi);rwa [kU] at this
def aN7 (H:n9)(l:List X9)(row:List Vl)(cs:List c7)(ids:List Nat)(Bl a w:Nat)(lv w0 w1 w3 w4 w6 w8 sv dy:c7)(Q:E6->St->Prop)(hl:qd H lv (O l) cs)(hR:O4 H cs l ids)(hm:O l<=64)(hrow:∀r∈l,0<O r.row)(Li:H[Bl]? =J (.cells [.s5 a 3 0 w,sv,dy]))(ha:H[a]? =J (.cells (fe row)))(hw:0<w)(hrl:0<O row)
  (hq:∀w0 w1 w3 w6 w8,Q .normal ⟨[w0,w1,.ptr 0 0,w3,w4,lv,w6,.ptr Bl 0,w8,.d (Z (uy l (Y row 0)))],H⟩) :
  Ex A Q9 0 (match om.body with
   | .seq _ (.seq _ (.seq _ (.seq _ (.seq (.block _ (.test _ _ _ (.seq _ (.seq _ (.seq _ (.seq _ (.seq c _))))) _)) _))))=>c
   |c=>c) ⟨[w0,w1,.ptr 0 0,w3,w4,lv,w6,.ptr Bl 0,w8,.d (Z 0)],H⟩ Q:=by
 show Ex A Q9 0 (.block 3 (.loop _ (.seq (.test _ _ _ _ _) (.block 4 (.region _ F))))) _ _
 refine Ex.block ?_;refine Ex.Ga (λk T' H' =>∃(j:Nat) (w0 w1 w3 w6 w8:c7),j<=O l/\k=O l - j/\T' =[w0,w1,.ptr 0 0,w3,w4,lv,w6,.ptr Bl 0,w8,.d (Z j)]/\H' =H/\∀i,i<j->J2 (KG (Y (Y l i).row 0) (Y row 0)) 0=W) (by rintro _ _ _ ⟨_,_,_,_,_,_,_,_,_,rfl,_⟩;rfl) ?_ (k:=O l) ⟨0,_,_,_,_,_,V,V,rfl,rfl,λ_ h=>V⟩;rintro k T' H' ⟨j,u0,u1,u3,u6,u8,hj,rfl,rfl,rfl,hb⟩;refine Ex.nT ?_;have rr:rd H' Bl (0+0) 1=J [.s5 a 3 0 w]:=de Li rfl;have ra:rd H' a (0+(0:Int).toNat * 3) 3=J ((Y row 0).enc.map .d):=PR ha hrl;have fin:(j<O l->J2 (KG (Y (Y l j).row 0) (Y row 0)) 0=F)->uy l (Y row 0)=j:=ao5 hj hb;refine Ex.seq ?_
 rcases hl.at' with ⟨rfl,h0⟩|⟨id,rfl,hid⟩
 .obtain rfl:j=0:=V
  refine Ex.jl F ?_ (λh=>?_) (λh=>?_)
  .refine Rn.draw ?_
   refine gx ?_;refine gx ?_;refine gx ?_;refine gx ?_;refine gx ?_;refine fk (h1:=λhw=>?_) (h2:=λhw=>?_)
   .cases F5 hw
   .repeat' (first|refine gx ?_|refine fq (λhw=>?_) λhw=>?_|refine ⟨rfl,rfl,_,rfl,?_⟩|refine ⟨rfl,rfl⟩|fail)
    rfl
  .cases h
  .refine Ex.exit ?_
   have:=hq .any .any .any .any .any;rw [fin λh=>V] at this;exact this
 .refine Ex.jl (J2 (j:Int) (O l)&&J2 (KG (Y (Y l j).row 0) (Y row 0)) 0) ?_ (λh=>?_) (λh=>?_)
  .refine Rn.draw ?_
   by_cases hlt:j<O l
   .obtain ⟨a',b',g1,g2,g3,g4,g5,g6⟩:=hR.at hlt
    have r1:rd H' id (0+(j:Int).toNat * 3+0) 1=J [.s5 a' 3 0 (O (Y l j).row)]:=de hid (by simpa using g1);have hp:=hrow _ (P6 hlt);have r3:rd H' a' (0+(0:Int).toNat * 3) 3=J ((Y (Y l j).row 0).enc.map .d):=PR g5 hp
    repeat' (first|refine lnr ?_|refine ixo (e:=(j:Int)) (len:=O l) ⟨V,V⟩ ?_|refine ixo (e:=0) (len:=O (Y l j).row) ⟨V,V⟩ ?_|refine lpx r1 rfl ?_|refine Vk r3 rfl ?_|refine lpx rr rfl ?_|refine ixo (e:=0) (len:=w) ⟨V,V⟩ ?_|refine Vk ra rfl ?_|refine cl (aN2 _ _) ?_|refine uf (aN2 _ _) ?_|refine gx ?_|refine fq (λhw=>?_) λhw=>?_|refine ⟨rfl,rfl,_,rfl,?_⟩|refine ⟨rfl,rfl⟩|fail)
    all_goals first|(simp [*,j5];done)|(simp_all [j5];done)
   .have:J2 (j:Int) (O l)=F:=by rw [A5];simpa using hlt
    repeat' (first|refine lnr ?_|refine gx ?_|refine fq (λhw=>?_) λhw=>?_|refine ⟨rfl,rfl,_,rfl,?_⟩|refine ⟨rfl,rfl⟩|fail)
    all_goals first|(simp [*,j5];done)|(simp_all [j5];done)
  .rw [c8] at h
   have hlt:=F5 h.1
   repeat' (first|refine ad V ?_|refine gx ?_|fail)
   refine ⟨O l - (j+1),V,j+1,_,_,_,_,_,V,rfl,rfl,rfl,λi hi=>?_⟩
   rcases x9 i j with h2|h2
   .exact hb i h2
   .rw [show i=j by omega]
    exact h.2
  .refine Ex.exit ?_
   have:=hq .any .any .any .any .any;rw [fin λhlt=>by
    have e:J2 (j:Int) (O l)=W:=by rw [A5];simpa using hlt
    rwa [e,Bool.true_and] at h] at this
   exact this
end Go.Proofs.YtibjocmpkoepoaaGreat
namespace Go.B3
def O4.bl9 {H:n9}{r:X9}{a b:Nat}(ha:H[a]? =J (.cells (fe r.row)))(hb:H[b]? =J (.cells (eD r.seq))):O4 H [.s5 a 3 0 (O r.row),.s5 b 1 0 (O r.seq),.d (Z r.day)] [r] [a,b]:=⟨a,b,[],[],rfl,rfl,ha,hb,rfl,rfl⟩
end Go.B3
namespace Go.Proofs.YtibjocmpkoepoaaGreat
open Go.B3 Go.B3.S
attribute [local irreducible] Rx Ry Rn Ex Pf Rl
def aL4 (n i k m Bl a s w:Nat)(H:n9)(x:jw)(oc cs:List c7)(lv w0 w1 w3 w6 w8:c7)(dy:B3.Data)(Q:E6->St->Prop)(h0:H[0]? =J (.cells (x.enc.map .d)))(h1:H[1]? =J (.cells oc))(hL:2<=O H)(IM:O oc=n)(hi:x.W5=(i:Int))(hin:i<n)(hl:qd H lv m cs)(hk:k<=m)(hm:m<=64)
  (Li:H[Bl]? =J (.cells [.s5 a 3 0 w,.s5 s 1 0 w,.d dy])) (haL:a<O H) (hsL:s<O H)
  (hq:Q .normal ⟨[w0,w1,.ptr 0 0,w3,.s5 1 1 0 n,lv,w6,.ptr Bl 0,w8,.d (Z k)],H.set 1 (.cells (oc.set i (.s5 (O H+4) 3 0 (m+1))))++[.dead,.cells [.s5 a 3 0 w,.s5 s 1 0 w,.d dy],.dead,.dead,.cells (cs.take (k * 3)++[.s5 a 3 0 w,.s5 s 1 0 w,.d dy]++cs.drop (k * 3))]⟩) :
  Ex A Q9 0 (match om.body with
   | .seq _ (.seq _ (.seq _ (.seq _ (.seq (.block _ (.test _ _ _ (.seq _ (.seq _ (.seq _ (.seq _ (.seq _ c))))) _)) _))))=>c
   |c=>c) ⟨[w0,w1,.ptr 0 0,w3,.s5 1 1 0 n,lv,w6,.ptr Bl 0,w8,.d (Z k)],H⟩ Q:=by
 obtain ⟨u1,g1⟩:=hl.part (A4 k) hk;obtain ⟨u2,g2⟩:=hl.part hk (o6 m);have e1:=hl.parts (k * 3) (0 * 3);have e2:=hl.parts (m * 3) (k * 3);have c1:(cs.take (k * 3)).drop (0 * 3)=cs.take (k * 3):=U
 have c2:(cs.take (m * 3)).drop (k * 3)=cs.drop (k * 3):=by rw [<- hl.len,List.take_length]
 rw [c1] at e1;rw [c2] at e2;have l1:O (cs.take (k * 3))=k * 3:=by rw [P7,hl.len];omega
 have bS0:=AK Li;generalize hR:[c7.s5 a 3 0 w,.s5 s 1 0 w,.d dy]=R at Li hq;have hRl:O R=3:=by subst hR;rfl
 have hRa:R.map c7.F4=R:=by subst hR;rfl
 have hRo:R.all c7.one=W:=by subst hR;rfl
 have hRb:C0 R<=O H:=by subst hR;simp [C0,c7.K9];omega
 have s1:=g1.sc (H++[.cells [],.dead]) λid hid _=>bX hid
 have s2:=g2.sc (H++[.dead,.cells R,.dead,.cells (cs.take (k * 3)++R)]) λid hid _=>bX hid
 rw [c1] at s1;rw [c2] at s2;have sR:C1 (H++[.dead,.cells R,.cells (cs.take (k * 3))]) 3 (.s5 (O H+1) 3 0 1)=J (1,R):=by
  have:rd (H++[.dead,.cells R,.cells (cs.take (k * 3))]) (O H+1) 0 (1 * 3)=J R:=by
   rw [rd,mK];simp [hRl];rw [y6 V]
  simp only [C1,if_true,this,hRa]
 have b1:=g1.K9;have b2:=g2.K9;have hne:H≠[]:=by rintro rfl;cases hL
 have r3:rd (H++[.dead,.dead]) 0 (0+3) 1=J [.d (Z i)]:=by rw [<- hi];exact de ((bX V).trans h0) rfl
 have rr:rd (H++[.dead,.dead,.cells (cs.take (k * 3))]) Bl 0 3=J R:=by
  rw [rd,bX bS0,Li];simp [hRl];rw [y6 V]
 show Ex A Q9 0 (.region _ W) _ _
 refine Ex.region (Rn.Fe (O H) (H++[.dead,.dead]) [] rfl rfl rfl ?_);refine ym ?_;refine yp _ (AM rfl) ?_;refine yp _ (Wv rfl r3 rfl) ?_;refine yb' (O H+1) [] (H++[.cells [],.dead]) rfl U (qW H _ 0 _) rfl ?_;refine ym (hx:=⟨rfl,hl.AW⟩) ?_;refine ym ?_;refine yp (rs:=[]) u1 (g1.pf rfl _ _ _ _ hl.AW rfl) ?_;refine ya' (O H+2) k (O H+1) (H++[.dead,.dead,.cells (cs.take (k * 3))]) rfl g1.AW (mK H _ 0) s1 rfl ⟨U,by simpa using qR V,A3 e1.1 U,e1.2.1,U⟩ (by rw [show (H++[B4.cells [],.dead]).set (O H) .dead=H++[.dead,.dead] from qW H _ 0 _];simp) U V V ?_;refine yp _ (Vv rfl rr hRa) ?_;refine yb' (O H+2) R (H++[.dead,.cells R,.cells (cs.take (k * 3))]) (by subst hR;rfl) (by simp [hRl]) (qW H _ 1 _) rfl ?_;refine ya' (O H+3) (k+1) (O H+3) (H++[.dead,.cells R,.dead,.cells (cs.take (k * 3)++R)]) rfl rfl (mK H _ 2) sR rfl ⟨l1.symm,qR V,A3 hRb U,hRo,U⟩ (by rw [qW,e1.2.2];simp) U V (Nat.max_eq_left (show O H+1+1<=O H+2+1 by omega)) ?_;refine ym (hx:=⟨rfl,hl.AW⟩) ?_;refine ym ?_;refine yp (rs:=[]) u2 (g2.pr rfl _ _ _ _ hl.AW rfl) ?_;refine ya' (O H+4) (m+1) (O H+4) (H++[.dead,.cells R,.dead,.dead,.cells (cs.take (k * 3)++R++cs.drop (k * 3))]) rfl g2.AW (mK H _ 3) s2 rfl ⟨by rw [s9,l1,hRl];omega,qR V,A3 e2.1 U,e2.2.1,U⟩ (by rw [qW,List.map_append,e1.2.2,hRa];simp) U V V ?_;refine yp _ (YK rfl rfl hin) ?_;refine ys rfl ⟨rfl,rfl⟩ rfl rfl rfl (.inr ⟨A4 _,A4 _⟩) ?_ ?_ (H2:=H.set 1 (.cells (oc.set i (.s5 (O H+4) 3 0 (m+1))))++[.dead,.cells R,.dead,.dead,.cells (cs.take (k * 3)++R++cs.drop (k * 3))])
 .simp only [wr,bX (show 1<O H by omega),h1,List.length_singleton,aC7 hL]
  rw [if_pos V,Bw _ _ _ V];simp
 refine yn hq ?_;simp [fK,I9,Touch.G8,s7.makes,s7.A6,c7.K9,hne];omega
def Xr {T:List c7}{H:n9}{ts:List (List X9)}{oc:List c7}{ids:List Nat}(hT:T[3]? =J (.s5 1 1 0 (O ts)))(ho:H[1]? =J (.cells oc))(h:Y7 H oc ts ids)(h1:O ts<300000)(h2:∀t∈ts,O t<100000/\∀r∈t,O r.row<100000/\O r.seq<100000):aZ om 0 (J (.ret,⟨T,H⟩))=J (.d (V9 ts),[]):=by
 have h3:=h.UR ho h1 h2;have h4:bS T H om.results=J [.s5 1 1 0 (O ts)]:=by
  show bS T H [.slot 3]=_
  simp only [bS,mP,hT]
 unfold aZ;simp only [h4];show finish F 0 [.s5 1 1 0 (O ts)] H=_
 simp only [finish,e8,if_false,j5,h3];simp [c7.K9]
theorem Xl {H:n9}{ts:List (List X9)}{oc:List c7}{ids:List Nat}{n:Nat}{w0 w1 w2 w3 w5 w6 w7 w8 w9:c7}(hn:O ts=n)(ho:H[1]? =J (.cells oc))(h:Y7 H oc ts ids)(h1:O ts<300000)(h2:∀t∈ts,O t<100000/\∀r∈t,O r.row<100000/\O r.seq<100000) :
  Ex A Q9 0 (match om.body with
   | .seq _ (.seq _ (.seq _ (.seq _ (.seq _ c))))=>c
   |c=>c) ⟨[w0,w1,w2,w3,.s5 1 1 0 n,w5,w6,w7,w8,w9],H⟩ (λx s=>∃w,aZ om 0 (J (x,s))=J (w,[])/\w= .d (V9 ts)):=by
 subst hn;show Ex A Q9 0 (.seq (.region _ F) .ret) _ _
 refine gr ?_;exact ⟨_,Xr rfl ho h h1 h2,rfl⟩
theorem au4 {α:Type} [Inhabited α] {l:List α}{i:Nat}(h:i<O l):l.set i (Y l i)=l:=by rw [H6 h,List.set_getElem_self]
def VY {α:Type} [Inhabited α] {l:List α}{i:Nat}(h:i<O l):l=l.take i++Y l i::l.drop (i+1):=by rw [<- E3 h,List.take_append_drop]
def VP {α:Type}{l:List α}{i:Nat}(h:i<O l)(a:α):l.set i a=l.take i++a::l.drop (i+1):=by rw [List.set_eq_take_append_cons_drop,if_pos h]
end Go.Proofs.YtibjocmpkoepoaaGreat
namespace Go.B3.S
def lpa {A:Prog}{l:H8}{b:Nat}{dr:Bool}{j9 ops:List o4}{T:List c7}{H:n9}{n:Nat}{rl:List c7}{o5:List Touch}{Q:List c7->n9->List c7->Prop}{x:z6}{id o:Nat}{v w:c7}{u:List Nat}(hr:rd H id o 1=J [v])(hv:v.F4=w)(h2:Ry A l b dr j9 ops T H (n+1) (w::rl) o5 Q)(hx:rq T n rl x= .ptr id o:=by rfl) :
  Ry A l b dr j9 (⟨.load K x,K,K,u⟩::ops) T H n rl o5 Q:=Ry.pure (rs:=[id]) rfl (Wv hx hr hv) h2
end Go.B3.S
namespace Go.Proofs.YtibjocmpkoepoaaGreat
open Go.B3 Go.B3.S
attribute [local irreducible] Rx Ry Rn Ex Pf Rl
def Zd (n i:Nat)(H:n9)(x:jw)(oc cs:List c7)(lv:c7)(l:List X9)(ids:List Nat)(w0 w1 w3 w6 w7 w8 w9:c7)(Q:E6->St->Prop)(h0:H[0]? =J (.cells (x.enc.map .d)))(h1:H[1]? =J (.cells oc))(hL:2<=O H)(IM:O oc=n)(hi:x.W5=(i:Int))(hin:i<n)(hl:qd H lv (O l) cs)(hR:O4 H cs l ids)(EY:∀y∈ids,y<O H/\y≠1)(hm:O l<64)(hrow:∀r∈l,0<O r.row)(hx0:0<O x.row)(hx1:O x.row<=100)
  (hq:∀H' v' ids' w0 w1 w2 w3 w5 w6 w7 w8 w9,(∀y,y<O H->y≠1->H'[y]? =H[y]?)->H'[1]? =J (.cells (oc.set i v'))->fo H' v' (vN l x) ids' ->Q .normal ⟨[w0,w1,w2,w3,.s5 1 1 0 n,w5,w6,w7,w8,w9],H'⟩) :
  Ex A Q9 0 (match om.body with
   | .seq _ (.seq _ (.seq _ (.seq _ (.seq (.block _ (.test _ _ _ (.seq _ c) _)) _))))=>c
   |c=>c) ⟨[w0,w1,.ptr 0 0,w3,.s5 1 1 0 n,lv,w6,w7,w8,w9],H⟩ Q:=by
 show Ex A Q9 0 (.seq _ (.seq _ (.seq (.region _ F) (.seq _ _)))) _ _
 refine Ex.seq ?_;refine aM3 H x w0 w1 w3 _ _ w6 w7 w8 w9 _ h0 hL hx1 ?_;have hf1:∀X:n9,∀y,y<O H->(H++X)[y]? =H[y]? :=λX y hy=>bX hy
 refine Ex.seq ?_;refine aQ3 _ x (O H+1) _ _ _ _ _ _ _ _ _ _ ((hf1 _ 0 V).trans h0) hx1 (mK H _ 1) V (λH' sv u0 u1 u3 u6 u9 k1 k2 k3 k4=>?_);obtain ⟨s,rfl,ks,kS⟩:=k4.resolve_left λh=>V
 have hlen:O (H++[B4.dead,.cells [.s5 (O H+2) 3 0 (O x.row),.H7,.d (Z x.day)],.cells (fe x.row)])=O H+3:=U
 rw [hlen] at k1 k2 ks;have fr:∀y,y<O H->H'[y]? =H[y]? :=λy hy=>(k2 y V V).trans (bX hy)
 have FP:H'[O H+2]? =J (.cells (fe x.row)):=(k2 _ V V).trans (mK H _ 2);have hl' :qd H' lv (O l) cs:=hl.mono V λid hid _=>fr id hid
 have hR' :O4 H' cs l ids:=hR.mono λy hy=>fr y (EY y hy).1
 refine Ex.seq ?_;refine Ex.region (Rn.text ?_);refine gx ?_;refine gx ?_;refine Ex.seq ?_;refine aN7 H' l x.row cs ids (O H+1) (O H+2) (O x.row) lv _ _ _ _ _ _ _ _ _ hl' hR' V hrow k3 FP hx0 hx0 (λu0 u1 u3 u6 u8=>?_);have hk:=Rt l (Y x.row 0);have hsL:=AK kS;refine aL4 n i (uy l (Y x.row 0)) (O l) (O H+1) (O H+2) s (O x.row) H' x oc cs lv _ _ _ _ _ _ _ ((fr 0 V).trans h0) ((fr 1 V).trans h1) V IM hi hin hl' hk V k3 V hsL ?_;generalize hX:[B4.dead,.cells [.s5 (O H+2) 3 0 (O x.row),.s5 s 1 0 (O x.row),.d (Z x.day)],.dead,.dead,.cells (cs.take (uy l (Y x.row 0) * 3)++[.s5 (O H+2) 3 0 (O x.row),.s5 s 1 0 (O x.row),.d (Z x.day)]++cs.drop (uy l (Y x.row 0) * 3))]=X;generalize hc:B4.cells (oc.set i (.s5 (O H'+4) 3 0 (O l+1)))=c1;have f2:∀y,y<O H'->y≠1->(H'.set 1 c1++X)[y]? =H'[y]? :=λy hy hne=>by rw [bX (by simpa using hy),q8 (Ne.symm hne)]
 obtain ⟨j1,j2,q1,q2,q3,q4⟩:=hR'.cut (uy l (Y x.row 0));have nw:=O4.bl9 (H:=H'.set 1 c1++X) (r:=ap8 x) (a:=O H+2) (b:=s) ((f2 _ V V).trans FP) ((f2 _ hsL V).trans kS);have all:=((q1.mono λy hy=>f2 y (by have:=(EY y (q3 y hy)).1;omega) (EY y (q3 y hy)).2).append nw).append (q2.mono λy hy=>f2 y (by have:=(EY y (q4 y hy)).1;omega) (EY y (q4 y hy)).2);have all' :O4 (H'.set 1 c1++X) (cs.take (uy l (Y x.row 0) * 3)++[.s5 (O H+2) 3 0 (O x.row),.s5 s 1 0 (O x.row),.d (Z x.day)]++cs.drop (uy l (Y x.row 0) * 3)) (vN l x) (j1++[O H+2,s]++j2):=by simpa [vN,ap8] using all
 have hX4:(H'.set 1 c1++X)[O H'+4]? =J (.cells (cs.take (uy l (Y x.row 0) * 3)++[.s5 (O H+2) 3 0 (O x.row),.s5 s 1 0 (O x.row),.d (Z x.day)]++cs.drop (uy l (Y x.row 0) * 3))):=by
  have:=mK (H'.set 1 c1) X 4;rw [List.length_set] at this;rw [this,<- hX];rfl
 have XJ:fo (H'.set 1 c1++X) (.s5 (O H'+4) 3 0 (O l+1)) (vN l x) ((O H'+4)::(j1++[O H+2,s]++j2)):= .inr ⟨_,_,_,by
  have:O (vN l x)=O l+1:=by simp [vN];omega
  rw [this],rfl,hX4,all'⟩
 refine hq _ _ _ _ _ _ _ _ _ _ _ _ (λy hy hne=>(f2 y V hne).trans (fr y hy)) ?_ XJ;rw [bX D,C7 V,hc]
def as6 (w:Nat->Nat)(n i:Nat)(a:Int)(ts:List (List X9))(x:jw)(l:List X9)(H:n9)(oc:List c7)(v:c7)(ids i0 i1 i2:List Nat)(w0 w1 w7 w8 w9:c7)(hn:O ts=n)(hn2:n<=1000)(hT:OkT w ts)(hx:OkC n w x)(hw:∀i,i<n->1<=w i/\w i<=100)(hi:x.W5=(i:Int))(hl0:Y ts i=l)(ha:pF l (AG x)=a)
  (h0:H[0]? =J (.cells (x.enc.map .d))) (h1:H[1]? =J (.cells oc)) (hL:2<=O H) (IM:O oc=n) (hts:Y7 H oc ts ids) (EY:∀y∈ids,1<y/\y<O H) (Ph:ids.Nodup) (hW:Q5 H<=O H) (Xi:ids=i0++i1++i2) (hv:oc[i]? =J v) (Vb:fo H v l i1)
  (hput:∀(H' :n9) (v' :c7) (p' :List X9) (Rr :List Nat),(∀y∈i0++i2,H'[y]? =H[y]?)->fo H' v' p' Rr ->Y7 H' (oc.set i v') (ts.take i++p' ::ts.drop (i+1)) (i0++Rr ++i2)) :
  Ex A Q9 0 (match om.body with
   | .seq _ (.seq _ (.seq _ (.seq _ c)))=>c
   |c=>c) ⟨[w0,w1,.ptr 0 0,.H7,.s5 1 1 0 n,v.F4,.d (Z a),w7,w8,w9],H⟩ (λy s=>∃w,aZ om 0 (J (y,s))=J (w,[])/\w= .d (V9 (au ts x))):=by
 obtain ⟨cs,ids',hl,hR,hsub,cq6,_⟩:=Vb.lv hW;have hin:i<n:=by grind
 have hit:x.W5.toNat=i:=V
 have hok:WD (w i) l:=by rw [<- hl0];exact hT i V
 have hwi:=hw i hin;have hav:=KN l (AG x);rw [ha] at hav;have hP:au ts x=ts.set i (S3 l a x):=by simp_all [au]
 have hPl:=zg (a:=a) (c:=x) hok hav.1 λe=>by rw [hx.row,if_pos e,hit]
 have sX:∀p,ts.set i p=ts.take i++p::ts.drop (i+1):=λp=>VP V p
 have sizes:∀t∈au ts x,O t<100000/\∀r∈t,O r.row<100000/\O r.seq<100000:=λt ht=>by
  obtain ⟨j,hj,rfl⟩:=O8 ht;have hp:=qM hT hn hx;have hj' :j<n:=V
  have:=hp.1 j V;rw [H6 hj] at this;have hwj:=hw j hj';exact ⟨by have:=this.1;omega,λr hr=>by have:=this.2 r hr;omega⟩
 have aZ8:O (au ts x)=n:=(qM hT hn hx).2;have hi1:∀y∈ids',1<y/\y<O H:=λy hy=>EY y M
 have UY:∀y∈i0++i2,1<y/\y<O H:=λy hy=>EY y (by grind)
 have fin:∀(H' :n9) (v' :c7) (Rr :List Nat) (w0 w1 w2 w3 w5 w6 w7 w8 w9:c7),(∀y∈i0++i2,H'[y]? =H[y]?)->H'[1]? =J (.cells (oc.set i v'))->fo H' v' (S3 l a x) Rr ->
   Ex A Q9 0 (match om.body with| .seq _ (.seq _ (.seq _ (.seq _ (.seq _ c))))=>c|c=>c) ⟨[w0,w1,w2,w3,.s5 1 1 0 n,w5,w6,w7,w8,w9],H'⟩ (λy s=>∃w,aZ om 0 (J (y,s))=J (w,[])/\w= .d (V9 (au ts x))):=λH' v' Rr u0 u1 u2 u3 u5 u6 u7 u8 u9 q1 q2 q3=>by
  have:=hput H' v' _ Rr q1 q3
  grind [Xl]
 have same:S3 l a x=l->au ts x=ts:=λe=>by grind [au4]
 have bE0:S3 l a x=l->∀(w0 w1 w2 w3 w5 w6 w7 w8 w9:c7),Ex A Q9 0 (match om.body with| .seq _ (.seq _ (.seq _ (.seq _ (.seq _ c))))=>c|c=>c) ⟨[w0,w1,w2,w3,.s5 1 1 0 n,w5,w6,w7,w8,w9],H⟩ (λy s=>∃w,aZ om 0 (J (y,s))=J (w,[])/\w= .d (V9 (au ts x))):=λe u0 u1 u2 u3 u5 u6 u7 u8 u9=>by
  grind [Xl]
 have r0:rd H 0 (0+0) 1=J [.d (Z x.op)]:=de h0 rfl;have c1:∀j,O (cs.take (j * 3))=min (j * 3) (O l * 3):=λj=>by rw [P7,hl.len]
 show Ex A Q9 0 (.seq (.block 0 (.test _ _ _ (.seq (.test _ _ _ _ (.test _ _ _ (.seq _ .ret) .skip)) _) _)) _) _ _
 refine Ex.seq ?_;refine Ex.block ?_;refine Ex.jl (A1 x.op 1) ?_ (λho=>?_) (λho=>?_)
 .refine Rn.text ?_
  repeat' (first|refine lpx r0 rfl ?_|refine gx ?_|refine fq (λhw=>?_) λhw=>?_|refine ⟨rfl,rfl,_,rfl,?_⟩|refine ⟨rfl,rfl⟩|fail)
  rfl
 .have ho1:x.op=1:=aT ho
  have hrow:=hx.row;rw [if_pos ho1,hit] at hrow;refine Ex.seq ?_;refine Ex.jl (bC 0 a) ?_ (λh=>?_) (λh=>?_)
  .refine Rn.text ?_
   repeat' (first|refine gx ?_|refine fq (λhw=>?_) λhw=>?_|refine ⟨rfl,rfl,_,rfl,?_⟩|refine ⟨rfl,rfl⟩|fail)
   rfl
  .have h:=nD h
   obtain ⟨k,rfl⟩:∃k:Nat,a=k:=⟨a.toNat,V⟩;have hk:k<O l:=V
   have XL:=Bb hok (Int.natCast_nonneg k) V;have AF:S3 l k x=vN (uj l k) x:=by
    have e1:J2 (k:Int) 0=F:=by rw [A5];simp
    simp [S3,ho,e1]
   refine aO6 n k (O l) H cs _ _ _ _ _ _ _ _ _ _ hL hl hk hok.1 ?_;obtain ⟨j1,j2,q1,q2,q3,q4⟩:=hR.cut k;obtain ⟨m1,m2,p1,p2,p3,p4⟩:=hR.cut (k+1);generalize hX:[B4.dead,.dead,.cells (cs.take (k * 3)++cs.drop ((k+1) * 3))]=X;have f1:∀y,y<O H->(H++X)[y]? =H[y]? :=λy hy=>bX hy
   have all:=(q1.mono λy hy=>f1 y (hi1 y (q3 y hy)).2).append (p2.mono λy hy=>f1 y (hi1 y (p4 y hy)).2);have hXl:O (H++X)=O H+3:=by rw [<- hX];simp
   have e1:=hl.parts (k * 3) (0 * 3);have e2:=hl.parts (O l * 3) ((k+1) * 3);have c3:(cs.take (k * 3)).drop (0 * 3)=cs.take (k * 3):=U
   have c2:(cs.take (O l * 3)).drop ((k+1) * 3)=cs.drop ((k+1) * 3):=by rw [<- hl.len,List.take_length]
   rw [c3] at e1;rw [c2] at e2;have sC:qd (H++X) (.s5 (O H+2) 3 0 (O l - 1)) (O (uj l k)) (cs.take (k * 3)++cs.drop ((k+1) * 3)):=by
    have hcl:O (uj l k)=O l - 1:=V
    rw [hcl];refine ⟨rfl,?_,by rw [List.map_append,e1.2.2,e2.2.2],by rw [List.all_append,e1.2.1,e2.2.1];rfl,by rw [BM];omega,.inr ⟨_,rfl,?_⟩⟩
    .rw [s9,c1,List.length_drop,hl.len]
     omega
    .rw [<- hX]
     exact mK H _ 2
   have hcr:uj l k=l.take k++l.drop (k+1):=by simp [uj]
   refine Zd n i (H++X) x oc _ _ (uj l k) (j1++m2) _ _ _ _ _ _ _ _ ((f1 0 V).trans h0) ((f1 1 V).trans h1) V IM hi hin sC (hcr ▸ all) (λy hy=>?_) (by have:=hok.1;omega) (λr hr=>by have:=(XL.1.2 r hr).1;omega) V V (λH' v' Lj u0 u1 u2 u3 u5 u6 u7 u8 u9 t1 t2 t3=>?_)
   .rcases List.mem_append.1 hy with hy|hy
    .have:=hi1 y (q3 y hy);omega
    .have:=hi1 y (p4 y hy);omega
   .exact fin H' v' Lj _ _ _ _ _ _ _ _ _ (λy hy=>by have:=UY y hy;rw [t1 y V V,f1 y V]) t2 (AF.symm ▸ t3)
  .have h:=vE h
   refine Ex.jl (bC 64 (O l:Int)) ?_ (λh2=>?_) (λh2=>?_)
   .refine Rn.text ?_
    refine mv ?_ ⟨rfl,hl.AW⟩;refine Ry.pure rfl (hl.bJ8 hl.AW) ?_
    repeat' (first|refine gx ?_|refine fq (λhw=>?_) λhw=>?_|refine ⟨rfl,rfl,_,rfl,?_⟩|refine ⟨rfl,rfl⟩|fail)
    rfl
   .have e1:J2 a 0=W:=by rw [A5];simpa using h
    have AF:S3 l a x=l:=by simp [S3,ho,e1,h2]
    have:=same AF;refine gr ?_;exact ⟨_,Xr (by rw [aZ8];rfl) h1 (this.symm ▸ hts) V sizes,rfl⟩
   .have e1:J2 a 0=W:=by rw [A5];simpa using h
    have AF:S3 l a x=vN l x:=by simp [S3,ho,e1,h2]
    have h3:=vE h2;refine Ex.skip ?_;refine Zd n i H x oc cs _ l ids' _ _ _ _ _ _ _ _ h0 h1 hL IM hi hin hl hR (λy hy=>by have:=hi1 y hy;omega) V (λr hr=>by have:=(hok.2 r hr).1;omega) V V (λH' v' Lj u0 u1 u2 u3 u5 u6 u7 u8 u9 t1 t2 t3=>?_);exact fin H' v' Lj _ _ _ _ _ _ _ _ _ (λy hy=>by have:=UY y hy;exact t1 y V V) t2 (AF.symm ▸ t3)
 .refine Ex.jl (J2 a 0) ?_ (λh=>?_) (λh=>?_)
  .refine Rn.text ?_
   repeat' (first|refine gx ?_|refine fq (λhw=>?_) λhw=>?_|refine ⟨rfl,rfl,_,rfl,?_⟩|refine ⟨rfl,rfl⟩|fail)
   rfl
  .have AF:S3 l a x=l:=by simp [S3,ho,h]
   refine Ex.skip ?_;exact bE0 AF _ _ _ _ _ _ _ _ _
  .have h' :=G7 h
   obtain ⟨k,rfl⟩:∃k:Nat,a=k:=⟨a.toNat,V⟩;have hk:k<O l:=V
   refine Ex.jl (A1 x.op 2) ?_ (λh2=>?_) (λh2=>?_)
   .refine Rn.text ?_
    repeat' (first|refine lpx r0 rfl ?_|refine gx ?_|refine fq (λhw=>?_) λhw=>?_|refine ⟨rfl,rfl,_,rfl,?_⟩|refine ⟨rfl,rfl⟩|fail)
    rfl
   .have AF:S3 l k x=Wh l k x:=by simp [S3,ho,h,h2]
    obtain ⟨j,hj⟩:∃j:Nat,x.col=j:=⟨x.col.toNat,by have:=hx.c0;omega⟩;have hj2:j<w i:=by have:=hx.c1;rw [hit] at this;omega
    rcases Vb with ⟨e,_⟩|⟨id,cs0,ao2,rfl,rfl,hid,hR0⟩
    .rw [e] at hk
     cases hk
    subst Xi;simp only [List.nodup_append,List.nodup_cons,List.mem_append,C4] at Ph;have bG9:ao2.Nodup:=Ph.1.2.1.2;have hne:∀y∈ao2,y≠id:=λy hy e=>Ph.1.2.1.1 (e ▸ hy)
    obtain ⟨ra,rb,g1,g2,g3,g4,g5,g6,g7,g8⟩:=hR0.gR bG9 hk;have hrk:=hok.2 _ (P6 hk);have hRa:=EY ra (by simp [g3]);have hRb:=EY rb (by simp [g4]);refine aR4 n k (O l) j id ra rb H x (Y l k) cs0 _ _ _ _ _ _ _ _ h0 hj hid hk g1 g2 g6 g7 g5 V V V ?_;generalize hr1:B4.cells (fe ((Y l k).row.set j x.val))=r1;generalize Va:B4.cells (eD ((Y l k).seq.set j x.seq))=r2;have f1:∀y,y≠ra->y≠rb->((H.set ra r1).set rb r2)[y]? =H[y]? :=λy a1 a2=>by rw [q8 (Ne.symm a2),q8 (Ne.symm a1)]
    have k1:((H.set ra r1).set rb r2)[ra]? =J r1:=by rw [q8 (Ne.symm g5),C7 V]
    have k2:((H.set ra r1).set rb r2)[rb]? =J r2:=by rw [C7 D]
    have all:=g8 ((H.set ra r1).set rb r2) ((Y l k).row.set j x.val) ((Y l k).seq.set j x.seq) U U (by rw [hr1];exact k1) (by rw [Va];exact k2) λy _ a1 a2=>f1 y a1 a2
    have eu:Wh l k x=l.set k ⟨(Y l k).row.set j x.val,(Y l k).seq.set j x.seq,(Y l k).day⟩:=by simp [Wh,hj]
    have XJ:fo ((H.set ra r1).set rb r2) (.s5 id 3 0 (O l)) (S3 l k x) (id::ao2):= .inr ⟨id,cs0,ao2,by rw [AF,eu,List.length_set],rfl,(f1 id (hne ra g3).symm (hne rb g4).symm).trans hid,by rw [AF,eu];exact all⟩;refine fin _ _ _ _ _ _ _ _ _ _ _ _ (λy hy=>f1 y ?_ ?_) ((f1 1 V V).trans (by rw [ay hv];exact h1)) XJ
    .rintro rfl
     rcases List.mem_append.1 hy with hy|hy
     .exact Ph.1.2.2 _ hy _ (.inr g3) rfl
     .exact Ph.2.2 _ (.inr (.inr g3)) _ hy rfl
    .rintro rfl
     rcases List.mem_append.1 hy with hy|hy
     .exact Ph.1.2.2 _ hy _ (.inr g4) rfl
     .exact Ph.2.2 _ (.inr (.inr g4)) _ hy rfl
   .have AF:S3 l k x=uj l k:=by simp [S3,ho,h,h2]
    refine aH6 n i k (O l) H x oc cs _ _ _ _ _ _ _ _ h0 h1 hL IM hi hin hl hk hok.1 ?_;obtain ⟨j1,j2,q1,q2,q3,q4⟩:=hR.cut k;obtain ⟨m1,m2,p1,p2,p3,p4⟩:=hR.cut (k+1);have XL:=Bb hok (Int.natCast_nonneg k) V;generalize hX:[B4.dead,.dead,.cells (cs.take (k * 3)++cs.drop ((k+1) * 3))]=X;generalize hc:B4.cells (oc.set i (.s5 (O H+2) 3 0 (O l - 1)))=c0;have f2:∀y,y<O H->y≠1->(H.set 1 c0++X)[y]? =H[y]? :=λy hy hne=>by rw [bX (by simpa using hy),q8 (Ne.symm hne)]
    have all:=(q1.mono λy hy=>by have:=hi1 y (q3 y hy);exact f2 y this.2 V).append (p2.mono λy hy=>by have:=hi1 y (p4 y hy);exact f2 y this.2 V);have hcr:uj l k=l.take k++l.drop (k+1):=by simp [uj]
    have hX2:(H.set 1 c0++X)[O H+2]? =J (.cells (cs.take (k * 3)++cs.drop ((k+1) * 3))):=by
     have:=mK (H.set 1 c0) X 2;rw [List.length_set] at this;rw [this,<- hX];rfl
    have XJ:fo (H.set 1 c0++X) (.s5 (O H+2) 3 0 (O l - 1)) (S3 l k x) ((O H+2)::(j1++m2)):= .inr ⟨_,_,_,by
     have:O (S3 l k x)=O l - 1:=by rw [AF];omega
     rw [this],rfl,hX2,by rw [AF,hcr];exact all⟩
    refine fin _ _ _ _ _ _ _ _ _ _ _ _ (λy hy=>by have:=UY y hy;exact f2 y V V) ?_ XJ;rw [bX D,C7 V,hc]
def bL8 (w:Nat->Nat)(n:Nat)(ts:List (List X9))(x:jw)(hn:O ts=n)(hn2:n<=1000)(hT:OkT w ts)(hx:OkC n w x)(hw:∀i,i<n->1<=w i/\w i<=100):Pf A 123 [.d (V9 ts),.agg (x.enc.map .d)] (.d (V9 (au ts x))):=by
 subst hn;obtain ⟨i,hi⟩:∃i:Nat,x.W5=i:=⟨x.W5.toNat,by have:=hx.t0;omega⟩;have hin:i<O ts:=by have:=hx.t1;omega
 have hit:x.W5.toNat=i:=V
 have hok:=hT i V;obtain ⟨v0,H,⟨rfl,h0,oc,ids,hC⟩,pc⟩:=aX1 ts (.cells (x.enc.map .d)) (uU x.enc) V (λj hj=>qR (by have:=(hT j hj).1;omega)) (λj hj k hk=>by
  have h1:=(hT j hj).2 _ (P6 hk);have h2:=hw j V;exact ⟨decide_eq_true (A3 (K4 _ (show 2 * O (Y (Y ts j) k).row+512<=2512 by omega)) (by decide)),aC4 V⟩)
 obtain ⟨h1,hTs,Wr,hlt,an9⟩:=hC;have hW:Q5 H<=O H:=V
 have h1L:=AK h1;have IM:O oc=O ts:=hTs.len;have aY0 :=hTs;rw [VY (by omega:i<O ts)] at aY0;obtain ⟨v,i0,i1,i2,ev,Xi,Vb,hput⟩:=aY0.split;have eA:O (ts.take i)=i:=by rw [P7];omega
 rw [eA] at ev hput;obtain ⟨cs,ids',hl,hR,hsub,_,hform⟩:=Vb.lv hW;have rest:=as6 w (O ts) i (pF (Y ts i) (AG x)) ts x (Y ts i) H oc v ids i0 i1 i2 (.d (V9 ts)) (.agg (x.enc.map .d)) .any .any .any rfl hn2 hT hx hw hi rfl rfl h0 h1 V IM hTs (λy hy=>hlt y hy) Wr hW Xi ev Vb hput;have r3:rd H 0 (0+3) 1=J [.d (Z x.W5)]:=de h0 rfl;have rv:rd H 1 (0+x.W5.toNat * 1) 1=J [v]:=de h1 (by rw [hit];simpa using ev);have r12:rd H 0 0 12=J (x.enc.map .d):=by simp [rd,h0,jw.enc]
 have hrow:x.op=1->0<O x.row:=λe=>by
  have:=hx.row;rw [if_pos e,hit] at this;have:=(hw i hin).1;omega
 have pk:=aM9 x hrow;refine Pf.go 8 ?_;refine Ex.seq ?_;refine Ex.region (Rn.text ?_);refine gx ?_;refine mn (h2:=?_);refine gx ?_;refine Ex.seq ?_;refine Ex.region (Rn.text ?_);refine gx ?_;refine cp pc (by show 1<=O H;omega) ?_;refine gx ?_;refine gx ?_;refine Ex.seq ?_;refine Ex.region (Rn.text ?_);refine gx ?_;refine gx ?_;refine lpx r3 rfl ?_;refine ixo (e:=x.W5) (len:=O ts) V ?_;refine lpa rv rfl ?_;refine mt (hx:=⟨rfl,hl.AW⟩) (h2:=?_);refine gx ?_;refine Ex.seq ?_;refine Ex.region (Rn.text ?_);refine mv ?_ ⟨rfl,hl.AW⟩;refine Vk r12 rfl ?_;refine cl pk ?_
 rcases hform with e|⟨id,hid,e⟩
 .have h00:O (Y ts i)=0:=by
   rcases hl.at' with ⟨_,h⟩|⟨id,h,_⟩
   .exact h
   .rw [e] at h
    cases h
  have pz:=aN1 (Y ts i) (AG x) V;have ez:AN (Y ts i)= .slice 0 []:=by rw [List.eq_nil_of_length_eq_zero h00];rfl
  rw [ez] at pz;refine cl pz ?_ (ha:=?_)
  .refine gx ?_
   refine gx ?_;exact rest
  .show [v.F4.F4,.agg ((AG x).enc.map .d)]=_
   rw [e];rfl
 .have bG2:H[id]? =J (.cells cs):=by
   rcases hl.at' with ⟨h,_⟩|⟨id',h,h'⟩
   .rw [e] at h
    cases h
   .rw [e] at h
    cases h;exact h'
  have hmem:id∈ids:=by rw [Xi];simp [hid]
  obtain ⟨tp1,tp2⟩:=an9.resolve_left λh=>by rw [h.1] at hmem;cases hmem
  have an0:=hlt id hmem;obtain ⟨_,_,⟨rfl,rfl⟩,pf⟩:=be0 H ⟨0,O H,O H,I7 H 0 (O H)⟩ id cs ids' (Y ts i) (AG x) (by have:=hok.1;omega) bG2 hR λy hy=>(hlt y (by rw [Xi];simp [hsub y hy])).2
  have eb:C0 [c7.s5 id 3 0 (O (Y ts i)),.agg ((AG x).enc.map .d)]=id+1:=by simp [C0,c7.K9,uU]
  refine c1 pf rfl ?_ (by rw [List.take_length];exact hW) ?_ (List.take_length ..) (Nat.ble_eq_true_of_le (o6 _)) rfl ?_
  .refine gx ?_
   refine gx ?_;exact rest
  .rw [eb]
   have:=OO h1 (n:=id+1) V V V 6;rw [tp2] at this;exact this
  .show [v.F4.F4,.agg ((AG x).enc.map .d)]=_
   rw [e];rfl
end Go.Proofs.YtibjocmpkoepoaaGreat


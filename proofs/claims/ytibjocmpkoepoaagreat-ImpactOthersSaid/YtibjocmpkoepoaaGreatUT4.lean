import Derived.Test.YtibjocmpkoepoaaGreatUAbs
set_option linter.all false
open Bool renaming and_eq_true→c9,false_eq_true→j6,true→W,false→F
open List renaming append_assoc→G8,getElem?_append_left→s9,getElem?_eq_getElem→n9,getElem?_set_ne→x5,getElem?_set_self→E0,getElem_of_mem→E9,length_append→k8,length_cons→o8,length_map→A1,length_singleton→D9,length_take→K0,map_cons→E8,mem_append→A5,replicate→c8,replicate_succ→L3,set_eq_take_append_cons_drop→M1,take_length→I8,take_of_length_le→s4,length→O
open Nat renaming le_refl→j9,le_trans→p7,lt_or_ge→y7,mul_le_mul_right→E1,zero_le→x3
open Option renaming some→J,none→K
namespace Go.y9
structure Vl where
 k:Int
 n:Int
 t:G4
 deriving DecidableEq,Inhabited
def Vl.enc (v:Vl):List Data:=[Z v.k,Z v.n,.str v.t]
structure R7 where
 row:List Vl
 seq:List Int
 day:Int
 deriving DecidableEq,Inhabited
def R7.enc (r:R7):List Data:=[s7 Vl.enc r.row,s7 (λn=>[Z n]) r.seq,Z r.day]
def tL (l:List R7):Data:=s7 R7.enc l
def Q5 (ts:List (List R7)):Data:=s7 (λl=>[tL l]) ts
def bD (r:List Vl):List c7:=(r.flatMap Vl.enc).map .d
def cu (s:List Int):List c7:=(s.flatMap λn=>[Z n]).map .d
def K9 (H:k9):List c7->List R7->List Nat->Prop
 |cs,[],ids=>cs=[]/\ids=[]
 |cs,r::rs,ids=>∃a b cs' ids',cs= .r7 a 3 0 (O r.row):: .r7 b 1 0 (O r.seq):: .d (Z r.day)::cs' /\ids=a::b::ids' /\H[a]? =J (.cells (bD r.row))/\H[b]? =J (.cells (cu r.seq))/\K9 H cs' rs ids'
def bH (H:k9)(v:c7)(rs:List R7)(ids:List Nat):Prop :=
 (rs=[]/\v= .N9/\ids=[])\/∃id cs ids',v= .r7 id 3 0 (O rs)/\ids=id::ids' /\H[id]? =J (.cells cs)/\K9 H cs rs ids'
def S5 (H:k9):List c7->List (List R7)->List Nat->Prop
 |vs,[],ids=>vs=[]/\ids=[]
 |vs,t::ts,ids=>∃v vs' i1 i2,vs=v::vs' /\ids=i1++i2/\bH H v t i1/\S5 H vs' ts i2
theorem K9.mono {H H' :k9}:∀{rs:List R7} {cs:List c7} {ids:List Nat},(∀i∈ids,H'[i]? =H[i]?)->K9 H cs rs ids->K9 H' cs rs ids
 |[],_,_,_,h=>h
 |r::rs,_,_,hm,⟨a,b,cs',ids',e1,e2,h1,h2,h3⟩=>by
  subst e2;exact ⟨a,b,cs',ids',e1,rfl,(hm a U).trans h1,(hm b U).trans h2,K9.mono (λi hi=>hm i (by simp [hi])) h3⟩
theorem bH.mono {H H' :k9}{v:c7}{rs:List R7}{ids:List Nat}(hm:∀i∈ids,H'[i]? =H[i]?)(h:bH H v rs ids):bH H' v rs ids:=by
 rcases h with h|⟨id,cs,ids',rfl,rfl,h1,h2⟩
 .exact .inl h
 .exact .inr ⟨id,cs,ids',rfl,rfl,(hm id U).trans h1,h2.mono λi hi=>hm i (by simp [hi])⟩
theorem S5.mono {H H' :k9}:∀{ts:List (List R7)} {vs:List c7} {ids:List Nat},(∀i∈ids,H'[i]? =H[i]?)->S5 H vs ts ids->S5 H' vs ts ids
 |[],_,_,_,h=>h
 |t::ts,_,_,hm,⟨v,vs',i1,i2,e1,e2,h1,h2⟩=>by
  subst e2;exact ⟨v,vs',i1,i2,e1,rfl,h1.mono λi hi=>hm i (by simp [hi]),S5.mono (λi hi=>hm i (by simp [hi])) h2⟩
theorem K9.len {H:k9}:∀{rs:List R7} {cs:List c7} {ids:List Nat},K9 H cs rs ids->O cs=O rs * 3
 |[],_,_,h=>by simp [h.1]
 |r::rs,_,_,⟨a,b,cs',ids',e1,e2,h1,h2,h3⟩=>by
  have:=h3.len
  grind
theorem K9.append {H:k9}:∀{rs rs2:List R7} {cs cs2:List c7} {ids Cv:List Nat},K9 H cs rs ids->K9 H cs2 rs2 Cv->K9 H (cs++cs2) (rs++rs2) (ids++Cv)
 |[],_,_,_,_,_,h,h2=>by
  obtain ⟨rfl,rfl⟩:=h;exact h2
 |r::rs,_,_,_,_,_,⟨a,b,cs',ids',e1,e2,h1,h2,h3⟩,h4=>by
  subst e1 e2;exact ⟨a,b,cs' ++_,ids' ++_,rfl,rfl,h1,h2,h3.append h4⟩
theorem K9.I7 {H:k9}:∀{rs:List R7} {cs:List c7} {ids:List Nat},K9 H cs rs ids->cs.map c7.I7=cs
 |[],_,_,h=>by simp [h.1]
 |r::rs,_,_,⟨a,b,cs',ids',e1,e2,h1,h2,h3⟩=>by
  subst e1;simp only [E8,h3.I7];rfl
theorem S5.len {H:k9}:∀{ts:List (List R7)} {vs:List c7} {ids:List Nat},S5 H vs ts ids->O vs=O ts
 |[],_,_,h=>by simp [h.1]
 |t::ts,_,_,⟨v,vs',i1,i2,e1,e2,h1,h2⟩=>by
  subst e1;simp [h2.len]
theorem S5.split {H:k9}:∀{A f8:List (List R7)} {p:List R7} {vs:List c7} {ids:List Nat},S5 H vs (A++p::f8) ids ->
  ∃v i0 i1 i2,vs[O A]? =J v/\ids=i0++i1++i2/\bH H v p i1/\∀(H' :k9) (v' :c7) (p' :List R7) (GM :List Nat),(∀i∈i0++i2,H'[i]? =H[i]?)->bH H' v' p' GM ->S5 H' (vs.set (O A) v') (A++p' ::f8) (i0++GM ++i2)
 |[],f8,p,_,_,⟨v,vs',i1,i2,e1,e2,h1,h2⟩=>by
  subst e1 e2;exact ⟨v,[],i1,i2,rfl,rfl,h1,λH' v' p' GM hm h=>⟨v',vs',GM,i2,rfl,rfl,h,h2.mono λi hi=>hm i (by simp [hi])⟩⟩
 |a::A,f8,p,_,_,⟨v,vs',i1,i2,e1,e2,h1,h2⟩=>by
  subst e1 e2;obtain ⟨u,j0,j1,j2,g1,g2,g3,g4⟩:=S5.split h2;refine ⟨u,i1++j0,j1,j2,g1,M,g3,λH' v' p' GM hm h=>?_⟩;exact ⟨v,_,i1,j0++GM ++j2,rfl,M,h1.mono λi hi=>hm i (by simp [hi]),g4 H' v' p' GM (λi hi=>hm i M) h⟩
def bH.snoc {H:k9}{v:c7}{rs:List R7}{ids:List Nat}{r:R7}{H' :k9}{id a b:Nat}{cs:List c7}(h:bH H v rs ids)(hcs:(rs=[]/\cs=[])\/∃Ug,v= .r7 Ug 3 0 (O rs)/\H[Ug]? =J (.cells cs))
  (hm:∀i∈ids.drop 1,H'[i]? =H[i]?) (ha:H'[a]? =J (.cells (bD r.row))) (hb:H'[b]? =J (.cells (cu r.seq)))
  (hid:H'[id]? =J (.cells (cs++[.r7 a 3 0 (O r.row),.r7 b 1 0 (O r.seq),.d (Z r.day)]))):bH H' (.r7 id 3 0 (O rs+1)) (rs++[r]) (id::(ids.drop 1++[a,b])):=by
 have h1:K9 H' [.r7 a 3 0 (O r.row),.r7 b 1 0 (O r.seq),.d (Z r.day)] [r] [a,b]:=⟨a,b,[],[],rfl,rfl,ha,hb,rfl,rfl⟩;refine .inr ⟨id,_,_,U,rfl,hid,?_⟩
 rcases h with ⟨rfl,rfl,rfl⟩|⟨id1,cs1,ids',rfl,rfl,g1,g2⟩
 .simp_all
 .obtain rfl:cs1=cs:=by
   rcases hcs with h|⟨Ug,h,h'⟩
   .obtain ⟨rfl,rfl⟩:=h
    exact g2.1
   simp_all
  exact (g2.mono hm).append h1
attribute [local irreducible] Rl
def pQ (H X:k9)(j:Nat)(c:s6):(H++X).set (O H+j) c=H++X.set j c:=U
theorem iC (H X:k9)(j:Nat):(H++X)[O H+j]? =X[j]? :=by grind
def aO {H X:k9}{j:Nat}(h:j<O H):(H++X)[j]? =H[j]? :=s9 h
def Jh {H X:k9}{j:Nat}(c:s6)(h:j<O H):(H++X).set j c=H.set j c++X:=by simp [h]
def Rn.xK {A:Prog}{l:F9}{b:Nat}{ops:List x9}{Q:List c7->k9->List c7->Prop}{T:List c7}{H:k9}(na:Nat)(H' :k9)(l6:List Touch)(hn:O H=na)(hH:H++S8 ops=H')(hs:slotsOf ops=l6)(h:Rl A l b ops ops T H' 0 [] l6 na [] Q):Rn A l b ops W T H Q:=by
 grind [Rn.Wb]
theorem oa:∀l:List Data,A2 (l.map .d)=0
 |[]=>rfl
 |_::l=>by simp [A2,c7.F4,oa l]
def AL (l:List Data):(l.map c7.d).all c7.one=W:=by simp [c7.one]
def AR (r:List Vl):O (r.flatMap Vl.enc)=O r * 3:=by
 induction r with
 |nil=>rfl
 |cons a r ih=>rw [List.flatMap_cons,k8,ih,o8,show O a.enc=3 from rfl];omega
def ue (r:List Int):O (r.flatMap λn=>[Z n])=O r:=by
 induction r with
 |nil=>rfl
 |cons a r ih=>simp_all
def Mu (H:k9)(r:List Vl):B4 H 3 (.d (s7 Vl.enc r))=J (O r,bD r):=by
 simp only [B4,s7,AR,if_true,bD]
def Tz (H:k9)(r:List Int):B4 H 1 (.d (s7 (λn=>[Z n]) r))=J (O r,cu r):=by
 simp only [B4,s7,ue,Nat.mul_one,if_true,cu]
def QW {oc:List c7}{i:Nat}{v:c7}(h:oc[i]? =J v):(if i+1<=O oc then J ((oc.drop i).take 1) else K)=J [v]:=by
 obtain ⟨h1,h2⟩:=List.getElem?_eq_some_iff.1 h;rw [if_pos V,List.drop_eq_getElem_cons h1,h2];rfl
namespace S
variable {A:Prog} {l:F9} {b:Nat} {j8 ops:List x9} {T:List c7} {H:k9} {n:Nat} {rl:List c7} {l6:List Touch} {na:Nat} {lg:List cT} {Q:List c7->k9->List c7->Prop}
def Ri {sz len:Nat}{zero:List c7}{ps:List (Nat×Nat×A3)}{u:List Nat}(xI :Nat)(cs:List c7)(H2:k9)(hr:T4 zero (ps.map λp=>(p.1,p.2.1,rq T n rl p.2.2))=J cs)(hl:0<sz/\O cs=len * sz)(hH:H.set na (.cells cs)=H2)(hn:na+1=xI)
  (h2:Rl A l b j8 ops T H2 (n+1) (.r7 na sz 0 len::rl) l6 xI (⟨[],[.obj na],0,na⟩::lg) Q):Rl A l b j8 (⟨.M8 sz len zero ps W,K,K,u⟩::ops) T H n rl l6 na lg Q:=by
 grind [yb]
def Nb {sz bytes id len m:Nat}{x y:A3}{u:List Nat}{cs l0:List c7}{w:c7}(z6 t sb:Nat)(H2:k9)(hx:rq T n rl x= .r7 id sz 0 len)(hy:rq T n rl y=w)(hO:H[id]? =J (.cells l0))(hc:B4 H sz w=J (m,cs))(hmay:l.may id=W)
  (V7:len * sz=O l0/\roomFor (len+m) bytes=W/\A2 cs<=O H/\cs.all c7.one=W/\0<sz) (hH:H.set id .dead++[.cells (l0.map c7.I7++cs)]=H2) (hN:O H=z6) (ht:len+m=t) (hs:max (id+1) w.F4=sb)
  (h2:Rl A l b j8 ops T H2 (n+1) (.r7 z6 sz 0 t::rl) (.obj z6:: .obj id::l6) na (⟨[],[.obj z6,.obj id],sb,0⟩::lg) Q):Rl A l b j8 (⟨.M3 sz bytes x y,K,K,u⟩::ops) T H n rl l6 na lg Q:=by
 grind [ya]
def aw6 {sz bytes j j2 id off m:Nat}{y:A3}{u:List Nat}{a:x9}{cs l0:List c7}{w:c7}(z6:Nat)(H2:k9)(hL:lk n rl j=J (.d (.slice 0 [])))(ha:j8[j]? =J a)(hz:a.op= .load K (.loc j2))(hp:lk n rl j2=J (.ptr id off))(ht:l6.any (Touch.V0 id off)=F)(hmay:l.may id=W)
  (hO:H[id]? =J (.cells l0)) (h0:l0[off]? =J .N9) (hy:rq T n rl y=w) (hc:B4 H sz w=J (m,cs)) (V7:roomFor m bytes=W/\0<sz) (hm:m≠0) (hH:H++[.cells cs]=H2) (hN:O H=z6)
  (h2:Rl A l b j8 ops T H2 (n+1) (.r7 z6 sz 0 m::rl) (.obj z6::l6) na (⟨[],[.obj z6],w.F4,0⟩::lg) Q):Rl A l b j8 (⟨.M3 sz bytes (.loc j) y,K,K,u⟩::ops) T H n rl l6 na lg Q:=by
 grind [ya0]
end S
def pV (old:List c7)(off:Nat)(v:c7)(hq:off<O old):splice old off [v]=old.set off v:=by
 simp_all [splice,D9,M1,if_pos]
def dg (H:k9):c7->k9
 | .r7 id _ _ _=>H.set id .dead
 |_=>H
def bY (L:Nat)(r:R7)(cs:List c7):k9 :=
 [.cells (r.enc.map .d),.dead,.dead,.cells [.r7 (L+4) 3 0 (O r.row),.r7 (L+5) 1 0 (O r.seq),.d (Z r.day)],.cells (bD r.row),.cells (cu r.seq),.cells (cs++[.r7 (L+4) 3 0 (O r.row),.r7 (L+5) 1 0 (O r.seq),.d (Z r.day)])]
def vS {H:k9}{o:Nat}{c:s6}(ho:H[o]? =J c):o<O H:=by
 grind
end Go.y9
namespace Go.Proofs.YtibjocmpkoepoaaGreat
open Go.y9 Go.y9.S
attribute [local irreducible] Rx Ry Rn Ex Pf Rl
def UJ (ts:List (List R7))(i k o n m:Nat)(H:k9)(w1 w5 v:c7)(cs:List c7)(Q:G6->St->Prop)(hi:i<O ts)(hk:k<O (Y ts i))(oc:List c7)(ho:H[o]? =J (.cells oc))(hin:i<n)(Bl:O oc=n)(hn:oc[i]? =J v)
  (hv:(v= .N9/\m=0/\cs=[])\/∃id,v= .r7 id 3 0 m/\id≠o/\H[id]? =J (.cells cs)/\O cs=m * 3/\cs.map c7.I7=cs) (h0:roomFor (m+1) 56=W)
  (h1:roomFor (O (Y (Y ts i) k).row) 32=W) (h2:roomFor (O (Y (Y ts i) k).seq) 8=W)
  (hq:Q .normal ⟨[.d (Q5 ts),w1,.r7 o 1 0 n,.d (Z i),.d (Z k),.ptr (O H) 0],(dg H v).set o (.cells (oc.set i (.r7 (O H+6) 3 0 (m+1))))++bY (O H) (Y (Y ts i) k) cs⟩) :
  Ex A N6 1 (match a182.body with
   | .seq _ (.seq _ (.seq (.seq _ (.block _ (.loop _ (.seq _ (.seq (.block _ (.seq _ (.block _ (.loop _ (.seq _ (.seq b _)))))) _))))) _))=>b
   |c=>c) ⟨[.d (Q5 ts),w1,.r7 o 1 0 n,.d (Z i),.d (Z k),w5],H⟩ Q:=by
 have Sm:=vS ho;generalize hr:Y (Y ts i) k=r at h1 h2 hq;refine gr ?_;rw [hr];refine ac (hi:=rfl) (hH:=rfl) (h2:=?_);refine so (ho:=iC H [_] 0) (H2:=H++[.cells (r.enc.map .d)]) (hH:=pQ H [_] 0 _) (h2:=?_);refine nl ?_;refine Ex.region (Rn.xK (O H+1) (H++[.cells (r.enc.map .d),.dead,.dead,.dead]) [] U (by simp;rfl) rfl ?_);refine ym ?_;refine ym ?_;refine ym ?_;refine ym ?_;refine yp (rs:=[]) (.ptr o i) (by simp [l5,rq,Ek,lk,hin,Z,c7.I7]) ?_;refine yp (rs:=[o]) v.I7 (by simp [l5,rq,Ek,lk,rd,aO Sm,ho,c7.I7,QW hn]) ?_;refine Ri (O H+2) [] (H++[.cells (r.enc.map .d),.cells [],.dead,.dead]) rfl U (pQ H _ 1 _) rfl ?_;refine yp (rs:=[]) (.ptr (O H) 0) rfl ?_;refine yp (rs:=[O H]) (.d (s7 Vl.enc r.row)) (by simp [l5,rq,Ek,lk,rd,R7.enc,c7.I7]) ?_;refine Nb (O H+4) (O r.row) (O H+2) (H++[.cells (r.enc.map .d),.dead,.dead,.dead,.cells (bD r.row)]) rfl rfl (iC H _ 1) (Mu _ _) rfl ⟨U,M,by rw [bD,oa];omega,AL _,U⟩ M U U (Nat.max_eq_left (x3 _)) ?_;refine Ri (O H+3) [] (H++[.cells (r.enc.map .d),.dead,.cells [],.dead,.cells (bD r.row)]) rfl U (pQ H _ 2 _) rfl ?_;refine yp (rs:=[]) (.ptr (O H) 1) rfl ?_;refine yp (rs:=[O H]) (.d (s7 (λn=>[Z n]) r.seq)) (by simp [l5,rq,Ek,lk,rd,R7.enc,c7.I7]) ?_;refine Nb (O H+5) (O r.seq) (O H+3) (H++[.cells (r.enc.map .d),.dead,.dead,.dead,.cells (bD r.row),.cells (cu r.seq)]) rfl rfl (iC H _ 2) (Tz _ _) rfl ⟨U,M,by rw [cu,oa];omega,AL _,U⟩ M U U (Nat.max_eq_left (x3 _)) ?_;refine yp (rs:=[]) (.ptr (O H) 2) rfl ?_;refine yp (rs:=[O H]) (.d (Z r.day)) (by simp [l5,rq,Ek,lk,rd,R7.enc,c7.I7]) ?_;refine yp (rs:=[]) (.agg [.r7 (O H+4) 3 0 (O r.row),.r7 (O H+5) 1 0 (O r.seq),.d (Z r.day)]) rfl ?_;refine Ri (O H+4) _ (H++[.cells (r.enc.map .d),.dead,.dead,.cells [.r7 (O H+4) 3 0 (O r.row),.r7 (O H+5) 1 0 (O r.seq),.d (Z r.day)],.cells (bD r.row),.cells (cu r.seq)]) rfl ⟨by decide,rfl⟩ (pQ H _ 3 _) rfl ?_
 rcases hv with ⟨rfl,rfl,rfl⟩|⟨id,rfl,hne,hid,hcs,has⟩
 .refine aw6 (j2:=4) (w:= .r7 (O H+3) 3 0 1) (m:=1) (cs:=[.r7 (O H+4) 3 0 (O r.row),.r7 (O H+5) 1 0 (O r.seq),.d (Z r.day)]) (O H+6) (H++bY (O H) r []) rfl rfl rfl rfl ?_ rfl ((aO Sm).trans ho) hn rfl ?_ (by decide) U (by simp [bY]) U ?_
  .grind [Touch.V0]
  .simp [B4,rd,c7.I7]
  refine yp (rs:=[]) (.ptr o i) (by simp [l5,rq,Ek,lk,hin,Z,c7.I7]) ?_;refine ys rfl ⟨rfl,rfl⟩ rfl rfl rfl (.inr ⟨x3 _,x3 _⟩) ?_ ?_ (H2:=H.set o (.cells (oc.set i (.r7 (O H+6) 3 0 1)))++bY (O H) r [])
  .simp only [wr,aO Sm,ho,D9,Jh _ Sm]
   rw [if_pos V,pV _ _ _ V]
  refine yn hq ?_;simp [aT,E6,Touch.E3,F0.makes,F0.y3,c7.F4];omega
 .have KT:=vS hid
  refine Nb (w:= .r7 (O H+3) 3 0 1) (m:=1) (cs:=[.r7 (O H+4) 3 0 (O r.row),.r7 (O H+5) 1 0 (O r.seq),.d (Z r.day)]) (O H+6) (m+1) _ (H.set id .dead++bY (O H) r cs) rfl rfl ((aO KT).trans hid) ?_ rfl ⟨hcs.symm,h0,?_,?_,U⟩ ?_ U rfl rfl ?_
  .simp [B4,rd,c7.I7]
  .simp [A2,c7.F4]
  .rfl
  .simp_all [Jh,bY]
  refine yp (rs:=[]) (.ptr o i) (by simp [l5,rq,Ek,lk,hin,Z,c7.I7]) ?_;have hL:O (H.set id .dead)=O H:=List.length_set ..;refine ys rfl ⟨rfl,rfl⟩ rfl rfl rfl (.inr ⟨x3 _,x3 _⟩) ?_ ?_ (H2:=(H.set id .dead).set o (.cells (oc.set i (.r7 (O H+6) 3 0 (m+1))))++bY (O H) r cs)
  .have:(H.set id .dead++bY (O H) r cs)[o]? =J (.cells oc):=by
    grind
   simp only [wr,this,D9,Jh _ (hL ▸ Sm)];rw [if_pos V,pV _ _ _ V]
  refine yn hq ?_;simp [aT,E6,Touch.E3,F0.makes,F0.y3,c7.F4];omega
end Go.Proofs.YtibjocmpkoepoaaGreat
namespace Go.y9
def Ge {l:List c7}{v:c7}(h:v∈l):v.F4<=A2 l:=by
 obtain ⟨i,hi,rfl⟩:=E9 h;exact jW l i _ (n9 hi)
def lG {l:List s6}{v:s6}(h:v∈l):v.F4<=D3 l:=by
 induction l with
 |nil=>cases h
 |cons a l ih =>
  grind [D3]
theorem jX:∀a b:k9,D3 (a++b)=max (D3 a) (D3 b)
 |[],b=>by simp [D3]
 |x::a,b=>by simp [D3,jX a b]
theorem jZ:∀(H:k9) (i:Nat) (c:s6),D3 (H.set i c)<=max (D3 H) c.F4
 |[],_,_=>by simp [D3]
 |x::H,0,c=>by grind [D3]
 |x::H,i+1,c=>by
  have:=jZ H i c
  grind [D3]
theorem rN:∀(l:List c7) (i:Nat) (v:c7),A2 (l.set i v)<=max (A2 l) v.F4
 |[],_,_=>by simp [A2]
 |x::H,0,c=>by grind [A2]
 |x::H,i+1,c=>by
  have:=rN H i c
  grind [A2]
theorem uq:∀a b:List c7,A2 (a++b)=max (A2 a) (A2 b)
 |[],b=>by simp [A2]
 |x::a,b=>by simp [A2,uq a b]
def IB (H:k9)(v:c7):D3 (dg H v)<=D3 H:=by
 cases v with
 |r7 id _ _ _=>exact p7 (jZ H id .dead) (by simp [s6.F4])
 |_=>exact j9 _
theorem yR (H:k9)(v:c7):O (dg H v)=O H:=by cases v<;>simp [dg]
def IP (L:Nat)(r:R7)(cs:List c7):D3 (bY L r cs)=max (A2 cs) (L+6):=by
 have e1:=oa (r.row.flatMap Vl.enc);have e2:=oa (r.seq.flatMap λn=>[Z n]);have e3:=oa r.enc;simp [bY,D3,s6.F4,bD,cu,uq,A2,c7.F4];omega
def MR {H:k9}{o i m:Nat}{oc cs:List c7}(v:c7)(r:R7)(ho:o<O H)(hi:i<O oc)(hW:D3 H<=O H)(Bl:A2 oc<=O H)(hcs:A2 cs<=O H) :
  A2 (oc.set i (.r7 (O H+6) 3 0 m))=O H+7/\D3 ((dg H v).set o (.cells (oc.set i (.r7 (O H+6) 3 0 m)))++bY (O H) r cs)=O H+7:=by
 have h1:=rN oc i (.r7 (O H+6) 3 0 m);have h2:(c7.r7 (O H+6) 3 0 m).F4<=A2 (oc.set i (.r7 (O H+6) 3 0 m)):=Ge (List.mem_set hi _);have h3:(c7.r7 (O H+6) 3 0 m).F4=O H+7:=rfl;have h4:=IB H v;have h5:=jZ (dg H v) o (.cells (oc.set i (.r7 (O H+6) 3 0 m)));have h6:(s6.cells (oc.set i (.r7 (O H+6) 3 0 m))).F4<=D3 ((dg H v).set o (.cells (oc.set i (.r7 (O H+6) 3 0 m)))):=lG (List.mem_set (by grind [yR]) _);have h7:(s6.cells (oc.set i (.r7 (O H+6) 3 0 m))).F4=A2 (oc.set i (.r7 (O H+6) 3 0 m)):=rfl;rw [jX,IP];omega
def zG (H:k9)(o:Nat)(oc:List c7)(ts:List (List R7))(ids:List Nat):Prop :=
 H[o]? =J (.cells oc)/\S5 H oc ts ids/\ids.Nodup/\(∀x∈ids,o<x/\x<O H)/\((ids=[]/\D3 H=0)\/(A2 oc=O H/\D3 H=O H))
def zG.step {H:k9}{o:Nat}{oc:List c7}{A f8:List (List R7)}{p:List R7}{ids:List Nat}(r:R7)(h:zG H o oc (A++p::f8) ids) :
  ∃v cs,oc[O A]? =J v/\((v= .N9/\O p=0/\cs=[])\/∃id,v= .r7 id 3 0 (O p)/\id≠o/\H[id]? =J (.cells cs)/\O cs=O p * 3/\cs.map c7.I7=cs) /\
   ∃ids',zG ((dg H v).set o (.cells (oc.set (O A) (.r7 (O H+6) 3 0 (O p+1))))++bY (O H) r cs) o (oc.set (O A) (.r7 (O H+6) 3 0 (O p+1))) (A++(p++[r])::f8) ids' /\∀x,x<o->((dg H v).set o (.cells (oc.set (O A) (.r7 (O H+6) 3 0 (O p+1))))++bY (O H) r cs)[x]? =H[x]? :=by
 obtain ⟨ho,ht,Qp,hlt,Oi⟩:=h;have Sm:=vS ho;have hW:D3 H<=O H:=V
 have ai3:A2 oc<=O H:=p7 (lG (v:= .cells oc) (List.mem_of_getElem? ho)) hW;obtain ⟨v,i0,i1,i2,e1,e2,h1,h2⟩:=S5.split ht;subst e2;have key:∃cs,((v= .N9/\O p=0/\cs=[])\/∃id,v= .r7 id 3 0 (O p)/\id≠o/\H[id]? =J (.cells cs)/\O cs=O p * 3/\cs.map c7.I7=cs)/\((p=[]/\cs=[])\/∃Ug,v= .r7 Ug 3 0 (O p)/\H[Ug]? =J (.cells cs)) /\
   (A2 cs<=O H)/\(∀x,x≠o->x<O H->(∀y,i1.head? =J y->x≠y)->∀c,((dg H v).set o c++bY (O H) r cs)[x]? =H[x]?)/\O (dg H v)=O H:=by
  rcases h1 with ⟨rfl,rfl,rfl⟩|⟨id,cs,ids',rfl,rfl,g1,g2⟩
  .refine ⟨[],.inl ⟨rfl,rfl,rfl⟩,.inl ⟨rfl,rfl⟩,x3 _,λx hx hL _ c=>?_,rfl⟩
   simp_all [aO,dg,x5,Ne.symm]
  .have hid:=hlt id U
   refine ⟨cs,.inr ⟨id,rfl,V,g1,g2.len,g2.I7⟩,.inr ⟨id,rfl,g1⟩,p7 (lG (v:= .cells cs) (List.mem_of_getElem? g1)) hW,λx hx hL hne c=>?_,by simp [dg]⟩;simp_all [aO,dg,x5,Ne.symm]
 obtain ⟨cs,k1,k2,kb,k3,k4⟩:=key;have kL:∀c j,((dg H v).set o c++bY (O H) r cs)[O H+j]? =(bY (O H) r cs)[j]? :=λc j=>by
  grind [dg,set,iC]
 refine ⟨v,cs,e1,k1,_,⟨?_,h2 _ _ _ _ (λx hx=>?_) (h1.snoc k2 (λx hx=>?_) (kL _ 4) (kL _ 5) (kL _ 6)),?_,?_,.inr ?_⟩,λx hx=>k3 x V V (λy hy=>?_) _⟩
 .grind
 .have hb:=hlt x (by grind)
  refine k3 x V hb.2 (λy hy=>?_) _
  grind [List.mem_of_mem_head?,List.nodup_append]
 .have hx' :=List.mem_of_mem_drop hx
  have hb:=hlt x (by simp [hx']);refine k3 x V hb.2 (λy hy=>?_) _;cases i1 with
  |nil=>cases hy
  |cons a t =>
   grind
 .have hb:∀x,x∈i0\/x∈i1\/x∈i2->x<O H:=λx hx=>(hlt x M).2
  simp only [List.nodup_append,A5,List.nodup_cons,List.mem_cons,List.not_mem_nil,or_false] at Qp ⊢
  grind
 .intro x hx
  have hsub:∀a,a∈i1.drop 1->a∈i1:=λa=>List.mem_of_mem_drop
  have hb:∀x,x∈i0\/x∈i1\/x∈i2->o<x/\x<O H:=λx hx=>hlt x M
  have hl:O ((dg H v).set o (.cells (oc.set (O A) (.r7 (O H+6) 3 0 (O p+1))))++bY (O H) r cs)=O H+7:=by simp [k4,bY]
  simp_all<;>grind
 .have:=MR (m:=O p+1) v r Sm (by grind:O A<O oc) hW ai3 kb
  simp_all [dg,set,bY]
 .have hy' :y∈i1:=List.mem_of_mem_head? hy
  simp_all<;>grind
theorem S5.N9 (H:k9):∀n:Nat,S5 H (c8 n .N9) (c8 n []) []
 |0=>⟨rfl,rfl⟩
 |n+1=>⟨.N9,_,[],[],rfl,rfl,.inl ⟨rfl,rfl,rfl⟩,S5.N9 H n⟩
theorem BW:∀l:List Data,H7 (l.map .d)=J l
 |[]=>rfl
 |_::l=>by simp [H7,c7.data?,BW l]
theorem KJ (H:k9)(n:Nat):∀(l:List Data) (f:Nat),O l<f->X6 H n f (l.map .d)=J (l.map .d)
 |[],f+1,_=>rfl
 |x::l,f+1,h=>by
  have h:=KJ H n l f (by simpa using h)
  grind [X6]
def KN {H:k9}{n f id sz len:Nat}{vs ws us us' :List c7}{xs:List Data}(hid:n<=id)(h:X6 H n f vs=J ws)(hc:H[id]? =J (.cells us))(hl:O us=len * sz)(hu:X6 H n f us=J us')(hx:H7 us' =J xs):X6 H n (f+1) (.r7 id sz 0 len::vs)=J (.d (.slice len xs)::ws):=by
 simp_all [rd,s4,X6,Nat.not_lt,if_false]
def KM {H:k9}{n f id sz len:Nat}{vs ws us:List c7}{xs:List Data}(hid:n<=id)(h:X6 H n f vs=J ws)(hc:H[id]? =J (.cells us))(hl:O us=len * sz)(hu:X6 H n f us=J (xs.map .d)):X6 H n (f+1) (.r7 id sz 0 len::vs)=J (.d (.slice len xs)::ws):=KN hid h hc hl hu (BW xs)
theorem K9.RM {H:k9}{n:Nat}:∀{rs:List R7} {cs:List c7} {ids:List Nat} {f:Nat},K9 H cs rs ids->(∀x∈ids,n<=x)->(∀r∈rs,O rs * 3+O r.row * 3<f/\O rs * 3+O r.seq<f)->0<f->X6 H n f cs=J ((rs.flatMap R7.enc).map .d)
 |[],_,_,f+1,h,_,_,_=>by
  rw [h.1];rfl
 |r::rs,_,_,f,⟨a,b,cs',ids',e1,e2,h1,h2,h3⟩,hn,hf,h0=>by
  subst e1 e2;have Se:=hf r U;simp [o8] at Se;obtain ⟨g,rfl⟩:∃g,f=g+3:=⟨f - 3,V⟩;have ih:=h3.RM (n:=n) (f:=g) (λx hx=>hn x (by simp [hx])) (λr' hr' =>by
   grind) V
  have i1:X6 H n (g+1) (.d (Z r.day)::cs')=J (.d (Z r.day)::(rs.flatMap R7.enc).map .d):=by grind [X6]
  have i2:=KM (sz:=1) (len:=O r.seq) (hn b U) i1 h2 (by rw [cu,A1,ue,Nat.mul_one]) (KJ H n _ _ (by rw [ue];omega));have i3:=KM (sz:=3) (len:=O r.row) (hn a U) i2 h1 (by rw [bD,A1,AR]) (KJ H n _ _ (by rw [AR];omega));exact i3
theorem bH.RM {H:k9}{n f:Nat}{v:c7}{rs:List R7}{ids:List Nat}{vs ws:List c7}(h:bH H v rs ids)(hn:∀x∈ids,n<=x)(hf:∀r∈rs,O rs * 3+O r.row * 3<f/\O rs * 3+O r.seq<f)(h0:0<f)(hw:X6 H n f vs=J ws):∃w,X6 H n (f+1) (v::vs)=J (w::ws)/\w.data? =J (tL rs):=by
 rcases h with ⟨rfl,rfl,rfl⟩|⟨id,cs,ids',rfl,rfl,h1,h2⟩
 .refine ⟨.N9,?_,rfl⟩
  grind [X6]
 .exact ⟨_,KM (hn id U) hw h1 h2.len (h2.RM (λx hx=>hn x (by simp [hx])) hf h0),rfl⟩
theorem S5.RM {H:k9}{n:Nat}:∀{ts:List (List R7)} {vs:List c7} {ids:List Nat} {f:Nat},S5 H vs ts ids->(∀x∈ids,n<=x)->(∀t∈ts,O ts<f/\∀r∈t,O ts+O t * 3+O r.row * 3<f/\O ts+O t * 3+O r.seq<f)->0<f ->
  ∃ws,X6 H n f vs=J ws/\H7 ws=J (ts.map tL)
 |[],_,_,f+1,h,_,_,_=>⟨[],by rw [h.1];rfl,rfl⟩
 |t::ts,_,_,f,⟨v,vs',i1,i2,e1,e2,h1,h2⟩,hn,hf,h0=>by
  subst e1 e2;have Se:=hf t U;simp [o8] at Se;obtain ⟨g,rfl⟩:∃g,f=g+1:=⟨f - 1,V⟩;obtain ⟨ws,w1,w2⟩:=h2.RM (n:=n) (f:=g) (λx hx=>hn x (by simp [hx])) (λt' ht=>by
   grind) V
  obtain ⟨w,w3,w4⟩:=h1.RM (n:=n) (λx hx=>hn x (by simp [hx])) (λr hr=>by
   grind) V w1
  simp_all [H7,E8]
def ku {mask:List Bool}{n:Nat}{T:List c7}{H:k9}{o:Nat}{oc:List c7}(ho:H[o]? =J (.cells oc))(Yg:o<n)(h:O H=n\/∃v∈oc,n<v.F4):clean mask 0 n ⟨T,H⟩=⟨P8 mask T,H⟩:=by
 unfold clean;split
 .rcases h with h|⟨v,hv,hb⟩
  .simp [<- h]
  .have h1:s6.cells oc∈H.take n:=by
    grind [List.mem_take_iff_getElem,List.getElem?_eq_some_iff]
   have h2:=lG h1;have h3:=Ge hv
   grind [s6.F4]
 .rfl
def room_le {n m b:Nat}(h:roomFor m b=W)(hn:n<=m):roomFor n b=W:=by
 rw [roomFor,decide_eq_true_eq] at h ⊢;exact p7 (E1 _ V) h
def Pt {m:Nat}(h:roomFor m 56=W):m<2513169434917:=by
 have h:=of_decide_eq_true h;omega
theorem BF:∀n:Nat,A2 (c8 n .N9)=0
 |0=>rfl
 |n+1=>by simp [L3,A2,BF n,c7.F4]
end Go.y9
namespace Go.Proofs.YtibjocmpkoepoaaGreat
open Go.y9 Go.y9.S
attribute [local irreducible] Rx Ry Rn Ex Pf Rl
def UK (ts:List (List R7))(i o n0:Nat)(H:k9)(w1 w4 w5:c7)(Q:G6->St->Prop)(hi:i<O ts)(oc:List c7)(ids:List Nat)(A0 B0:List (List R7))(hA:O A0=i)(h:zG H o oc (A0++[]::B0) ids)(Bl:O oc=O ts)(Yg:o<n0)(hn0:n0<=O H)(hg:O H=n0\/∃v∈oc,n0<v.F4)
  (h0:roomFor (O (Y ts i)+1) 56=W) (h1:∀k,k<O (Y ts i)->roomFor (O (Y (Y ts i) k).row) 32=W/\roomFor (O (Y (Y ts i) k).seq) 8=W)
  (hq:∀H' oc' ids' w1 w4 w5,zG H' o oc' (A0++Y ts i::B0) ids' ->O oc'=O ts->n0<=O H'->(O H'=n0\/∃v∈oc',n0<v.F4)->(∀x,x<o->H'[x]? =H[x]?)->Q .normal ⟨[.d (Q5 ts),w1,.r7 o 1 0 (O ts),.d (Z i),w4,w5],H'⟩) :
  Ex A N6 1 (match a182.body with
   | .seq _ (.seq _ (.seq (.seq _ (.block _ (.loop _ (.seq _ (.seq b _))))) _))=>b
   |c=>c) ⟨[.d (Q5 ts),w1,.r7 o 1 0 (O ts),.d (Z i),w4,w5],H⟩ Q:=by
 refine gr ?_;refine Ex.loop (λq s=>∃k oc ids H' w1 w5,k<=O (Y ts i)/\q=O (Y ts i) - k/\s=⟨[.d (Q5 ts),w1,.r7 o 1 0 (O ts),.d (Z i),.d (Z k),w5],H'⟩/\zG H' o oc (A0++(Y ts i).take k::B0) ids/\O oc=O ts/\O H<=O H'/\(O H'=n0\/∃v∈oc,n0<v.F4)/\(O H'=O H\/∃v∈oc,O H<v.F4)/\∀x,x<o->H'[x]? =H[x]?) ?_ (k:=O (Y ts i)) ⟨0,oc,ids,H,w1,w5,V,V,rfl,by simpa using h,Bl,V,hg,.inl rfl,λ_ _=>rfl⟩;rintro q s ⟨k,oc,ids,H',w1,w5,hk,rfl,rfl,hC,Bl,hL,Ni,hg1,hlo⟩;rw [show (N6).strict=0 from rfl,ku hC.1 V hg1];refine Ex.seq ?_;refine tl (k:Int) (O (Y ts i):Int) (λhlt=>?_) (λhge=>?_)
 .have hk' :k<O (Y ts i):=V
  obtain ⟨v,cs,e1,e2,ids',hC',Sh⟩:=hC.step (Y (Y ts i) k);rw [hA] at e1 hC' Sh;have e3:O ((Y ts i).take k)=k:=M
  rw [e3] at e2 hC' Sh;refine Ex.skip ?_;refine Ex.seq ?_;refine UJ ts i k o (O ts) k H' .any .any v cs _ hi hk' oc hC.1 hi Bl e1 e2 (room_le h0 V) (h1 k hk').1 (h1 k hk').2 ?_;have hb:=Pt h0
  repeat' (first|refine ad V ?_|refine gx ?_|fail)
  have hin:i<O oc:=V
  have hmem:(c7.r7 (O H'+6) 3 0 (k+1))∈oc.set i (.r7 (O H'+6) 3 0 (k+1)):=List.mem_set hin _;refine ⟨O (Y ts i) - (k+1),V,k+1,_,ids',_,_,_,V,rfl,rfl,?_,?_,?_,.inr ⟨_,hmem,?_⟩,.inr ⟨_,hmem,?_⟩,λx hx=>(Sh x hx).trans (hlo x hx)⟩
  .simp_all [E4]
  all_goals grind [List.length_set,yR,bY,c7.F4]
 .refine Ex.exit ?_
  obtain rfl:k=O (Y ts i):=V
  rw [I8] at hC;exact hq _ _ _ _ _ _ hC Bl V Ni hlo
def UL (ts:List (List R7))(c0:s6)(hc0:c0.F4=0)(hmk:O ts<=1000000)
  (h0:∀i,i<O ts->roomFor (O (Y ts i)+1) 56=W) (h1:∀i,i<O ts->∀k,k<O (Y ts i)->roomFor (O (Y (Y ts i) k).row) 32=W/\roomFor (O (Y (Y ts i) k).seq) 8=W) :
  Pq A 182 [.d (Q5 ts)] [c0] N6 λv H=>v= .r7 1 1 0 (O ts)/\H[0]? =J c0/\∃oc ids,zG H 1 oc ts ids:=by
 refine Pq.go (b:=1) 5 ?_
 repeat' (first|refine mn (h2:=?_)|refine ln ?_|refine gx ?_|fail)
 refine mks (id:=1) (len:=O ts) (H2:=[c0,.cells (c8 (O ts) .N9)]) ?_ ?_ rfl ?_
 .grind [oL,rq,Ek,lk,c7.I7]
 .simp
 refine gr ?_;have UY:zG [c0,.cells (c8 (O ts) .N9)] 1 (c8 (O ts) .N9) (ts.take 0++c8 (O ts - 0) []) []:=⟨rfl,S5.N9 _ _,List.nodup_nil,(λ_ h=>by cases h),.inl ⟨rfl,by simp [D3,hc0,show ∀l,(s6.cells l).F4=A2 l from λ_=>rfl,BF]⟩⟩;refine Ex.loop (λq s=>∃i oc ids H' w1 w4 w5,i<=O ts/\q=O ts - i/\s=⟨[.d (Q5 ts),w1,.r7 1 1 0 (O ts),.d (Z i),w4,w5],H'⟩/\zG H' 1 oc (ts.take i++c8 (O ts - i) []) ids/\O oc=O ts/\2<=O H'/\(O H'=2\/∃v∈oc,2<v.F4)/\H'[0]? =J c0) ?_ (k:=O ts) ⟨0,_,_,_,_,_,_,V,V,rfl,UY,U,U,.inl rfl,rfl⟩;rintro q s ⟨i,oc,ids,H',w1,w4,w5,hi,rfl,rfl,hC,Bl,hL,hg,hc⟩;show Ex A N6 1 _ (clean _ 0 2 _) _
 rw [ku hC.1 V hg];refine Ex.seq ?_;refine tl (i:Int) (O ts:Int) (λhlt=>?_) (λhge=>?_)
 .have hi' :i<O ts:=V
  refine Ex.skip ?_;refine Ex.seq ?_;obtain ⟨m,hm⟩:∃m,O ts - i=m+1:=⟨O ts - i - 1,V⟩;have hm' :O ts - (i+1)=m:=V
  rw [hm,L3] at hC;refine UK ts i 1 2 H' .any .any .any _ hi' oc ids _ _ M hC Bl V hL hg (h0 i hi') (h1 i hi') (λH2 oc2 Cv u1 u4 u5 g1 g2 g3 g4 g5=>?_);refine gr ?_;refine ⟨O ts - (i+1),V,i+1,oc2,Cv,H2,_,_,_,V,rfl,rfl,?_,g2,g3,g4,?_⟩
  all_goals simp_all [E4,G8]
 .refine Ex.exit ?_
  obtain rfl:i=O ts:=V
  rw [I8,Nat.sub_self,List.replicate_zero,List.append_nil] at hC;show Ex A N6 1 (.seq (.region _ F) .ret) ⟨[.d (Q5 ts),.any,.r7 1 1 0 (O ts),.d (Z (O ts)),.any,.any],H'⟩ _
  refine gr ?_;exact ⟨_,_,rfl,rfl,hc,oc,ids,hC⟩
def JI (v:Vl):Bool :=
 if x4 v.k 0 then x4 v.n 0&&K3 v.t []
 else if x4 v.k 1 then T5 (-4294967296) v.n&&(T5 v.n 4294967296&&K3 v.t [])
 else x4 v.k 2&&(x4 v.n 0&&T5 (O v.t) 32)
def vW (v:Vl):Pf A 228 [.agg (v.enc.map .d)] (.d (.bool (JI v))):=by
 refine Pf.go 3 ?_
 repeat' (first|refine gy ?_|refine fq (λhw=>?_) λhw=>?_|refine ⟨_,rfl,?_⟩|fail)
 all_goals simp [JI,j5, *]
def isKey (key:Vl)(r:R7):Bool:=D5 0 (O r.row)&&decide (Y r.row 0=key)
def jG (t:List R7)(key:Vl):Int:=if JI key&& !x4 key.k 0 then (match t.findIdx? (isKey key) with|some i=>(i:Int)|none=> -1) else -1
def vu (a b:Vl):(a.k==b.k&&(a.n==b.n&&(a.t==b.t&&W)))=decide (a=b):=by
 cases a;cases b;rw [Bool.eq_iff_iff];simp
def Gy {t:List R7}{key:Vl}{i:Nat}(hi:i<O t)(h:isKey key (Y t i)=W)(hb:∀j,j<i->isKey key (Y t j)=F):t.findIdx? (isKey key)=J i:=by
 rw [List.findIdx?_eq_some_iff_getElem];refine ⟨hi,by rw [<- D6 hi];exact h,λj hj=>?_⟩;rw [<- D6 (by omega:j<O t),hb j hj];simp
def Gz {t:List R7}{key:Vl}(hb:∀j,j<O t->isKey key (Y t j)=F):t.findIdx? (isKey key)=K:=by
 rw [List.findIdx?_eq_none_iff];intro x hx;obtain ⟨j,hj,rfl⟩:=E9 hx;rw [<- D6 hj];exact hb j hj
def SU (t:List R7)(key:Vl)(ht:O t<4294967296):Pf A 183 [.d (tL t),.agg (key.enc.map .d)] (.d (Z (jG t key))):=by
 refine Pf.go 3 ?_;refine gr ?_;refine Ex.J4 (λk T' H' =>∃i:Nat,i<=O t/\k=O t - i/\T' =[.d (tL t),.any,.ptr 0 0,.any,.d (Z i)]/\H' =[.cells (key.enc.map .d)]/\∀j,j<i->isKey key (Y t j)=F) ?_ (k:=O t) ⟨0,V,V,rfl,rfl,λ_ h=>V⟩;rintro k T' H' ⟨i,hi,rfl,rfl,rfl,hb⟩;refine Ex.seq ?_;refine tc (D5 (i:Int) (O t)&&(JI key&& !x4 key.k 0)) vW (λh=>?_) (λh=>?_)
 .rw [c9] at h
  have hlt:(i:Int)<O t:=A7 h.1;have hok:=h.2;have next:isKey key (Y t i)=F->∀j,j<i+1->isKey key (Y t j)=F:=λh1 j hj=>by
   rcases y7 j i with h2|h2
   .exact hb j h2
   .rwa [show j=i by omega]
  repeat' (first|refine gx ?_|refine fk (h1:=λhw=>?_) (h2:=λhw=>?_)|refine Jz (h1:=λhw=>?_) (h2:=λhw=>?_)|refine Ex.mE ?_|refine Ex.ou ?_|refine Ex.cond rfl (λht=>?_) (λht=>?_)|refine Ex.test (Rn.text ?_)|refine Ex.test (Rn.draw ?_)|refine ⟨_,rfl,λht=>?_,λht=>?_⟩|refine ⟨_,rfl,?_⟩|fail)
  .simp only [vu,Bool.false_bne,decide_eq_true_eq] at ht
   have:isKey key (Y t i)=W:=by rw [isKey,hw,ht];simp
   simp only [j5,jG,hok,if_true,Gy V this hb]
  .simp only [vu,Bool.false_bne] at ht
   exact ⟨O t - (i+1),V,i+1,V,rfl,rfl,rfl,next (by rw [isKey,ht,Bool.and_false])⟩
  .cases ht
  .exact ⟨O t - (i+1),V,i+1,V,rfl,rfl,rfl,next (by rw [isKey,hw,Bool.false_and])⟩
 .repeat' (first|refine gx ?_|refine fk (h1:=λhw=>?_) (h2:=λhw=>?_)|refine Jz (h1:=λhw=>?_) (h2:=λhw=>?_)|refine Ex.mE ?_|refine Ex.ou ?_|refine Ex.cond rfl (λht=>?_) (λht=>?_)|refine Ex.test (Rn.text ?_)|refine Ex.test (Rn.draw ?_)|refine ⟨_,rfl,λht=>?_,λht=>?_⟩|refine ⟨_,rfl,?_⟩|fail)
  simp only [j5,jG];split
  next hok=>
   rw [hok,Bool.and_true] at h;have:=B8 h;rw [Gz λj hj=>hb j V];rfl
  .rfl
end Go.Proofs.YtibjocmpkoepoaaGreat
namespace Go.y9
structure cR where
 op:Int
 seq:Int
 day:Int
 M6:Int
 row:List Vl
 key:Vl
 col:Int
 val:Vl
 deriving DecidableEq,Inhabited
def cR.enc (c:cR):List Data:=[Z c.op,Z c.seq,Z c.day,Z c.M6,s7 Vl.enc c.row,Z c.key.k,Z c.key.n,.str c.key.t,Z c.col,Z c.val.k,Z c.val.n,.str c.val.t]
section
variable {A:Prog} {l:F9} {b:Nat} {dr:Bool} {j8 ops:List x9} {T:List c7} {H:k9} {n:Nat} {rl:List c7} {l6:List Touch} {Q:List c7->k9->List c7->Prop}
def S.ltS {x y:A3}{s t:G4}{u:List Nat}(h2:Ry A l b dr j8 ops T H (n+1) (.d (.bool (Op.bytesLess s t))::rl) l6 Q)(hx:rq T n rl x= .d (.str s):=by rfl)(hy:rq T n rl y= .d (.str t):=by rfl) :
  Ry A l b dr j8 (⟨.bin .lss x y,K,K,u⟩::ops) T H n rl l6 Q:=Ry.pure (rs:=[]) rfl (by grind [l5,H8,qq]) h2
end
end Go.y9
namespace Go.Proofs.YtibjocmpkoepoaaGreat
open Go.y9 Go.y9.S
attribute [local irreducible] Rx Ry Rn Ex Pf Rl
def OS (a b c:Int):Pf A 236 [.d (Z a),.d (Z b),.d (Z c)] (.d (.bool (T5 b a&&T5 a c))):=by
 refine Pf.go 1 ?_
 repeat' (first|refine gy ?_|refine fq (λhw=>?_) λhw=>?_|refine ⟨_,rfl,?_⟩|fail)
 all_goals simp [j5, *]
def SS (v:Vl)(k:Int):Pf A 180 [.agg (v.enc.map .d),.d (Z k)] (.d (.bool (x4 v.k 0||x4 v.k k))):=by
 refine Pf.go 2 ?_
 repeat' (first|refine gy ?_|refine fq (λhw=>?_) λhw=>?_|refine ⟨_,rfl,?_⟩|fail)
 all_goals simp [j5, *]
def fQ (v:Vl):Vl:=if JI v then v else ⟨0,0,[]⟩
def OQ (v:Vl):Pf A 169 [.agg (v.enc.map .d)] (.agg ((fQ v).enc.map .d)):=by
 refine Pf.go 2 ?_
 repeat' (first|refine cl (vW _) ?_|refine iX (vW _) ?_|refine gx ?_|refine fk (h1:=λhw=>?_) (h2:=λhw=>?_)|refine Jz (h1:=λhw=>?_) (h2:=λhw=>?_)|refine Ex.mE ?_|refine Ex.ou ?_|refine Ex.cond rfl (λht=>?_) (λht=>?_)|refine Ex.test (Rn.text ?_)|refine Ex.test (Rn.draw ?_)|refine ⟨_,rfl,λht=>?_,λht=>?_⟩|refine ⟨_,rfl,?_⟩|fail)
 .simp only [fQ,ht]
  rfl
 .simp only [fQ,ht]
  rfl
def tC (c:cR):Vl:=if x4 c.op 1 then Y c.row 0 else c.key
def SR (c:cR)(h:c.op=1->0<O c.row):Pf A 179 [.agg (c.enc.map .d)] (.agg ((tC c).enc.map .d)):=by
 refine Pf.go 2 ?_
 repeat' (first|refine gx ?_|refine fk (h1:=λhw=>?_) (h2:=λhw=>?_)|refine Jz (h1:=λhw=>?_) (h2:=λhw=>?_)|refine Ex.mE ?_|refine Ex.ou ?_|refine Ex.cond rfl (λht=>?_) (λht=>?_)|refine Ex.test (Rn.text ?_)|refine Ex.test (Rn.draw ?_)|refine ⟨_,rfl,λht=>?_,λht=>?_⟩|refine ⟨_,rfl,?_⟩|fail)
 all_goals
  simp only [tC,ht];rfl
def BT (a b:Vl):Int :=
 if fQ a=fQ b then 0 else if D5 (fQ a).k (fQ b).k||(x4 (fQ a).k (fQ b).k&&(D5 (fQ a).n (fQ b).n||Op.bytesLess (fQ a).t (fQ b).t)) then -1 else 1
def SV (a b:Vl):Pf A 184 [.agg (a.enc.map .d),.agg (b.enc.map .d)] (.d (Z (BT a b))):=by
 refine Pf.go 3 ?_
 repeat' (first|refine cl (OQ _) ?_|refine iX (OQ _) ?_|refine soD (h2:=?_)|refine ltS ?_|refine gy ?_|refine fq (λhw=>?_) λhw=>?_|refine ⟨_,rfl,?_⟩|fail)
 all_goals simp only [vu,Bool.false_bne,decide_eq_true_eq,decide_eq_false_iff_not] at *
 all_goals simp_all [j5,BT,Z]
def ao6 (l:List Vl):Pf A 237 [.d (s7 Vl.enc l)] (.d (.bool (!D5 16 (O l)&&l.all JI))):=by
 refine Pf.go 2 ?_;refine Ex.seq ?_;refine gr ?_;refine tc (D5 16 (O l)) trivial (λh=>?_) (λh=>?_)
 .refine gr ?_
  exact ⟨_,rfl,by rw [h];rfl⟩
 have hl:=B8 h;refine gr ?_;refine Ex.J4 (λk T' H' =>∃i:Nat,i<=O l/\k=O l - i/\T' =[.d (s7 Vl.enc l),.any,.d (Z i)]/\H' =[]/\∀j,j<i->JI (Y l j)=W) ?_ (k:=O l) ⟨0,V,V,rfl,rfl,λ_ h=>V⟩;rintro k T' H' ⟨i,hi,rfl,rfl,rfl,hb⟩;refine Ex.seq ?_;refine tl (i:Int) (O l:Int) (λh2=>?_) (λh2=>?_)
 .repeat' (first|refine cl (vW _) ?_|refine iX (vW _) ?_|refine gx ?_|refine fk (h1:=λhw=>?_) (h2:=λhw=>?_)|refine Jz (h1:=λhw=>?_) (h2:=λhw=>?_)|refine Ex.mE ?_|refine Ex.ou ?_|refine Ex.cond rfl (λht=>?_) (λht=>?_)|refine Ex.test (Rn.text ?_)|refine Ex.test (Rn.draw ?_)|refine ⟨_,rfl,λht=>?_,λht=>?_⟩|refine ⟨_,rfl,?_⟩|fail)
  .have h3:JI (Y l i)=F:=by simpa using ht
   have h4:l.all JI=F:=by
    rw [Bool.eq_false_iff];intro h4;have:=List.all_eq_true.1 h4 _ (List.getElem_mem (by omega:i<O l));rw [<- D6 V,h3] at this;cases this
   simp only [j5,h4,Bool.and_false]
  .have h3:JI (Y l i)=W:=by simpa using ht
   refine ⟨O l - (i+1),V,i+1,V,rfl,rfl,rfl,λj hj=>?_⟩
   rcases y7 j i with h5|h5
   .exact hb j h5
   .rwa [show j=i by omega]
 .refine gr ?_
  have h4:l.all JI=W:=by
   rw [List.all_eq_true];intro x hx;obtain ⟨j,hj,rfl⟩:=E9 hx;rw [<- D6 hj];exact hb j V
  exact ⟨_,rfl,by rw [h,h4];rfl⟩
end Go.Proofs.YtibjocmpkoepoaaGreat
namespace Go.y9
theorem K9.at {H:k9}:∀{rs:List R7} {cs:List c7} {ids:List Nat} {i:Nat},K9 H cs rs ids->i<O rs->∃a b,cs[i * 3]? =J (.r7 a 3 0 (O (Y rs i).row))/\cs[i * 3+1]? =J (.r7 b 1 0 (O (Y rs i).seq))/\a∈ids/\b∈ids/\H[a]? =J (.cells (bD (Y rs i).row))/\H[b]? =J (.cells (cu (Y rs i).seq))
 |[],_,_,_,_,h=>by cases h
 |r::rs,_,_,i,⟨a,b,cs',ids',e1,e2,h1,h2,h3⟩,h=>by
  have n0:Y (r::rs) 0=r:=by simp [Y]
  have n1:∀i,Y (r::rs) (i+1)=Y rs i:=λi=>by simp [Y]
  cases i with
  |zero =>
   simp_all
  |succ i =>
   obtain ⟨a',b',g1,g2,g3,g4,g5,g6⟩:=h3.at (i:=i) (by simpa using h)
   grind
def an {H:k9}{id o:Nat}{cs:List c7}{v:c7}(h:H[id]? =J (.cells cs))(hv:cs[o]? =J v):rd H id o 1=J [v]:=by
 simp_all [rd,QW]
def FC {H:k9}{a:Nat}{r:List Vl}(h:H[a]? =J (.cells (bD r)))(hr:0<O r):rd H a 0 3=J ((Y r 0).enc.map .d):=by
 cases r with
 |nil=>cases hr
 |cons v r=>simp [rd,h,bD,Vl.enc,Y]
end Go.y9
namespace Go.Proofs.YtibjocmpkoepoaaGreat
open Go.y9 Go.y9.S
attribute [local irreducible] Rx Ry Rn Ex Pf Rl
def KE (H X:k9)(w0 w1 w2 w4:c7)(x:Int):R4 a183 (O H) (J (.ret,⟨[w0,w1,w2,.d (Z x),w4],H++X⟩))=J (.d (Z x),H):=by
 have:R4 a183 (O H) (J (.ret,⟨[w0,w1,w2,.d (Z x),w4],H++X⟩))=(if (0:Nat)<=O H then J (.d (Z x),(H++X).take (O H)) else K):=rfl;simp_all
def Wg (H:k9)(l:F9)(id:Nat)(cs:List c7)(ids:List Nat)(t:List R7)(key:Vl)(ht:O t<4294967296)(hid:H[id]? =J (.cells cs))(hR:K9 H cs t ids)(hi:∀x∈ids,x<O H) :
  Pq A 183 [.r7 id 3 0 (O t),.agg (key.enc.map .d)] H l λw H1=>w= .d (Z (jG t key))/\H1=H:=by
 have KT:=vS hid;refine Pq.go (b:=O H) 3 ?_
 repeat' (first|refine bx (hi:=rfl) (hH:=rfl) (h2:=?_)|refine gx ?_|fail)
 have rk:rd (H++[.cells (key.enc.map .d)]) (O H) 0 3=J (key.enc.map .d):=by simp [rd,Vl.enc]
 have rk1:rd (H++[.cells (key.enc.map .d)]) (O H) 0 1=J [.d (Z key.k)]:=by simp [rd,Vl.enc]
 refine Ex.J4 (λk T' H' =>∃i:Nat,i<=O t/\k=O t - i/\T' =[.r7 id 3 0 (O t),.any,.ptr (O H) 0,.any,.d (Z i)]/\H' =H++[.cells (key.enc.map .d)]/\∀j,j<i->isKey key (Y t j)=F) ?_ (k:=O t) ⟨0,V,V,rfl,rfl,λ_ h=>V⟩ (by rintro _ _ _ ⟨_,_,_,_,rfl,_⟩;rfl);rintro k T' H' ⟨i,hi',rfl,rfl,rfl,hb⟩;refine Ex.seq ?_;refine Ex.cM (D5 (i:Int) (O t)&&(JI key&& !x4 key.k 0)) ?_ (λh=>?_) (λh=>?_)
 .refine Rn.text ?_
  repeat' (first|refine AB rk rfl ?_|refine Np rk1 rfl ?_|refine No ?_|refine cl (vW _) ?_|refine iX (vW _) ?_|refine gx ?_|refine fk (h1:=λhw=>?_) (h2:=λhw=>?_)|refine Jz (h1:=λhw=>?_) (h2:=λhw=>?_)|refine ⟨rfl,rfl,_,rfl,?_⟩|refine ⟨rfl,rfl⟩|fail)
  all_goals first|(simp [*];done)|(simp_all;done)|skip
 .rw [c9] at h
  have hlt:(i:Int)<O t:=A7 h.1;have hok:=h.2;have next:isKey key (Y t i)=F->∀j,j<i+1->isKey key (Y t j)=F:=λh1 j hj=>by
   rcases y7 j i with h2|h2
   .exact hb j h2
   .rwa [show j=i by omega]
  obtain ⟨a,b,g1,g2,g3,g4,g5,g6⟩:=hR.at (i:=i) V;have r1:rd (H++[.cells (key.enc.map .d)]) id (0+(i:Int).toNat * 3+0) 1=J [.r7 a 3 0 (O (Y t i).row)]:=an ((aO KT).trans hid) (by simpa using g1);have r3:D5 0 (O (Y t i).row:Int)=W->rd (H++[.cells (key.enc.map .d)]) a (0+(0:Int).toNat * 3) 3=J ((Y (Y t i).row 0).enc.map .d):=λh=>FC ((aO (hi a g3)).trans g5) (by have:=A7 h;omega)
  repeat' (first|refine JG (e:=(i:Int)) (len:=O t) ⟨V,hlt⟩ ?_|refine JG (e:=0) (len:=O (Y t i).row) ⟨V,A7 (by assumption)⟩ ?_|refine Np r1 rfl ?_|refine No ?_|refine AB (r3 (by assumption)) rfl ?_|refine AB rk rfl ?_|refine gx ?_|refine fk (h1:=λhw=>?_) (h2:=λhw=>?_)|refine Jz (h1:=λhw=>?_) (h2:=λhw=>?_)|refine Ex.mE ?_|refine Ex.ou ?_|refine Ex.cond rfl (λht=>?_) (λht=>?_)|refine Ex.test (Rn.text ?_)|refine Ex.test (Rn.draw ?_)|refine ⟨_,rfl,λht=>?_,λht=>?_⟩|refine ⟨_,rfl,?_⟩|fail)
  next ht=>
   simp only [vu,Bool.false_bne,decide_eq_true_eq] at ht;have hw:D5 0 (O (Y t i).row:Int)=W:=by assumption
   have:isKey key (Y t i)=W:=by rw [isKey,hw,ht];simp
   refine ⟨_,_,KE _ _ _ _ _ _ _,?_,rfl⟩;simp only [jG,hok,if_true,Gy V this hb]
  next ht=>
   simp only [vu,Bool.false_bne] at ht;exact ⟨O t - (i+1),V,i+1,V,rfl,rfl,rfl,next (by rw [isKey,ht,Bool.and_false])⟩
  next ht=>
   cases ht
  .have hw:D5 0 (O (Y t i).row:Int)=F:=by assumption
   exact ⟨O t - (i+1),V,i+1,V,rfl,rfl,rfl,next (by rw [isKey,hw,Bool.false_and])⟩
 .repeat' (first|refine gx ?_|refine fk (h1:=λhw=>?_) (h2:=λhw=>?_)|refine Jz (h1:=λhw=>?_) (h2:=λhw=>?_)|refine Ex.mE ?_|refine Ex.ou ?_|refine Ex.cond rfl (λht=>?_) (λht=>?_)|refine Ex.test (Rn.text ?_)|refine Ex.test (Rn.draw ?_)|refine ⟨_,rfl,λht=>?_,λht=>?_⟩|refine ⟨_,rfl,?_⟩|fail)
  refine ⟨_,_,KE _ _ _ _ _ _ _,?_,rfl⟩;simp only [jG];split
  next hok=>
   rw [hok,Bool.and_true] at h;have:=B8 h;rw [Gz λj hj=>hb j V]
  .rfl
end Go.Proofs.YtibjocmpkoepoaaGreat
namespace Go.y9
theorem K9.cut {H:k9}:∀{rs:List R7} {cs:List c7} {ids:List Nat} (i:Nat),K9 H cs rs ids->∃j1 j2,K9 H (cs.take (i * 3)) (rs.take i) j1/\K9 H (cs.drop (i * 3)) (rs.drop i) j2/\(∀x∈j1,x∈ids)/\∀x∈j2,x∈ids
 |[],_,_,i,h=>by
  simp_all [K9]
 |r::rs,cs,ids,0,h=>⟨[],ids,by simp [K9],by simpa using h,U,λ_ h=>h⟩
 |r::rs,_,_,i+1,⟨a,b,cs',ids',e1,e2,h1,h2,h3⟩=>by
  subst e1 e2;obtain ⟨j1,j2,g1,g2,g3,g4⟩:=h3.cut i;refine ⟨a::b::j1,j2,?_,?_,λx hx=>?_,λx hx=>M⟩
  .rw [show (i+1) * 3=i * 3+1+1+1 by omega]
   exact ⟨a,b,_,_,rfl,rfl,h1,h2,g1⟩
  all_goals grind
theorem K9.dc {H:k9}:∀{rs:List R7} {cs:List c7} {ids:List Nat} {i:Nat},K9 H cs rs ids->ids.Nodup->i<O rs ->
  ∃a b,cs[i * 3]? =J (.r7 a 3 0 (O (Y rs i).row))/\cs[i * 3+1]? =J (.r7 b 1 0 (O (Y rs i).seq))/\a∈ids/\b∈ids/\a≠b/\H[a]? =J (.cells (bD (Y rs i).row))/\H[b]? =J (.cells (cu (Y rs i).seq)) /\
   ∀(H' :k9) (row:List Vl) (seq:List Int),O row=O (Y rs i).row->O seq=O (Y rs i).seq->H'[a]? =J (.cells (bD row))->H'[b]? =J (.cells (cu seq))->(∀x∈ids,x≠a->x≠b->H'[x]? =H[x]?)->K9 H' cs (rs.set i ⟨row,seq,(Y rs i).day⟩) ids
 |[],_,_,_,_,_,h=>by cases h
 |r::rs,_,_,i,⟨a,b,cs',ids',e1,e2,h1,h2,h3⟩,Qp,h=>by
  subst e1 e2;simp [List.nodup_cons,List.mem_cons,not_or] at Qp;cases i with
  |zero =>
   rw [O2];refine ⟨a,b,rfl,rfl,U,U,Qp.1.1,h1,h2,λH' row seq e1 e2 k1 k2 k3=>?_⟩;refine ⟨a,b,cs',ids',by rw [e1,e2],rfl,k1,k2,h3.mono λx hx=>k3 x (by simp [hx]) ?_ ?_⟩
   all_goals grind
  |succ i =>
   rw [aS];obtain ⟨a',b',g1,g2,g3,g4,g5,g6,g7,g8⟩:=h3.dc (i:=i) Qp.2.2 (by simpa using h);refine ⟨a',b',?_,?_,by simp [g3],by simp [g4],g5,g6,g7,λH' row seq e1 e2 k1 k2 k3=>?_⟩
   .grind
   .grind
   .have ha:∀x∈ids',x≠a/\x≠b:=λx hx=>⟨by grind,by grind⟩
    refine ⟨a,b,cs',ids',rfl,rfl,?_,?_,g8 H' row seq e1 e2 k1 k2 λx hx=>k3 x (by simp [hx])⟩
    all_goals grind
def S5.ae2 {H:k9}{o:Nat}{oc:List c7}{ts:List (List R7)}{ids:List Nat}(ho:H[o]? =J (.cells oc))(h:S5 H oc ts ids)(h1:O ts<300000)(h2:∀t∈ts,O t<100000/\∀r∈t,O r.row<100000/\O r.seq<100000):X6 H 0 1000000 [.r7 o 1 0 (O ts)]=J [.d (Q5 ts)]:=by
 obtain ⟨ws,w1,w2⟩:=h.RM (n:=0) (f:=999999) (λx hx=>x3 _) (λt ht=>⟨V,λr hr=>by
  grind⟩) V
 have:=KN (sz:=1) (len:=O ts) (x3 o) (show X6 H 0 999999 []=J [] from rfl) ho (by rw [h.len,Nat.mul_one]) w1 w2;rw [show (1000000:Nat)=999999+1 from rfl,this];rw [show Q5 ts= .slice (O ts) (ts.map tL) from by
  have e1:∀l:List (List R7),(l.flatMap λl=>[tL l])=l.map tL:=λl=>by
   induction l with
   |nil=>rfl
   |cons a l ih=>simp_all
  rw [Q5,s7,e1]]
def JV (H:k9)(n:Nat):D3 (H.take n)<=D3 H:=by
 conv=>rhs;rw [<- List.take_append_drop n H]
 rw [jX];omega
def EG {H:k9}{n o:Nat}{oc:List c7}(ho:H[o]? =J (.cells oc))(Yg:o<n)(hn:n<=D3 H)(hc:A2 oc=D3 H)(k:Nat):D4 H 0 (k+2) n=D3 H:=by
 have key:∀m,o<m->D3 (H.take m)=D3 H:=λm hm=>by
  refine Nat.le_antisymm (JV H m) ?_;have h1:s6.cells oc∈H.take m:=by
   rw [List.mem_take_iff_getElem];obtain ⟨h1,h2⟩:=List.getElem?_eq_some_iff.1 ho;exact ⟨o,V,h2⟩
  have:=lG h1;simp only [s6.F4,hc] at this;exact this
 have step:∀k m,o<m->m<=D3 H->D4 H 0 (k+1) m=if D3 H=m then m else D4 H 0 k (D3 H):=λk m h1 h2=>by
  rw [D4,if_neg V];simp only [List.drop_zero,key m h1,Nat.max_eq_right h2]
 rw [step _ n Yg hn];split
 .omega
 .rw [step _ _ V (j9 _),if_pos rfl]
structure jS (H:k9)(lv:c7)(m:Nat)(cs:List c7):Prop where
 tN:lv.I7=lv
 len:O cs=m * 3
 cd:cs.map c7.I7=cs
 one:cs.all c7.one=W
 bd:A2 cs<=O H
 wX :(lv= .d (.slice 0 [])/\m=0)\/∃id,lv= .r7 id 3 0 m/\H[id]? =J (.cells cs)
theorem K9.one {H:k9}:∀{rs:List R7} {cs:List c7} {ids:List Nat},K9 H cs rs ids->cs.all c7.one=W
 |[],_,_,h=>by simp [h.1]
 |r::rs,_,_,⟨a,b,cs',ids',e1,e2,h1,h2,h3⟩=>by
  subst e1;simp only [List.all_cons,h3.one];rfl
def bH.lv {H:k9}{v:c7}{l:List R7}{ids:List Nat}(h:bH H v l ids)(hW:D3 H<=O H):∃cs ids',jS H v.I7 (O l) cs/\K9 H cs l ids' /\(∀y∈ids',y∈ids)/\(ids.Nodup->ids'.Nodup)/\(v.I7= .d (.slice 0 [])\/∃id,id∈ids/\v.I7= .r7 id 3 0 (O l)):=by
 rcases h with ⟨rfl,rfl,rfl⟩|⟨id,cs,ids',rfl,rfl,h1,h2⟩
 .exact ⟨[],[],⟨rfl,rfl,rfl,rfl,x3 _,.inl ⟨rfl,rfl⟩⟩,⟨rfl,rfl⟩,U,λ_=>List.nodup_nil,.inl rfl⟩
 .refine ⟨cs,ids',⟨rfl,h2.len,h2.I7,h2.one,p7 (lG (v:= .cells cs) (List.mem_of_getElem? h1)) hW,.inr ⟨id,rfl,h1⟩⟩,h2,λy hy=>by simp [hy],λh=>(List.nodup_cons.1 h).2,.inr ⟨id,U,rfl⟩⟩
structure Rp (H:k9)(lv:c7)(m:Nat)(cs:List c7)(lo hi:Nat)(w:c7):Prop where
 tN:w.I7=w
 F4:w.F4<=O H
 pf:lo=0->∀(ρ:A3->c7) (G:k9) (x y:A3),ρ x=lv->ρ y= .d (Z hi)->l5 ρ G (.bE 3 x K (J y))=J (w,[])
 pr:hi=m->∀(ρ:A3->c7) (G:k9) (x y:A3),ρ x=lv->ρ y= .d (Z lo)->l5 ρ G (.bE 3 x (J y) K)=J (w,[])
 sc:∀G:k9,(∀id,id<O H->H[id]? =J (.cells cs)->G[id]? =H[id]?)->B4 G 3 w=J (hi - lo,(cs.take (hi * 3)).drop (lo * 3))
def jS.part {H:k9}{lv:c7}{m:Nat}{cs:List c7}(h:jS H lv m cs){lo hi:Nat}(h1:lo<=hi)(h2:hi<=m):∃w,Rp H lv m cs lo hi w:=by
 by_cases e:lo=hi
 .subst e
  refine ⟨.d (.slice 0 []),rfl,x3 _,λe ρ G x y hx hy=>?_,λe ρ G x y hx hy=>?_,λG _=>?_⟩
  .subst e
   rcases h.wX with ⟨rfl,rfl⟩|⟨id,rfl,_⟩<;>simp [l5,hx,hy,S6,Z]
  .subst e
   rcases h.wX with ⟨rfl,rfl⟩|⟨id,rfl,_⟩<;>simp [l5,hx,hy,S6,Z]
  simp_all [List.drop_eq_nil_of_le,K0,B4]
 .rcases h.wX with ⟨rfl,rfl⟩|⟨id,rfl,hid⟩
  .omega
  .have KT:=vS hid
   refine ⟨.r7 id 3 (lo * 3) (hi - lo),rfl,KT,λe ρ G x y hx hy=>?_,λe ρ G x y hx hy=>?_,λG hG=>?_⟩
   .grind [l5,S6,Z]
   .grind [l5,S6,Z]
   .have a0:rd G id (lo * 3) ((hi - lo) * 3)=J ((cs.take (hi * 3)).drop (lo * 3)):=by
     have a4:lo * 3+(hi - lo) * 3<=O cs:=by rw [h.len];omega
     have a5:(hi - lo) * 3=hi * 3 - lo * 3:=V
     simp_all [rd,if_true,Option.some.injEq,List.drop_take]
    have a1:((cs.take (hi * 3)).drop (lo * 3)).map c7.I7=(cs.take (hi * 3)).drop (lo * 3):=by rw [List.map_drop,List.map_take,h.cd]
    simp_all [B4,if_true]
def jS.parts {H:k9}{lv:c7}{m:Nat}{cs:List c7}(h:jS H lv m cs)(i j:Nat):A2 ((cs.take i).drop j)<=O H/\((cs.take i).drop j).all c7.one=W/\((cs.take i).drop j).map c7.I7=(cs.take i).drop j:=by
 refine ⟨p7 (p7 (lE _ _) (lF _ _)) h.bd,?_,by rw [List.map_drop,List.map_take,h.cd]⟩;rw [List.all_eq_true];intro x hx;exact List.all_eq_true.1 h.one x (List.mem_of_mem_take (List.mem_of_mem_drop hx))
def jS.al4 {H:k9}{lv:c7}{m:Nat}{cs:List c7}(h:jS H lv m cs){ρ:A3->c7}{G:k9}{x:A3}(hx:ρ x=lv):l5 ρ G (.len x)=J (.d (Z m),[]):=by
 rcases h.wX with ⟨rfl,rfl⟩|⟨id,rfl,_⟩<;>simp [l5,hx,Z,i64]
theorem jS.mono {H H' :k9}{lv:c7}{m:Nat}{cs:List c7}(h:jS H lv m cs)(hL:O H<=O H')(hm:∀id,id<O H->H[id]? =J (.cells cs)->H'[id]? =H[id]?):jS H' lv m cs:=by
 refine ⟨h.tN,h.len,h.cd,h.one,p7 h.bd hL,?_⟩
 rcases h.wX with h1|⟨id,rfl,hid⟩
 all_goals grind
theorem kR {n:Nat}(h:n<=1000):roomFor n 56=W:=by
 refine decide_eq_true ?_;omega
end Go.y9
namespace Go.Proofs.YtibjocmpkoepoaaGreat
open Go.y9
def nC (l:List R7)(v:Vl):Nat:=O (l.takeWhile λq=>D5 (BT (Y q.row 0) v) 0)
def mY (l:List R7)(a:Int):List R7:=l.take a.toNat++l.drop (a.toNat+1)
def OC (c:cR):R7:=⟨c.row,c8 (O c.row) c.seq,c.day⟩
def pq (l:List R7)(c:cR):List R7:=l.take (nC l (Y c.row 0))++OC c::l.drop (nC l (Y c.row 0))
def Jv (l:List R7)(a:Int)(c:cR):List R7:=l.set a.toNat ⟨(Y l a.toNat).row.set c.col.toNat c.val,(Y l a.toNat).seq.set c.col.toNat c.seq,(Y l a.toNat).day⟩
def N8 (l:List R7)(a:Int)(c:cR):List R7 :=
 if x4 c.op 1 then (if D5 a 0&&T5 64 (O l) then l else pq (if D5 a 0 then l else mY l a) c)
 else if D5 a 0 then l else if x4 c.op 2 then Jv l a c else mY l a
def U0 (ts:List (List R7))(c:cR):List (List R7):=ts.set c.M6.toNat (N8 (Y ts c.M6.toNat) (jG (Y ts c.M6.toNat) (tC c)) c)
def JO (w:Nat)(l:List R7):Prop:=O l<=64/\∀r∈l,O r.row=w/\O r.seq=w
def PR (w:Nat->Nat)(ts:List (List R7)):Prop:=∀i,i<O ts->JO (w i) (Y ts i)
structure XQ (n:Nat)(w:Nat->Nat)(x:cR):Prop where
 t0:0<=x.M6
 t1:x.M6<n
 op:x.op=1\/x.op=2\/x.op=3
 row:O x.row=if x.op=1 then w x.M6.toNat else 0
 c0:0<=x.col
 c1:x.col<w x.M6.toNat
def OJ {α:Type} [Inhabited α] {l:List α}{i j:Nat}{a:α}(hi:i<O l):Y (l.set j a) i=if j=i then a else Y l i:=by
 simp_all [D6,List.getElem_set]
theorem PR.set {w:Nat->Nat}{ts:List (List R7)}(h:PR w ts){j:Nat}{t:List R7}(ht:JO (w j) t):PR w (ts.set j t):=λi hi=>by
 have hi:i<O ts:=M
 rw [OJ hi];split
 .simp_all
 .exact h i hi
def Cb (t:List R7)(key:Vl):jG t key<O t/\ -1<=jG t key:=by
 grind [jG,List.findIdx?_eq_some_iff_getElem]
def Ot (l:List R7)(v:Vl):nC l v<=O l:=(List.takeWhile_sublist _).length_le
theorem tU {w:Nat}{l:List R7}{a:Int}(h:JO w l)(h0:0<=a)(h1:a<O l):JO w (mY l a)/\O (mY l a)+1=O l:=by
 have hl:O (mY l a)+1=O l:=by grind [mY]
 refine ⟨⟨by have:=h.1;omega,λr hr=>h.2 r ?_⟩,hl⟩
 rcases A5.1 hr with hr|hr
 all_goals grind
theorem Hl {w:Nat}{l:List R7}{c:cR}(h:JO w l)(hl:O l<64)(hw:O c.row=w):JO w (pq l c)/\O (pq l c)=O l+1:=by
 have e:O (pq l c)=O l+1:=by grind [pq]
 refine ⟨⟨V,λr hr=>?_⟩,e⟩;simp [pq,A5,List.mem_cons] at hr
 rcases hr with hr|rfl|hr
 .exact h.2 r (List.mem_of_mem_take hr)
 .simp [OC,hw]
 .exact h.2 r (List.mem_of_mem_drop hr)
theorem PL {w:Nat}{l:List R7}{a:Int}{c:cR}(h:JO w l)(h1:a.toNat<O l):JO w (Jv l a c):=by
 refine ⟨by simpa [Jv] using h.1,λr hr=>?_⟩
 rcases List.mem_or_eq_of_mem_set hr with hr|rfl
 .exact h.2 r hr
 .have:=h.2 _ (C5 h1)
  simp_all
def sI {w:Nat}{l:List R7}{a:Int}{c:cR}(h:JO w l)(h1:a<O l)(hw:c.op=1->O c.row=w):JO w (N8 l a c):=by
 unfold N8;split
 next ho=>
  have hw:=hw (W6 ho);split
  .exact h
  next hc=>
   by_cases h2:a<0
   .have e:D5 a 0=W:=by simp_all [y4]
    rw [e,Bool.true_and,x6,decide_eq_true_eq] at hc
    grind [Hl]
   .rw [if_neg (by simp_all [y4])]
    have:=tU h V h1;exact (Hl this.1 (by have:=h.1;omega) hw).1
 grind [y4,PL,tU]
def kK {n:Nat}{w:Nat->Nat}{ts:List (List R7)}{x:cR}(h:PR w ts)(hn:O ts=n)(hx:XQ n w x):PR w (U0 ts x)/\O (U0 ts x)=n:=by
 have h0:=hx.t0;have h1:=hx.t1;refine ⟨h.set (sI (h _ V) (Cb _ _).1 λe=>?_),by simp_all [U0]⟩;rw [hx.row,if_pos e]
end Go.Proofs.YtibjocmpkoepoaaGreat
namespace Go.y9
def UB {T:List c7}{n:Nat}{rl:List c7}{H:k9}{x y:A3}{k:Nat}(hk:k<1000000)(hx:rq T n rl x= .d (Z (k:Int)))(hy:rq T n rl y= .d (Z 1)):l5 (rq T n rl) H (.bin .add x y)=J (.d (Z ((k+1:Nat):Int)),[]):=by
 grind [IntKind.wrap,i64,Go.y9.wrap_small,l5,Z,H8,Q8,W4]
def Ra {H X:k9}{c:s6}(h:2<=O H):(H++X).set 1 c=H.set 1 c++X:=Jh c V
end Go.y9
namespace Go.Proofs.YtibjocmpkoepoaaGreat
open Go.y9 Go.y9.S
attribute [local irreducible] Rx Ry Rn Ex Pf Rl
def RF (n i k m:Nat)(H:k9)(x:cR)(oc cs:List c7)(lv w0 w1 w3 w7 w8 w9:c7)(Q:G6->St->Prop)(h0:H[0]? =J (.cells (x.enc.map .d)))(h1:H[1]? =J (.cells oc))(hL:2<=O H)(Bl:O oc=n)(hi:x.M6=(i:Int))(hin:i<n)(hl:jS H lv m cs)(hk:k<m)(hm:m<=64)
  (hq:Q .normal ⟨[w0,w1,.ptr 0 0,w3,.r7 1 1 0 n,lv,.d (Z k),w7,w8,w9],H.set 1 (.cells (oc.set i (.r7 (O H+2) 3 0 (m - 1))))++[.dead,.dead,.cells (cs.take (k * 3)++cs.drop ((k+1) * 3))]⟩) :
  Ex A N6 0 (match iS.body with
   | .seq _ (.seq _ (.seq _ (.seq _ (.seq (.block _ (.test _ _ _ _ (.test _ _ _ _ (.test _ _ _ _ c)))) _))))=>c
   |c=>c) ⟨[w0,w1,.ptr 0 0,w3,.r7 1 1 0 n,lv,.d (Z k),w7,w8,w9],H⟩ Q:=by
 obtain ⟨u1,g1⟩:=hl.part (x3 k) V;obtain ⟨u2,g2⟩:=hl.part (show k+1<=m by omega) (j9 m);have e1:=hl.parts (k * 3) (0 * 3);have e2:=hl.parts (m * 3) ((k+1) * 3);have c1:(cs.take (k * 3)).drop (0 * 3)=cs.take (k * 3):=U
 have c2:(cs.take (m * 3)).drop ((k+1) * 3)=cs.drop ((k+1) * 3):=by rw [<- hl.len,I8]
 rw [c2] at e2;have l1:O (cs.take (k * 3))=k * 3:=by rw [K0,hl.len];omega
 have s1:=g1.sc (H++[.cells []]) λid hid _=>aO hid
 have s2:=g2.sc (H++[.dead,.cells (cs.take (k * 3))]) λid hid _=>aO hid
 rw [c2] at s2;have b1:=g1.F4;have b2:=g2.F4;have hne:H≠[]:=by grind
 have r3:rd (H++[.dead]) 0 3 1=J [.d (Z x.M6)]:=an ((aO V).trans h0) rfl;refine Ex.region (Rn.xK (O H) (H++[.dead]) [] rfl rfl rfl ?_);refine ym ?_;refine yp (rs:=[]) (.ptr 0 3) rfl ?_;refine yp (rs:=[0]) (.d (Z i)) (by simp [l5,rq,Ek,lk,r3,hi,c7.I7]) ?_;refine Ri (O H+1) [] (H++[.cells []]) rfl U (pQ H _ 0 _) rfl ?_;refine ym (hx:=⟨rfl,hl.tN⟩) ?_;refine ym ?_;refine yp (rs:=[]) u1 (g1.pf rfl _ _ _ _ hl.tN rfl) ?_;refine Nb (O H+1) k (O H+1) (H++[.dead,.cells (cs.take (k * 3))]) rfl g1.tN (iC H _ 0) s1 rfl ⟨U,by grind [kR],p7 e1.1 U,e1.2.1,U⟩ M U V V ?_;refine ym (hx:=⟨rfl,hl.tN⟩) ?_;refine ym ?_;refine yp (rs:=[]) _ (UB (k:=k) V rfl rfl) ?_;refine yp (rs:=[]) u2 (g2.pr rfl _ _ _ _ hl.tN rfl) ?_;refine Nb (O H+2) (m - 1) (O H+2) (H++[.dead,.dead,.cells (cs.take (k * 3)++cs.drop ((k+1) * 3))]) rfl g2.tN (iC H _ 1) s2 rfl ⟨l1.symm,kR V,p7 e2.1 U,e2.2.1,U⟩ M U V V ?_;refine yp (rs:=[]) (.ptr 1 i) (by simp [l5,rq,Ek,lk,hin,Z,c7.I7]) ?_;refine ys rfl ⟨rfl,rfl⟩ rfl rfl rfl (.inr ⟨x3 _,x3 _⟩) ?_ ?_ (H2:=H.set 1 (.cells (oc.set i (.r7 (O H+2) 3 0 (m - 1))))++[.dead,.dead,.cells (cs.take (k * 3)++cs.drop ((k+1) * 3))])
 .simp only [wr,aO (show 1<O H by omega),h1,D9,Ra hL]
  rw [if_pos V,pV _ _ _ V]
 simp_all [yn,aT,E6,Touch.E3,F0.makes,F0.y3,c7.F4]
def Ts (n k m:Nat)(H:k9)(cs:List c7)(lv w0 w1 w2 w3 w4 w7 w8 w9:c7)(Q:G6->St->Prop)(hL:2<=O H)(hl:jS H lv m cs)(hk:k<m)(hm:m<=64)
  (hq:Q .normal ⟨[w0,w1,w2,w3,w4,.r7 (O H+2) 3 0 (m - 1),.d (Z k),w7,w8,w9],H++[.dead,.dead,.cells (cs.take (k * 3)++cs.drop ((k+1) * 3))]⟩) :
  Ex A N6 0 (match iS.body with
   | .seq _ (.seq _ (.seq _ (.seq _ (.seq (.block _ (.test _ _ _ (.seq (.test _ _ _ c _) _) _)) _))))=>c
   |c=>c) ⟨[w0,w1,w2,w3,w4,lv,.d (Z k),w7,w8,w9],H⟩ Q:=by
 obtain ⟨u1,g1⟩:=hl.part (x3 k) V;obtain ⟨u2,g2⟩:=hl.part (show k+1<=m by omega) (j9 m);have e1:=hl.parts (k * 3) (0 * 3);have e2:=hl.parts (m * 3) ((k+1) * 3);have c1:(cs.take (k * 3)).drop (0 * 3)=cs.take (k * 3):=U
 have c2:(cs.take (m * 3)).drop ((k+1) * 3)=cs.drop ((k+1) * 3):=by rw [<- hl.len,I8]
 rw [c1] at e1;rw [c2] at e2;have l1:O (cs.take (k * 3))=k * 3:=by rw [K0,hl.len];omega
 have s1:=g1.sc (H++[.cells []]) λid hid _=>aO hid
 have s2:=g2.sc (H++[.dead,.cells (cs.take (k * 3))]) λid hid _=>aO hid
 rw [c1] at s1;rw [c2] at s2;have b1:=g1.F4;have b2:=g2.F4;show Ex A N6 0 (.region _ W) _ _
 refine Ex.region (Rn.xK (O H) (H++[.dead]) [] rfl rfl rfl ?_);refine Ri (O H+1) [] (H++[.cells []]) rfl U (pQ H _ 0 _) rfl ?_;refine ym (hx:=⟨rfl,hl.tN⟩) ?_;refine ym ?_;refine yp (rs:=[]) u1 (g1.pf rfl _ _ _ _ hl.tN rfl) ?_;refine Nb (O H+1) k (O H+1) (H++[.dead,.cells (cs.take (k * 3))]) rfl g1.tN (iC H _ 0) s1 rfl ⟨U,by simpa using kR V,p7 e1.1 U,e1.2.1,U⟩ (by rw [show (H++[s6.cells []]).set (O H) .dead=H++[.dead] from pQ H _ 0 _];simp) U V V ?_;refine ym (hx:=⟨rfl,hl.tN⟩) ?_;refine ym ?_;refine yp (rs:=[]) _ (UB (k:=k) V rfl rfl) ?_;refine yp (rs:=[]) u2 (g2.pr rfl _ _ _ _ hl.tN rfl) ?_;refine Nb (O H+2) (m - 1) (O H+2) (H++[.dead,.dead,.cells (cs.take (k * 3)++cs.drop ((k+1) * 3))]) rfl g2.tN (iC H _ 1) s2 rfl ⟨l1.symm,kR V,p7 e2.1 U,e2.2.1,U⟩ (by rw [pQ,e1.2.2];simp) U V V ?_;refine YA [w0,w1,w2,w3,w4,.r7 (O H+2) 3 0 (m - 1),.d (Z k),w7,w8,w9] U rfl ?_;refine yn hq ?_;have hne:H≠[]:=by rintro rfl;cases hL
 simp [aT,E6,Touch.E3,F0.makes,F0.y3,c7.F4,hne]
def TK {H:k9}{a i:Nat}{r:List Vl}(h:H[a]? =J (.cells (bD r)))(hi:i<O r)(v:Vl):wr H a (0+i * 3) (v.enc.map .d)=J (H.set a (.cells (bD (r.set i v)))):=by
 have e:r=r.take i++Y r i::r.drop (i+1):=by rw [<- C4 hi,List.take_append_drop]
 have hl:O (r.take i)=i:=by rw [K0];omega
 have h' :H[a]? =J (.cells (((r.take i++Y r i::r.drop (i+1)).flatMap Vl.enc).map .d)):=by rw [<- e];exact h
 have:=Bi (enc:=Vl.enc) (sz:=3) (λ_=>rfl) h' v;rw [hl] at this;have hs:r.set i v=r.take i++v::r.drop (i+1):=by rw [M1,if_pos hi]
 rw [this,hs];rfl
def TL {H:k9}{a i:Nat}{r:List Int}(h:H[a]? =J (.cells (cu r)))(hi:i<O r)(v:Int):wr H a (0+i * 1) [.d (Z v)]=J (H.set a (.cells (cu (r.set i v)))):=by
 have e:r=r.take i++Y r i::r.drop (i+1):=by rw [<- C4 hi,List.take_append_drop]
 have hl:O (r.take i)=i:=by rw [K0];omega
 have h' :H[a]? =J (.cells (((r.take i++Y r i::r.drop (i+1)).flatMap λn=>[Z n]).map .d)):=by rw [<- e];exact h
 have:=Bi (enc:=λn:Int=>[Z n]) (sz:=1) (λ_=>rfl) h' v;rw [hl] at this;have hs:r.set i v=r.take i++v::r.drop (i+1):=by rw [M1,if_pos hi]
 rw [hs];exact this
def TI (n k m i id a b:Nat)(H:k9)(x:cR)(r:R7)(cs:List c7)(w0 w1 w3 w4 w7 w8 w9:c7)(Q:G6->St->Prop)(h0:H[0]? =J (.cells (x.enc.map .d)))(hi:x.col=(i:Int))(hid:H[id]? =J (.cells cs))(hk:k<m)
  (hca:cs[k * 3]? =J (.r7 a 3 0 (O r.row))) (hcb:cs[k * 3+1]? =J (.r7 b 1 0 (O r.seq))) (ha:H[a]? =J (.cells (bD r.row))) (hb:H[b]? =J (.cells (cu r.seq))) (hab:a≠b) (ha0:a≠0) (hir:i<O r.row) (his:i<O r.seq)
  (hq:Q .normal ⟨[w0,w1,.ptr 0 0,w3,w4,.r7 id 3 0 m,.d (Z k),w7,w8,w9],(H.set a (.cells (bD (r.row.set i x.val)))).set b (.cells (cu (r.seq.set i x.seq)))⟩) :
  Ex A N6 0 (match iS.body with
   | .seq _ (.seq _ (.seq _ (.seq _ (.seq (.block _ (.test _ _ _ _ (.test _ _ _ _ (.test _ _ _ c _)))) _))))=>c
   |c=>c) ⟨[w0,w1,.ptr 0 0,w3,w4,.r7 id 3 0 m,.d (Z k),w7,w8,w9],H⟩ Q:=by
 have r8:rd H 0 (0+8) 1=J [.d (Z i)]:=by rw [<- hi];exact an h0 rfl
 have r1:rd H 0 (0+1) 1=J [.d (Z x.seq)]:=an h0 rfl;have r9:rd H 0 (0+9) 3=J (x.val.enc.map .d):=by simp [rd,h0,cR.enc,Vl.enc]
 have ra:rd H id (0+k * 3+0) 1=J [.r7 a 3 0 (O r.row)]:=an hid (by simpa using hca);have rb:rd H id (0+k * 3+1) 1=J [.r7 b 1 0 (O r.seq)]:=an hid (by simpa using hcb);show Ex A N6 0 (.region _ W) _ _
 refine Ex.region (Rn.xK (O H) H [] rfl (by simp [S8,F0.y3]) rfl ?_);refine ym ?_;refine ym ?_;refine yp _ (IU rfl rfl hk) ?_;refine yp _ (qQ rfl) ?_;refine yp _ (IV rfl ra rfl) ?_;refine yp _ (qQ rfl) ?_;refine yp _ (IV rfl r8 rfl) ?_;refine ym ?_;refine ym ?_;refine yp _ (IU rfl rfl hk) ?_;refine yp _ (qQ rfl) ?_;refine yp _ (IV rfl rb rfl) ?_;refine yp _ (qQ rfl) ?_;refine yp _ (IV rfl r8 rfl) ?_;refine yp _ (qQ rfl) ?_;refine yp _ (Ft rfl r9 rfl) ?_;refine yp _ (qQ rfl) ?_;refine yp _ (IV rfl r1 rfl) ?_;refine yp _ (IU rfl rfl hir) ?_;refine ys rfl ⟨rfl,rfl⟩ rfl rfl rfl (.inl (x3 _)) (TK ha hir x.val) ?_;refine yp _ (IU rfl rfl his) ?_;refine ys rfl ⟨rfl,rfl⟩ rfl rfl rfl (.inl (x3 _)) (TL (by rw [x5 hab,hb]) his x.seq) ?_;refine yn hq ?_;simp [aT,E6,Touch.E3,F0.makes,F0.y3,ha0]
def SL (H:k9)(x:cR)(w0 w1 w3 w4 w5 w6 w7 w8 w9:c7)(Q:G6->St->Prop)(h0:H[0]? =J (.cells (x.enc.map .d)))(hL:2<=O H)(hr:O x.row<=100)
  (hq:Q .normal ⟨[w0,w1,.ptr 0 0,w3,w4,w5,w6,.ptr (O H+1) 0,w8,w9],H++[.dead,.cells [.r7 (O H+2) 3 0 (O x.row),.N9,.d (Z x.day)],.cells (bD x.row)]⟩) :
  Ex A N6 0 (match iS.body with
   | .seq _ (.seq _ (.seq _ (.seq _ (.seq (.block _ (.test _ _ _ (.seq _ (.seq c _)) _)) _))))=>c
   |c=>c) ⟨[w0,w1,.ptr 0 0,w3,w4,w5,w6,w7,w8,w9],H⟩ Q:=by
 have r4:∀X,rd (H++X) 0 (0+4) 1=J [.d (s7 Vl.enc x.row)]:=λX=>an ((aO V).trans h0) rfl
 have r2:∀X,rd (H++X) 0 (0+2) 1=J [.d (Z x.day)]:=λX=>an ((aO V).trans h0) rfl
 show Ex A N6 0 (.region _ W) _ _
 refine Ex.region (Rn.xK (O H) (H++[.dead,.dead]) [.slot 7] rfl rfl rfl ?_);refine Ri (O H+1) [] (H++[.cells [],.dead]) rfl U (pQ H _ 0 _) rfl ?_;refine yp _ (qQ rfl) ?_;refine yp _ (IV rfl (r4 _) rfl) ?_;refine Nb (O H+2) (O x.row) (O H+1) (H++[.dead,.dead,.cells (bD x.row)]) rfl rfl (iC H _ 0) (Mu _ _) rfl ⟨U,?_,by rw [bD,oa];omega,AL _,U⟩ (by rw [show (H++[s6.cells [],.dead]).set (O H) .dead=H++[.dead,.dead] from pQ H _ 0 _];simp) U U (Nat.max_eq_left (x3 _)) ?_
 .refine decide_eq_true ?_
  exact p7 (E1 _ (show 2 * (0+O x.row)+512<=2512 by omega)) (by decide)
 refine yp _ (qQ rfl) ?_;refine yp _ (IV rfl (r2 _) rfl) ?_;refine yp (rs:=[]) (.agg [.r7 (O H+2) 3 0 (O x.row),.N9,.d (Z x.day)]) rfl ?_;refine Yz (O H+2) [w0,w1,.ptr 0 0,w3,w4,w5,w6,.ptr (O H+1) 0,w8,w9] (H++[.dead,.cells [.N9,.N9,.d (.int .i64 0)],.cells (bD x.row)]) U rfl rfl (pQ H _ 1 _) rfl ?_;refine ys rfl ⟨rfl,rfl⟩ rfl rfl rfl (.inr ⟨x3 _,x3 _⟩) ?_ ?_ (H2:=H++[.dead,.cells [.r7 (O H+2) 3 0 (O x.row),.N9,.d (Z x.day)],.cells (bD x.row)])
 .simp only [wr,iC,pQ]
  rfl
 refine yn hq ?_;have hne:H≠[]:=by rintro rfl;cases hL
 simp [aT,E6,Touch.E3,F0.makes,F0.y3,c7.F4,hne]
end Go.Proofs.YtibjocmpkoepoaaGreat
namespace Go.y9
def Rh {H X:k9}{id:Nat}{p q r v:c7}(h:H[id]? =J (.cells [p,q,r])):wr (H++X) id (0+1) [v]=J (H.set id (.cells [p,v,r])++X):=by
 have hL:=vS h;simp [wr,aO hL,h,Jh _ hL];rfl
def Jg (k:Nat)(q:Int):cu (c8 k q)++[.d (Z q)]=cu (c8 (k+1) q):=by
 simp_all [List.replicate_succ',cu,List.flatMap_append,List.map_append]
def Mw (s:List Int):O (cu s)=O s:=by rw [cu,A1,ue]
def Mv (s:List Int):(cu s).map c7.I7=cu s:=by
 simp [cu,c7.I7]
def QY {n:Nat}(h:n<=1000):roomFor n 8=W:=by
 refine decide_eq_true ?_;omega
end Go.y9
namespace Go.Proofs.YtibjocmpkoepoaaGreat
open Go.y9 Go.y9.S
attribute [local irreducible] Rx Ry Rn Ex Pf Rl
def Ty (H:k9)(x:cR)(wg:Nat)(pa w0 w1 w3 w4 w5 w6 w8 w9:c7)(Q:G6->St->Prop)(h0:H[0]? =J (.cells (x.enc.map .d)))(hr:O x.row<=100)(Fc:H[wg]? =J (.cells [pa,.N9,.d (Z x.day)]))(Yh:wg≠0)
  (hq:∀H' sv w0 w1 w3 w6 w9,O H<=O H'->(∀y,y<O H->y≠wg->H'[y]? =H[y]?)->H'[wg]? =J (.cells [pa,sv,.d (Z x.day)])->((O x.row=0/\sv= .N9)\/∃s,sv= .r7 s 1 0 (O x.row)/\O H<=s/\H'[s]? =J (.cells (cu (c8 (O x.row) x.seq)))) ->
   Q .normal ⟨[w0,w1,.ptr 0 0,w3,w4,w5,w6,.ptr wg 0,.d (Z (O x.row)),w9],H'⟩) :
  Ex A N6 0 (match iS.body with
   | .seq _ (.seq _ (.seq _ (.seq _ (.seq (.block _ (.test _ _ _ (.seq _ (.seq _ (.seq c _))) _)) _))))=>c
   |c=>c) ⟨[w0,w1,.ptr 0 0,w3,w4,w5,w6,.ptr wg 0,w8,w9],H⟩ Q:=by
 refine gr ?_;refine Ex.loop (λq s=>∃k H' sv w0 w1 w3 w6 w9,k<=O x.row/\q=O x.row - k/\s=⟨[w0,w1,.ptr 0 0,w3,w4,w5,w6,.ptr wg 0,.d (Z (k:Nat)),w9],H'⟩/\O H<=O H'/\(∀y,y<O H->y≠wg->H'[y]? =H[y]?)/\H'[wg]? =J (.cells [pa,sv,.d (Z x.day)]) /\
  ((k=0/\sv= .N9/\O H'=O H)\/∃s,sv= .r7 s 1 0 k/\O H<=s/\H'[s]? =J (.cells (cu (c8 k x.seq))))) ?_ (k:=O x.row) ⟨0,H,.N9,_,_,_,_,_,V,V,rfl,V,λ_ _ _=>rfl,Fc,.inl ⟨rfl,rfl,rfl⟩⟩
 rintro q s ⟨k,H',sv,u0,u1,u3,u6,u9,hk,rfl,rfl,hL',hfr,Ct,Yj⟩;have VE:=vS Fc;have hgrow:O H'=O H\/∃v∈[pa,sv,.d (Z x.day)],O H<v.F4:=by
  rcases Yj with ⟨_,_,h⟩|⟨s,rfl,h,_⟩
  all_goals (simp_all [c7.F4]<;>omega)
 rw [show (N6).strict=0 from rfl,ku Ct VE hgrow];refine Ex.nT ?_;have g0:H'[0]? =J (.cells (x.enc.map .d)):=(hfr 0 V (Ne.symm Yh)).trans h0;have r4:rd H' 0 (0+4) 1=J [.d (s7 Vl.enc x.row)]:=an g0 rfl;have r1:rd H' 0 (0+1) 1=J [.d (Z x.seq)]:=an g0 rfl;refine Ex.seq ?_;refine Ex.cM (D5 (k:Int) (O x.row)) ?_ (λh=>?_) (λh=>?_)
 .refine Rn.text ?_
  repeat' (first|refine Np r4 rfl ?_|refine gx ?_|refine fq (λhw=>?_) λhw=>?_|refine ⟨rfl,rfl,_,rfl,?_⟩|refine ⟨rfl,rfl⟩|fail)
  rfl
 .have hlt:=A7 h
  refine Ex.skip ?_;refine Ex.seq ?_;refine Ex.block ?_;refine Ex.region (Rn.text ?_);refine gx ?_;refine Ry.pure rfl (IV rfl (an Ct rfl) rfl) ?_;refine gx ?_;refine Np r1 rfl ?_;refine bso (id:=O H') [.d (Z x.seq)] rfl ⟨by decide,rfl⟩ rfl rfl ?_;have sc:B4 (H' ++[.cells [.d (Z x.seq)]]) 1 (.r7 (O H') 1 0 1)=J (1,[.d (Z x.seq)]):=by simp [B4,rd,c7.I7]
  rcases Yj with ⟨rfl,rfl,hl⟩|⟨s,rfl,hs,hS⟩
  .refine apz (j2:=0) (O H'+1) (H' ++[.cells [.d (Z x.seq)],.cells [.d (Z x.seq)]]) rfl rfl rfl rfl rfl rfl ((aO V).trans Ct) rfl rfl sc (by decide) (by decide) U U ?_
   refine gx ?_;refine Rc rfl ⟨rfl,rfl⟩ rfl rfl rfl (.inr ⟨x3 _,x3 _⟩) (Rh Ct) ?_
   repeat' (first|refine ad V ?_|refine gx ?_|fail)
   refine ⟨O x.row - (0+1),V,0+1,_,_,_,_,_,_,_,V,rfl,rfl,D,λy hy hne=>?_,?_,.inr ⟨O H'+1,rfl,V,?_⟩⟩
   .grind
   .grind
   .have:=iC (H'.set wg (.cells [pa,.r7 (O H'+1) 1 0 1,.d (Z x.day)])) [.cells [.d (Z x.seq)],.cells [.d (Z x.seq)]] 1
    rw [List.length_set] at this;exact this
  .have Qt:=vS hS
   have Su:s≠wg:=V
   have VD:(H'.set s .dead)[wg]? =J (.cells [pa,.r7 s 1 0 k,.d (Z x.day)]):=M
   refine apn (O H'+1) (k+1) (H'.set s .dead++[.cells [.d (Z x.seq)],.cells (cu (c8 (k+1) x.seq))]) rfl rfl ((aO Qt).trans hS) sc rfl ⟨by rw [Mw,List.length_replicate,Nat.mul_one],QY V,by simp [A2,c7.F4],by rfl,by decide⟩ (by simp_all [Jh,Mv,Jg]) U rfl ?_;refine gx ?_;refine Rc rfl ⟨rfl,rfl⟩ rfl rfl rfl (.inr ⟨x3 _,x3 _⟩) (Rh VD) ?_
   repeat' (first|refine ad V ?_|refine gx ?_|fail)
   refine ⟨O x.row - (k+1),V,k+1,_,_,_,_,_,_,_,V,rfl,rfl,D,λy hy hne=>?_,?_,.inr ⟨O H'+1,rfl,V,?_⟩⟩
   .grind
   all_goals grind
 .have hge:=B8 h
  refine Ex.exit ?_;obtain rfl:k=O x.row:=V
  refine hq H' sv _ _ _ _ _ hL' hfr Ct ?_
  rcases Yj with ⟨h,rfl,_⟩|h
  .exact .inl ⟨h,rfl⟩
  .exact .inr h
def Oo {l:List R7}{v:Vl}{j:Nat}(hj:j<=O l)(h1:∀i,i<j->D5 (BT (Y (Y l i).row 0) v) 0=W)(h2:j<O l->D5 (BT (Y (Y l j).row 0) v) 0=F):nC l v=j:=by
 unfold nC
 induction l generalizing j with
 |nil=>simp at hj;simp [hj]
 |cons a l ih =>
  cases j with
  |zero =>
   have:=h2 U;rw [O2] at this;simp [List.takeWhile_cons,this]
  |succ j =>
   have h0:=h1 0 V;rw [O2] at h0;simp only [List.takeWhile_cons,h0,if_true,o8,Nat.add_right_cancel_iff];exact ih (by simpa using hj) (λi hi=>by have:=h1 (i+1) V;rwa [aS] at this) λhi=>by have:=h2 (by simpa using hi);rwa [aS] at this
def Tj (H:k9)(l:List R7)(row:List Vl)(cs:List c7)(ids:List Nat)(wg a w:Nat)(lv w0 w1 w3 w4 w6 w8 sv dy:c7)(Q:G6->St->Prop)(hl:jS H lv (O l) cs)(hR:K9 H cs l ids)(hm:O l<=64)(hrow:∀r∈l,0<O r.row)(Fc:H[wg]? =J (.cells [.r7 a 3 0 w,sv,dy]))(ha:H[a]? =J (.cells (bD row)))(hw:0<w)(hrl:0<O row)
  (hq:∀w0 w1 w3 w6 w8,Q .normal ⟨[w0,w1,.ptr 0 0,w3,w4,lv,w6,.ptr wg 0,w8,.d (Z (nC l (Y row 0)))],H⟩) :
  Ex A N6 0 (match iS.body with
   | .seq _ (.seq _ (.seq _ (.seq _ (.seq (.block _ (.test _ _ _ (.seq _ (.seq _ (.seq _ (.seq _ (.seq c _))))) _)) _))))=>c
   |c=>c) ⟨[w0,w1,.ptr 0 0,w3,w4,lv,w6,.ptr wg 0,w8,.d (Z 0)],H⟩ Q:=by
 show Ex A N6 0 (.block 3 (.loop _ (.seq (.test _ _ _ _ _) (.block 4 (.region _ F))))) _ _
 refine Ex.block ?_;refine Ex.yU (λk T' H' =>∃(j:Nat) (w0 w1 w3 w6 w8:c7),j<=O l/\k=O l - j/\T' =[w0,w1,.ptr 0 0,w3,w4,lv,w6,.ptr wg 0,w8,.d (Z j)]/\H' =H/\∀i,i<j->D5 (BT (Y (Y l i).row 0) (Y row 0)) 0=W) (by rintro _ _ _ ⟨_,_,_,_,_,_,_,_,_,rfl,_⟩;rfl) ?_ (k:=O l) ⟨0,_,_,_,_,_,V,V,rfl,rfl,λ_ h=>V⟩;rintro k T' H' ⟨j,u0,u1,u3,u6,u8,hj,rfl,rfl,rfl,hb⟩;refine Ex.nT ?_;have rr:rd H' wg (0+0) 1=J [.r7 a 3 0 w]:=an Fc rfl;have ra:rd H' a (0+(0:Int).toNat * 3) 3=J ((Y row 0).enc.map .d):=FC ha hrl;have fin:(j<O l->D5 (BT (Y (Y l j).row 0) (Y row 0)) 0=F)->nC l (Y row 0)=j:=Oo hj hb;refine Ex.seq ?_
 rcases hl.wX with ⟨rfl,h0⟩|⟨id,rfl,hid⟩
 .obtain rfl:j=0:=V
  refine Ex.cM F ?_ (λh=>?_) (λh=>?_)
  .refine Rn.draw ?_
   refine gx ?_;refine gx ?_;refine gx ?_;refine gx ?_;refine gx ?_;refine fk (h1:=λhw=>?_) (h2:=λhw=>?_)
   .cases A7 hw
   .repeat' (first|refine gx ?_|refine fq (λhw=>?_) λhw=>?_|refine ⟨rfl,rfl,_,rfl,?_⟩|refine ⟨rfl,rfl⟩|fail)
    rfl
  .cases h
  .refine Ex.exit ?_
   have:=hq .any .any .any .any .any;rw [fin λh=>V] at this;exact this
 .refine Ex.cM (D5 (j:Int) (O l)&&D5 (BT (Y (Y l j).row 0) (Y row 0)) 0) ?_ (λh=>?_) (λh=>?_)
  .refine Rn.draw ?_
   by_cases hlt:j<O l
   .obtain ⟨a',b',g1,g2,g3,g4,g5,g6⟩:=hR.at hlt
    have r1:rd H' id (0+(j:Int).toNat * 3+0) 1=J [.r7 a' 3 0 (O (Y l j).row)]:=an hid (by simpa using g1);have hp:=hrow _ (C5 hlt);have r3:rd H' a' (0+(0:Int).toNat * 3) 3=J ((Y (Y l j).row 0).enc.map .d):=FC g5 hp
    repeat' (first|refine No ?_|refine JG (e:=(j:Int)) (len:=O l) ⟨V,V⟩ ?_|refine JG (e:=0) (len:=O (Y l j).row) ⟨V,V⟩ ?_|refine Np r1 rfl ?_|refine AB r3 rfl ?_|refine Np rr rfl ?_|refine JG (e:=0) (len:=w) ⟨V,V⟩ ?_|refine AB ra rfl ?_|refine cl (SV _ _) ?_|refine iX (SV _ _) ?_|refine gx ?_|refine fq (λhw=>?_) λhw=>?_|refine ⟨rfl,rfl,_,rfl,?_⟩|refine ⟨rfl,rfl⟩|fail)
    all_goals first|(simp [*,j5];done)|(simp_all [j5];done)
   .have:D5 (j:Int) (O l)=F:=by rw [y4];simpa using hlt
    repeat' (first|refine No ?_|refine gx ?_|refine fq (λhw=>?_) λhw=>?_|refine ⟨rfl,rfl,_,rfl,?_⟩|refine ⟨rfl,rfl⟩|fail)
    all_goals first|(simp [*,j5];done)|(simp_all [j5];done)
  .rw [c9] at h
   have hlt:=A7 h.1
   repeat' (first|refine ad V ?_|refine gx ?_|fail)
   refine ⟨O l - (j+1),V,j+1,_,_,_,_,_,V,rfl,rfl,rfl,λi hi=>?_⟩
   rcases y7 i j with h2|h2
   .exact hb i h2
   .rw [show i=j by omega]
    exact h.2
  .refine Ex.exit ?_
   have:=hq .any .any .any .any .any;rw [fin λhlt=>by
    have e:D5 (j:Int) (O l)=W:=by rw [y4];simpa using hlt
    rwa [e,Bool.true_and] at h] at this
   exact this
end Go.Proofs.YtibjocmpkoepoaaGreat
namespace Go.y9
def K9.XD {H:k9}{r:R7}{a b:Nat}(ha:H[a]? =J (.cells (bD r.row)))(hb:H[b]? =J (.cells (cu r.seq))):K9 H [.r7 a 3 0 (O r.row),.r7 b 1 0 (O r.seq),.d (Z r.day)] [r] [a,b]:=⟨a,b,[],[],rfl,rfl,ha,hb,rfl,rfl⟩
end Go.y9
namespace Go.Proofs.YtibjocmpkoepoaaGreat
open Go.y9 Go.y9.S
attribute [local irreducible] Rx Ry Rn Ex Pf Rl
def SB (n i k m wg a s w:Nat)(H:k9)(x:cR)(oc cs:List c7)(lv w0 w1 w3 w6 w8:c7)(dy:y9.Data)(Q:G6->St->Prop)(h0:H[0]? =J (.cells (x.enc.map .d)))(h1:H[1]? =J (.cells oc))(hL:2<=O H)(Bl:O oc=n)(hi:x.M6=(i:Int))(hin:i<n)(hl:jS H lv m cs)(hk:k<=m)(hm:m<=64)
  (Fc:H[wg]? =J (.cells [.r7 a 3 0 w,.r7 s 1 0 w,.d dy])) (haL:a<O H) (Qt:s<O H)
  (hq:Q .normal ⟨[w0,w1,.ptr 0 0,w3,.r7 1 1 0 n,lv,w6,.ptr wg 0,w8,.d (Z k)],H.set 1 (.cells (oc.set i (.r7 (O H+4) 3 0 (m+1))))++[.dead,.cells [.r7 a 3 0 w,.r7 s 1 0 w,.d dy],.dead,.dead,.cells (cs.take (k * 3)++[.r7 a 3 0 w,.r7 s 1 0 w,.d dy]++cs.drop (k * 3))]⟩) :
  Ex A N6 0 (match iS.body with
   | .seq _ (.seq _ (.seq _ (.seq _ (.seq (.block _ (.test _ _ _ (.seq _ (.seq _ (.seq _ (.seq _ (.seq _ c))))) _)) _))))=>c
   |c=>c) ⟨[w0,w1,.ptr 0 0,w3,.r7 1 1 0 n,lv,w6,.ptr wg 0,w8,.d (Z k)],H⟩ Q:=by
 obtain ⟨u1,g1⟩:=hl.part (x3 k) hk;obtain ⟨u2,g2⟩:=hl.part hk (j9 m);have e1:=hl.parts (k * 3) (0 * 3);have e2:=hl.parts (m * 3) (k * 3);have c1:(cs.take (k * 3)).drop (0 * 3)=cs.take (k * 3):=U
 have c2:(cs.take (m * 3)).drop (k * 3)=cs.drop (k * 3):=by rw [<- hl.len,I8]
 rw [c2] at e2;have l1:O (cs.take (k * 3))=k * 3:=by rw [K0,hl.len];omega
 have ba5:=vS Fc;generalize hR:[c7.r7 a 3 0 w,.r7 s 1 0 w,.d dy]=R at Fc hq;have hRl:O R=3:=by subst hR;rfl
 have hRa:R.map c7.I7=R:=by subst hR;rfl
 have hRo:R.all c7.one=W:=by subst hR;rfl
 have hRb:A2 R<=O H:=by subst hR;simp [A2,c7.F4];omega
 have s1:=g1.sc (H++[.cells [],.dead]) λid hid _=>aO hid
 have s2:=g2.sc (H++[.dead,.cells R,.dead,.cells (cs.take (k * 3)++R)]) λid hid _=>aO hid
 rw [c2] at s2;have sR:B4 (H++[.dead,.cells R,.cells (cs.take (k * 3))]) 3 (.r7 (O H+1) 3 0 1)=J (1,R):=by
  simp_all [rd,iC,s4,B4,if_true]
 have b1:=g1.F4;have b2:=g2.F4;have hne:H≠[]:=by grind
 have r3:rd (H++[.dead,.dead]) 0 (0+3) 1=J [.d (Z i)]:=by rw [<- hi];exact an ((aO V).trans h0) rfl
 have rr:rd (H++[.dead,.dead,.cells (cs.take (k * 3))]) wg 0 3=J R:=by
  simp_all [rd,aO,s4]
 refine Ex.region (Rn.xK (O H) (H++[.dead,.dead]) [] rfl rfl rfl ?_);refine ym ?_;refine yp _ (qQ rfl) ?_;refine yp _ (IV rfl r3 rfl) ?_;refine Ri (O H+1) [] (H++[.cells [],.dead]) rfl U (pQ H _ 0 _) rfl ?_;refine ym (hx:=⟨rfl,hl.tN⟩) ?_;refine ym ?_;refine yp (rs:=[]) u1 (g1.pf rfl _ _ _ _ hl.tN rfl) ?_;refine Nb (O H+2) k (O H+1) (H++[.dead,.dead,.cells (cs.take (k * 3))]) rfl g1.tN (iC H _ 0) s1 rfl ⟨U,by grind [kR],p7 e1.1 U,e1.2.1,U⟩ M U V V ?_;refine yp _ (Ft rfl rr hRa) ?_;refine Ri (O H+2) R (H++[.dead,.cells R,.cells (cs.take (k * 3))]) (by subst hR;rfl) (by simp [hRl]) (pQ H _ 1 _) rfl ?_;refine Nb (O H+3) (k+1) (O H+3) (H++[.dead,.cells R,.dead,.cells (cs.take (k * 3)++R)]) rfl rfl (iC H _ 2) sR rfl ⟨l1.symm,kR V,p7 hRb U,hRo,U⟩ M U V (Nat.max_eq_left (show O H+1+1<=O H+2+1 by omega)) ?_;refine ym (hx:=⟨rfl,hl.tN⟩) ?_;refine ym ?_;refine yp (rs:=[]) u2 (g2.pr rfl _ _ _ _ hl.tN rfl) ?_;refine Nb (O H+4) (m+1) (O H+4) (H++[.dead,.cells R,.dead,.dead,.cells (cs.take (k * 3)++R++cs.drop (k * 3))]) rfl g2.tN (iC H _ 3) s2 rfl ⟨by grind,kR V,p7 e2.1 U,e2.2.1,U⟩ M U V V ?_;refine yp _ (IU rfl rfl hin) ?_;refine ys rfl ⟨rfl,rfl⟩ rfl rfl rfl (.inr ⟨x3 _,x3 _⟩) ?_ ?_ (H2:=H.set 1 (.cells (oc.set i (.r7 (O H+4) 3 0 (m+1))))++[.dead,.cells R,.dead,.dead,.cells (cs.take (k * 3)++R++cs.drop (k * 3))])
 .simp only [wr,aO (show 1<O H by omega),h1,D9,Ra hL]
  rw [if_pos V,pV _ _ _ V];simp
 refine yn hq ?_;simp [aT,E6,Touch.E3,F0.makes,F0.y3,hne];omega
def KC {T:List c7}{H:k9}{ts:List (List R7)}{oc:List c7}{ids:List Nat}(hT:T[3]? =J (.r7 1 1 0 (O ts)))(ho:H[1]? =J (.cells oc))(h:S5 H oc ts ids)(h1:O ts<300000)(h2:∀t∈ts,O t<100000/\∀r∈t,O r.row<100000/\O r.seq<100000):R4 iS 0 (J (.ret,⟨T,H⟩))=J (.d (Q5 ts),[]):=by
 have h3:=h.ae2 ho h1 h2;have h4:V2 T H iS.results=J [.r7 1 1 0 (O ts)]:=by
  show V2 T H [.slot 3]=_
  simp only [V2,jq,hT]
 unfold R4;simp only [h4];show finish F 0 [.r7 1 1 0 (O ts)] H=_
 simp only [finish,j6,if_false,j5,h3];simp [c7.F4]
theorem Kw {H:k9}{ts:List (List R7)}{oc:List c7}{ids:List Nat}{n:Nat}{w0 w1 w2 w3 w5 w6 w7 w8 w9:c7}(hn:O ts=n)(ho:H[1]? =J (.cells oc))(h:S5 H oc ts ids)(h1:O ts<300000)(h2:∀t∈ts,O t<100000/\∀r∈t,O r.row<100000/\O r.seq<100000) :
  Ex A N6 0 (match iS.body with
   | .seq _ (.seq _ (.seq _ (.seq _ (.seq _ c))))=>c
   |c=>c) ⟨[w0,w1,w2,w3,.r7 1 1 0 n,w5,w6,w7,w8,w9],H⟩ (λx s=>∃w,R4 iS 0 (J (x,s))=J (w,[])/\w= .d (Q5 ts)):=by
 subst hn;show Ex A N6 0 (.seq (.region _ F) .ret) _ _
 refine gr ?_;exact ⟨_,KC rfl ho h h1 h2,rfl⟩
theorem Pu {α:Type} [Inhabited α] {l:List α}{i:Nat}(h:i<O l):l.set i (Y l i)=l:=by rw [D6 h,List.set_getElem_self]
def Jm {α:Type} [Inhabited α] {l:List α}{i:Nat}(h:i<O l):l=l.take i++Y l i::l.drop (i+1):=by rw [<- C4 h,List.take_append_drop]
def Ji {α:Type}{l:List α}{i:Nat}(h:i<O l)(a:α):l.set i a=l.take i++a::l.drop (i+1):=by rw [M1,if_pos h]
end Go.Proofs.YtibjocmpkoepoaaGreat
namespace Go.y9.S
def lpa {A:Prog}{l:F9}{b:Nat}{dr:Bool}{j8 ops:List x9}{T:List c7}{H:k9}{n:Nat}{rl:List c7}{l6:List Touch}{Q:List c7->k9->List c7->Prop}{x:A3}{id o:Nat}{v w:c7}{u:List Nat}(hr:rd H id o 1=J [v])(hv:v.I7=w)(h2:Ry A l b dr j8 ops T H (n+1) (w::rl) l6 Q)(hx:rq T n rl x= .ptr id o:=by rfl) :
  Ry A l b dr j8 (⟨.load K x,K,K,u⟩::ops) T H n rl l6 Q:=Ry.pure (rs:=[id]) rfl (IV hx hr hv) h2
end Go.y9.S
namespace Go.Proofs.YtibjocmpkoepoaaGreat
open Go.y9 Go.y9.S
attribute [local irreducible] Rx Ry Rn Ex Pf Rl
def Mo (n i:Nat)(H:k9)(x:cR)(oc cs:List c7)(lv:c7)(l:List R7)(ids:List Nat)(w0 w1 w3 w6 w7 w8 w9:c7)(Q:G6->St->Prop)(h0:H[0]? =J (.cells (x.enc.map .d)))(h1:H[1]? =J (.cells oc))(hL:2<=O H)(Bl:O oc=n)(hi:x.M6=(i:Int))(hin:i<n)(hl:jS H lv (O l) cs)(hR:K9 H cs l ids)(Cn:∀y∈ids,y<O H/\y≠1)(hm:O l<64)(hrow:∀r∈l,0<O r.row)(hx0:0<O x.row)(hx1:O x.row<=100)
  (hq:∀H' v' ids' w0 w1 w2 w3 w5 w6 w7 w8 w9,(∀y,y<O H->y≠1->H'[y]? =H[y]?)->H'[1]? =J (.cells (oc.set i v'))->bH H' v' (pq l x) ids' ->Q .normal ⟨[w0,w1,w2,w3,.r7 1 1 0 n,w5,w6,w7,w8,w9],H'⟩) :
  Ex A N6 0 (match iS.body with
   | .seq _ (.seq _ (.seq _ (.seq _ (.seq (.block _ (.test _ _ _ (.seq _ c) _)) _))))=>c
   |c=>c) ⟨[w0,w1,.ptr 0 0,w3,.r7 1 1 0 n,lv,w6,w7,w8,w9],H⟩ Q:=by
 refine Ex.seq ?_;refine SL H x w0 w1 w3 _ _ w6 w7 w8 w9 _ h0 hL hx1 ?_;have Se:∀X:k9,∀y,y<O H->(H++X)[y]? =H[y]? :=λX y hy=>aO hy
 refine Ex.seq ?_;refine Ty _ x (O H+1) _ _ _ _ _ _ _ _ _ _ ((Se _ 0 V).trans h0) hx1 (iC H _ 1) V (λH' sv u0 u1 u3 u6 u9 k1 k2 k3 k4=>?_);obtain ⟨s,rfl,ks,kS⟩:=k4.resolve_left λh=>V
 have hlen:O (H++[s6.dead,.cells [.r7 (O H+2) 3 0 (O x.row),.N9,.d (Z x.day)],.cells (bD x.row)])=O H+3:=U
 have fr:∀y,y<O H->H'[y]? =H[y]? :=λy hy=>(k2 y V V).trans (aO hy)
 have yI:H'[O H+2]? =J (.cells (bD x.row)):=(k2 _ V V).trans (iC H _ 2);have hl' :jS H' lv (O l) cs:=hl.mono V λid hid _=>fr id hid
 have hR' :K9 H' cs l ids:=hR.mono λy hy=>fr y (Cn y hy).1
 refine Ex.seq ?_;refine Ex.region (Rn.text ?_);refine gx ?_;refine gx ?_;refine Ex.seq ?_;refine Tj H' l x.row cs ids (O H+1) (O H+2) (O x.row) lv _ _ _ _ _ _ _ _ _ hl' hR' V hrow k3 yI hx0 hx0 (λu0 u1 u3 u6 u8=>?_);have hk:=Ot l (Y x.row 0);have Qt:=vS kS;refine SB n i (nC l (Y x.row 0)) (O l) (O H+1) (O H+2) s (O x.row) H' x oc cs lv _ _ _ _ _ _ _ ((fr 0 V).trans h0) ((fr 1 V).trans h1) V Bl hi hin hl' hk V k3 V Qt ?_;generalize hX:[s6.dead,.cells [.r7 (O H+2) 3 0 (O x.row),.r7 s 1 0 (O x.row),.d (Z x.day)],.dead,.dead,.cells (cs.take (nC l (Y x.row 0) * 3)++[.r7 (O H+2) 3 0 (O x.row),.r7 s 1 0 (O x.row),.d (Z x.day)]++cs.drop (nC l (Y x.row 0) * 3))]=X;generalize hc:s6.cells (oc.set i (.r7 (O H'+4) 3 0 (O l+1)))=c1;have f2:∀y,y<O H'->y≠1->(H'.set 1 c1++X)[y]? =H'[y]? :=λy hy hne=>by grind
 obtain ⟨j1,j2,q1,q2,q3,q4⟩:=hR'.cut (nC l (Y x.row 0));have nw:=K9.XD (H:=H'.set 1 c1++X) (r:=OC x) (a:=O H+2) (b:=s) ((f2 _ V V).trans yI) ((f2 _ Qt V).trans kS);have all:=((q1.mono λy hy=>f2 y (by grind) (Cn y (q3 y hy)).2).append nw).append (q2.mono λy hy=>f2 y (by grind) (Cn y (q4 y hy)).2);have all' :K9 (H'.set 1 c1++X) (cs.take (nC l (Y x.row 0) * 3)++[.r7 (O H+2) 3 0 (O x.row),.r7 s 1 0 (O x.row),.d (Z x.day)]++cs.drop (nC l (Y x.row 0) * 3)) (pq l x) (j1++[O H+2,s]++j2):=by simp_all [pq,OC]
 have hX4:(H'.set 1 c1++X)[O H'+4]? =J (.cells (cs.take (nC l (Y x.row 0) * 3)++[.r7 (O H+2) 3 0 (O x.row),.r7 s 1 0 (O x.row),.d (Z x.day)]++cs.drop (nC l (Y x.row 0) * 3))):=by
  have:=iC (H'.set 1 c1) X 4;rw [List.length_set] at this;rw [this,<- hX];rfl
 have NX:bH (H'.set 1 c1++X) (.r7 (O H'+4) 3 0 (O l+1)) (pq l x) ((O H'+4)::(j1++[O H+2,s]++j2)):= .inr ⟨_,_,_,by
  have:O (pq l x)=O l+1:=by simp [pq];omega
  rw [this],rfl,hX4,all'⟩
 grind
def Pk (w:Nat->Nat)(n i:Nat)(a:Int)(ts:List (List R7))(x:cR)(l:List R7)(H:k9)(oc:List c7)(v:c7)(ids i0 i1 i2:List Nat)(w0 w1 w7 w8 w9:c7)(hn:O ts=n)(hn2:n<=1000)(hT:PR w ts)(hx:XQ n w x)(hw:∀i,i<n->1<=w i/\w i<=100)(hi:x.M6=(i:Int))(hl0:Y ts i=l)(ha:jG l (tC x)=a)
  (h0:H[0]? =J (.cells (x.enc.map .d))) (h1:H[1]? =J (.cells oc)) (hL:2<=O H) (Bl:O oc=n) (hts:S5 H oc ts ids) (Cn:∀y∈ids,1<y/\y<O H) (Fa:ids.Nodup) (hW:D3 H<=O H) (Ku:ids=i0++i1++i2) (hv:oc[i]? =J v) (Ar:bH H v l i1)
  (hput:∀(H' :k9) (v' :c7) (p' :List R7) (GM :List Nat),(∀y∈i0++i2,H'[y]? =H[y]?)->bH H' v' p' GM ->S5 H' (oc.set i v') (ts.take i++p' ::ts.drop (i+1)) (i0++GM ++i2)) :
  Ex A N6 0 (match iS.body with
   | .seq _ (.seq _ (.seq _ (.seq _ c)))=>c
   |c=>c) ⟨[w0,w1,.ptr 0 0,.N9,.r7 1 1 0 n,v.I7,.d (Z a),w7,w8,w9],H⟩ (λy s=>∃w,R4 iS 0 (J (y,s))=J (w,[])/\w= .d (Q5 (U0 ts x))):=by
 obtain ⟨cs,ids',hl,hR,hsub,aR9,_⟩:=Ar.lv hW;have hin:i<n:=by grind
 have hit:x.M6.toNat=i:=V
 have hok:JO (w i) l:=by rw [<- hl0];exact hT i V
 have hwi:=hw i hin;have hav:=Cb l (tC x);rw [ha] at hav;have hP:U0 ts x=ts.set i (N8 l a x):=by simp_all [U0]
 have hPl:=sI (a:=a) (c:=x) hok hav.1 λe=>by rw [hx.row,if_pos e,hit]
 have mz:∀p,ts.set i p=ts.take i++p::ts.drop (i+1):=λp=>Ji V p
 have sizes:∀t∈U0 ts x,O t<100000/\∀r∈t,O r.row<100000/\O r.seq<100000:=λt ht=>by
  obtain ⟨j,hj,rfl⟩:=E9 ht;have hp:=kK hT hn hx;have hj' :j<n:=V
  have:=hp.1 j V;rw [D6 hj] at this;have hwj:=hw j hj';exact ⟨by have:=this.1;omega,λr hr=>by have:=this.2 r hr;omega⟩
 have Vu:O (U0 ts x)=n:=(kK hT hn hx).2;have hi1:∀y∈ids',1<y/\y<O H:=λy hy=>Cn y M
 have Iu:∀y∈i0++i2,1<y/\y<O H:=λy hy=>Cn y (by grind)
 have fin:∀(H' :k9) (v' :c7) (GM :List Nat) (w0 w1 w2 w3 w5 w6 w7 w8 w9:c7),(∀y∈i0++i2,H'[y]? =H[y]?)->H'[1]? =J (.cells (oc.set i v'))->bH H' v' (N8 l a x) GM ->
   Ex A N6 0 (match iS.body with| .seq _ (.seq _ (.seq _ (.seq _ (.seq _ c))))=>c|c=>c) ⟨[w0,w1,w2,w3,.r7 1 1 0 n,w5,w6,w7,w8,w9],H'⟩ (λy s=>∃w,R4 iS 0 (J (y,s))=J (w,[])/\w= .d (Q5 (U0 ts x))):=λH' v' GM u0 u1 u2 u3 u5 u6 u7 u8 u9 q1 q2 q3=>by
  have:=hput H' v' _ GM q1 q3
  grind [Kw]
 have same:N8 l a x=l->U0 ts x=ts:=λe=>by grind [Pu]
 have ad9:N8 l a x=l->∀(w0 w1 w2 w3 w5 w6 w7 w8 w9:c7),Ex A N6 0 (match iS.body with| .seq _ (.seq _ (.seq _ (.seq _ (.seq _ c))))=>c|c=>c) ⟨[w0,w1,w2,w3,.r7 1 1 0 n,w5,w6,w7,w8,w9],H⟩ (λy s=>∃w,R4 iS 0 (J (y,s))=J (w,[])/\w= .d (Q5 (U0 ts x))):=λe u0 u1 u2 u3 u5 u6 u7 u8 u9=>by
  grind [Kw]
 have r0:rd H 0 (0+0) 1=J [.d (Z x.op)]:=an h0 rfl;have c1:∀j,O (cs.take (j * 3))=min (j * 3) (O l * 3):=λj=>by rw [K0,hl.len]
 show Ex A N6 0 (.seq (.block 0 (.test _ _ _ (.seq (.test _ _ _ _ (.test _ _ _ (.seq _ .ret) .skip)) _) _)) _) _ _
 refine Ex.seq ?_;refine Ex.block ?_;refine Ex.cM (x4 x.op 1) ?_ (λho=>?_) (λho=>?_)
 .refine Rn.text ?_
  repeat' (first|refine Np r0 rfl ?_|refine gx ?_|refine fq (λhw=>?_) λhw=>?_|refine ⟨rfl,rfl,_,rfl,?_⟩|refine ⟨rfl,rfl⟩|fail)
  rfl
 .have Qq:x.op=1:=W6 ho
  have hrow:=hx.row;rw [if_pos Qq,hit] at hrow;refine Ex.seq ?_;refine Ex.cM (T5 0 a) ?_ (λh=>?_) (λh=>?_)
  .refine Rn.text ?_
   repeat' (first|refine gx ?_|refine fq (λhw=>?_) λhw=>?_|refine ⟨rfl,rfl,_,rfl,?_⟩|refine ⟨rfl,rfl⟩|fail)
   rfl
  .have h:=ej h
   obtain ⟨k,rfl⟩:∃k:Nat,a=k:=⟨a.toNat,V⟩;have hk:k<O l:=V
   have KS:=tU hok (Int.natCast_nonneg k) V;have oJ:N8 l k x=pq (mY l k) x:=by
    have e1:D5 (k:Int) 0=F:=by rw [y4];simp
    simp [N8,ho,e1]
   refine Ts n k (O l) H cs _ _ _ _ _ _ _ _ _ _ hL hl hk hok.1 ?_;obtain ⟨j1,j2,q1,q2,q3,q4⟩:=hR.cut k;obtain ⟨m1,m2,p1,p2,p3,p4⟩:=hR.cut (k+1);generalize hX:[s6.dead,.dead,.cells (cs.take (k * 3)++cs.drop ((k+1) * 3))]=X;have f1:∀y,y<O H->(H++X)[y]? =H[y]? :=λy hy=>aO hy
   have all:=(q1.mono λy hy=>f1 y (hi1 y (q3 y hy)).2).append (p2.mono λy hy=>f1 y (hi1 y (p4 y hy)).2);have hXl:O (H++X)=O H+3:=by rw [<- hX];simp
   have e1:=hl.parts (k * 3) (0 * 3);have e2:=hl.parts (O l * 3) ((k+1) * 3);have c3:(cs.take (k * 3)).drop (0 * 3)=cs.take (k * 3):=U
   have c2:(cs.take (O l * 3)).drop ((k+1) * 3)=cs.drop ((k+1) * 3):=by rw [<- hl.len,I8]
   rw [c3] at e1;rw [c2] at e2;have jH:jS (H++X) (.r7 (O H+2) 3 0 (O l - 1)) (O (mY l k)) (cs.take (k * 3)++cs.drop ((k+1) * 3)):=by
    have hcl:O (mY l k)=O l - 1:=V
    rw [hcl];refine ⟨rfl,?_,by rw [List.map_append,e1.2.2,e2.2.2],by rw [List.all_append,e1.2.1,e2.2.1];rfl,by rw [uq];omega,.inr ⟨_,rfl,?_⟩⟩
    .rw [k8,c1,List.length_drop,hl.len]
     omega
    .rw [<- hX]
     exact iC H _ 2
   have hcr:mY l k=l.take k++l.drop (k+1):=by simp [mY]
   refine Mo n i (H++X) x oc _ _ (mY l k) (j1++m2) _ _ _ _ _ _ _ _ ((f1 0 V).trans h0) ((f1 1 V).trans h1) V Bl hi hin jH (hcr ▸ all) (λy hy=>?_) (by have:=hok.1;omega) (λr hr=>by have:=(KS.1.2 r hr).1;omega) V V (λH' v' Cv u0 u1 u2 u3 u5 u6 u7 u8 u9 t1 t2 t3=>?_)
   .rcases A5.1 hy with hy|hy
    .have:=hi1 y (q3 y hy);omega
    .have:=hi1 y (p4 y hy);omega
   .exact fin H' v' Cv _ _ _ _ _ _ _ _ _ (λy hy=>by have:=Iu y hy;rw [t1 y V V,f1 y V]) t2 (oJ.symm ▸ t3)
  .have h:=kI h
   refine Ex.cM (T5 64 (O l:Int)) ?_ (λh2=>?_) (λh2=>?_)
   .refine Rn.text ?_
    refine mv ?_ ⟨rfl,hl.tN⟩;refine Ry.pure rfl (hl.al4 hl.tN) ?_
    repeat' (first|refine gx ?_|refine fq (λhw=>?_) λhw=>?_|refine ⟨rfl,rfl,_,rfl,?_⟩|refine ⟨rfl,rfl⟩|fail)
    rfl
   .have e1:D5 a 0=W:=by rw [y4];simpa using h
    have oJ:N8 l a x=l:=by simp [N8,ho,e1,h2]
    have:=same oJ;refine gr ?_;exact ⟨_,KC (by rw [Vu];rfl) h1 (this.symm ▸ hts) V sizes,rfl⟩
   .have e1:D5 a 0=W:=by rw [y4];simpa using h
    have oJ:N8 l a x=pq l x:=by simp [N8,ho,e1,h2]
    have h3:=kI h2;refine Ex.skip ?_;refine Mo n i H x oc cs _ l ids' _ _ _ _ _ _ _ _ h0 h1 hL Bl hi hin hl hR (λy hy=>by have:=hi1 y hy;omega) V (λr hr=>by have:=(hok.2 r hr).1;omega) V V (λH' v' Cv u0 u1 u2 u3 u5 u6 u7 u8 u9 t1 t2 t3=>?_);exact fin H' v' Cv _ _ _ _ _ _ _ _ _ (λy hy=>by have:=Iu y hy;exact t1 y V V) t2 (oJ.symm ▸ t3)
 .refine Ex.cM (D5 a 0) ?_ (λh=>?_) (λh=>?_)
  .refine Rn.text ?_
   repeat' (first|refine gx ?_|refine fq (λhw=>?_) λhw=>?_|refine ⟨rfl,rfl,_,rfl,?_⟩|refine ⟨rfl,rfl⟩|fail)
   rfl
  .have oJ:N8 l a x=l:=by simp [N8,ho,h]
   refine Ex.skip ?_;exact ad9 oJ _ _ _ _ _ _ _ _ _
  .have h' :=B8 h
   obtain ⟨k,rfl⟩:∃k:Nat,a=k:=⟨a.toNat,V⟩;have hk:k<O l:=V
   refine Ex.cM (x4 x.op 2) ?_ (λh2=>?_) (λh2=>?_)
   .refine Rn.text ?_
    repeat' (first|refine Np r0 rfl ?_|refine gx ?_|refine fq (λhw=>?_) λhw=>?_|refine ⟨rfl,rfl,_,rfl,?_⟩|refine ⟨rfl,rfl⟩|fail)
    rfl
   .have oJ:N8 l k x=Jv l k x:=by simp [N8,ho,h,h2]
    obtain ⟨j,hj⟩:∃j:Nat,x.col=j:=⟨x.col.toNat,by have:=hx.c0;omega⟩;have hj2:j<w i:=by have:=hx.c1;rw [hit] at this;omega
    rcases Ar with ⟨e,_⟩|⟨id,cs0,Om,rfl,rfl,hid,hR0⟩
    .rw [e] at hk
     cases hk
    subst Ku;simp only [List.nodup_append,List.nodup_cons,A5,List.mem_cons] at Fa;have ah9:Om.Nodup:=Fa.1.2.1.2;have hne:∀y∈Om,y≠id:=λy hy e=>Fa.1.2.1.1 (e ▸ hy)
    obtain ⟨ra,rb,g1,g2,g3,g4,g5,g6,g7,g8⟩:=hR0.dc ah9 hk;have hrk:=hok.2 _ (C5 hk);have hRa:=Cn ra (by simp [g3]);have hRb:=Cn rb (by simp [g4]);refine TI n k (O l) j id ra rb H x (Y l k) cs0 _ _ _ _ _ _ _ _ h0 hj hid hk g1 g2 g6 g7 g5 V V V ?_;generalize VB:s6.cells (bD ((Y l k).row.set j x.val))=r1;generalize Fb:s6.cells (cu ((Y l k).seq.set j x.seq))=r2;have f1:∀y,y≠ra->y≠rb->((H.set ra r1).set rb r2)[y]? =H[y]? :=λy a1 a2=>by rw [x5 (Ne.symm a2),x5 (Ne.symm a1)]
    have k1:((H.set ra r1).set rb r2)[ra]? =J r1:=by rw [x5 (Ne.symm g5),E0 V]
    have k2:((H.set ra r1).set rb r2)[rb]? =J r2:=by rw [E0 D]
    have all:=g8 ((H.set ra r1).set rb r2) ((Y l k).row.set j x.val) ((Y l k).seq.set j x.seq) U U (by rw [VB];exact k1) (by rw [Fb];exact k2) λy _ a1 a2=>f1 y a1 a2
    have eu:Jv l k x=l.set k ⟨(Y l k).row.set j x.val,(Y l k).seq.set j x.seq,(Y l k).day⟩:=by simp [Jv,hj]
    have NX:bH ((H.set ra r1).set rb r2) (.r7 id 3 0 (O l)) (N8 l k x) (id::Om):= .inr ⟨id,cs0,Om,by rw [oJ,eu,List.length_set],rfl,(f1 id (hne ra g3).symm (hne rb g4).symm).trans hid,by rw [oJ,eu];exact all⟩;refine fin _ _ _ _ _ _ _ _ _ _ _ _ (λy hy=>f1 y ?_ ?_) ((f1 1 V V).trans (by rw [pT hv];exact h1)) NX
    .rintro rfl
     rcases A5.1 hy with hy|hy
     .exact Fa.1.2.2 _ hy _ (.inr g3) rfl
     .exact Fa.2.2 _ (.inr (.inr g3)) _ hy rfl
    .rintro rfl
     rcases A5.1 hy with hy|hy
     .exact Fa.1.2.2 _ hy _ (.inr g4) rfl
     .exact Fa.2.2 _ (.inr (.inr g4)) _ hy rfl
   .have oJ:N8 l k x=mY l k:=by simp [N8,ho,h,h2]
    refine RF n i k (O l) H x oc cs _ _ _ _ _ _ _ _ h0 h1 hL Bl hi hin hl hk hok.1 ?_;obtain ⟨j1,j2,q1,q2,q3,q4⟩:=hR.cut k;obtain ⟨m1,m2,p1,p2,p3,p4⟩:=hR.cut (k+1);have KS:=tU hok (Int.natCast_nonneg k) V;generalize hX:[s6.dead,.dead,.cells (cs.take (k * 3)++cs.drop ((k+1) * 3))]=X;generalize hc:s6.cells (oc.set i (.r7 (O H+2) 3 0 (O l - 1)))=c0;have f2:∀y,y<O H->y≠1->(H.set 1 c0++X)[y]? =H[y]? :=λy hy hne=>by rw [aO (by simpa using hy),x5 (Ne.symm hne)]
    have all:=(q1.mono λy hy=>by have:=hi1 y (q3 y hy);exact f2 y this.2 V).append (p2.mono λy hy=>by have:=hi1 y (p4 y hy);exact f2 y this.2 V);have hcr:mY l k=l.take k++l.drop (k+1):=by simp [mY]
    have hX2:(H.set 1 c0++X)[O H+2]? =J (.cells (cs.take (k * 3)++cs.drop ((k+1) * 3))):=by
     have:=iC (H.set 1 c0) X 2;rw [List.length_set] at this;rw [this,<- hX];rfl
    have NX:bH (H.set 1 c0++X) (.r7 (O H+2) 3 0 (O l - 1)) (N8 l k x) ((O H+2)::(j1++m2)):= .inr ⟨_,_,_,by
     have:O (N8 l k x)=O l - 1:=by rw [oJ];omega
     rw [this],rfl,hX2,by rw [oJ,hcr];exact all⟩
    refine fin _ _ _ _ _ _ _ _ _ _ _ _ (λy hy=>by have:=Iu y hy;exact f2 y V V) ?_ NX;rw [aO D,E0 V,hc]
def an2 (w:Nat->Nat)(n:Nat)(ts:List (List R7))(x:cR)(hn:O ts=n)(hn2:n<=1000)(hT:PR w ts)(hx:XQ n w x)(hw:∀i,i<n->1<=w i/\w i<=100):Pf A 123 [.d (Q5 ts),.agg (x.enc.map .d)] (.d (Q5 (U0 ts x))):=by
 subst hn;obtain ⟨i,hi⟩:∃i:Nat,x.M6=i:=⟨x.M6.toNat,by have:=hx.t0;omega⟩;have hin:i<O ts:=by have:=hx.t1;omega
 have hit:x.M6.toNat=i:=V
 have hok:=hT i V;obtain ⟨v0,H,⟨rfl,h0,oc,ids,hC⟩,pc⟩:=UL ts (.cells (x.enc.map .d)) (oa x.enc) V (λj hj=>kR (by have:=(hT j hj).1;omega)) (λj hj k hk=>by
  have h1:=(hT j hj).2 _ (C5 hk);have h2:=hw j V;exact ⟨decide_eq_true (p7 (E1 _ (show 2 * O (Y (Y ts j) k).row+512<=2512 by omega)) (by decide)),QY V⟩)
 obtain ⟨h1,Va,Qp,hlt,Oi⟩:=hC;have hW:D3 H<=O H:=V
 have h1L:=vS h1;have Bl:O oc=O ts:=Va.len;have Vb :=Va;rw [Jm (by omega:i<O ts)] at Vb;obtain ⟨v,i0,i1,i2,ev,Ku,Ar,hput⟩:=Vb.split;have eA:O (ts.take i)=i:=by rw [K0];omega
 rw [eA] at ev hput;obtain ⟨cs,ids',hl,hR,hsub,_,hform⟩:=Ar.lv hW;have rest:=Pk w (O ts) i (jG (Y ts i) (tC x)) ts x (Y ts i) H oc v ids i0 i1 i2 (.d (Q5 ts)) (.agg (x.enc.map .d)) .any .any .any rfl hn2 hT hx hw hi rfl rfl h0 h1 V Bl Va (λy hy=>hlt y hy) Qp hW Ku ev Ar hput;have r3:rd H 0 (0+3) 1=J [.d (Z x.M6)]:=an h0 rfl;have rv:rd H 1 (0+x.M6.toNat * 1) 1=J [v]:=an h1 (by rw [hit];simpa using ev);have r12:rd H 0 0 12=J (x.enc.map .d):=by simp [rd,h0,cR.enc]
 have hrow:x.op=1->0<O x.row:=λe=>by
  have:=hx.row;rw [if_pos e,hit] at this;have:=(hw i hin).1;omega
 have pk:=SR x hrow;refine Pf.go 8 ?_;refine Ex.seq ?_;refine Ex.region (Rn.text ?_);refine gx ?_;refine mn (h2:=?_);refine gx ?_;refine Ex.seq ?_;refine Ex.region (Rn.text ?_);refine gx ?_;refine cp pc (by show 1<=O H;omega) ?_;refine gx ?_;refine gx ?_;refine Ex.seq ?_;refine Ex.region (Rn.text ?_);refine gx ?_;refine gx ?_;refine Np r3 rfl ?_;refine JG (e:=x.M6) (len:=O ts) V ?_;refine lpa rv rfl ?_;refine mt (hx:=⟨rfl,hl.tN⟩) (h2:=?_);refine gx ?_;refine Ex.seq ?_;refine Ex.region (Rn.text ?_);refine mv ?_ ⟨rfl,hl.tN⟩;refine AB r12 rfl ?_;refine cl pk ?_
 rcases hform with e|⟨id,hid,e⟩
 .have h00:O (Y ts i)=0:=by
   rcases hl.wX with ⟨_,h⟩|⟨id,h,_⟩
   .exact h
   .rw [e] at h
    cases h
  have pz:=SU (Y ts i) (tC x) V;have ez:tL (Y ts i)= .slice 0 []:=by rw [List.eq_nil_of_length_eq_zero h00];rfl
  rw [ez] at pz;refine cl pz ?_ (ha:=?_)
  .refine gx ?_
   refine gx ?_;exact rest
  .show [v.I7.I7,.agg ((tC x).enc.map .d)]=_
   rw [e];rfl
 .have ah0:H[id]? =J (.cells cs):=by
   rcases hl.wX with ⟨h,_⟩|⟨id',h,h'⟩
   .rw [e] at h
    cases h
   .rw [e] at h
    cases h;exact h'
  have hmem:id∈ids:=by rw [Ku];simp [hid]
  obtain ⟨tp1,tp2⟩:=Oi.resolve_left λh=>by rw [h.1] at hmem;cases hmem
  have Oa:=hlt id hmem;obtain ⟨_,_,⟨rfl,rfl⟩,pf⟩:=Wg H ⟨0,O H,O H,A6 H 0 (O H)⟩ id cs ids' (Y ts i) (tC x) (by have:=hok.1;omega) ah0 hR λy hy=>(hlt y (by rw [Ku];simp [hsub y hy])).2
  have eb:A2 [c7.r7 id 3 0 (O (Y ts i)),.agg ((tC x).enc.map .d)]=id+1:=by simp [A2,c7.F4,oa]
  refine c1 pf rfl ?_ (by rw [I8];exact hW) ?_ (I8 ..) (Nat.ble_eq_true_of_le (j9 _)) rfl ?_
  .refine gx ?_
   refine gx ?_;exact rest
  .rw [eb]
   have:=EG h1 (n:=id+1) V V V 6;rw [tp2] at this;exact this
  .show [v.I7.I7,.agg ((tC x).enc.map .d)]=_
   rw [e];rfl
end Go.Proofs.YtibjocmpkoepoaaGreat


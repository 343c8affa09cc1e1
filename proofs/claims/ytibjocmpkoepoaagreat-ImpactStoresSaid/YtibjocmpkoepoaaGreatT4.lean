import Derived.Test.YtibjocmpkoepoaaGreatAbs
set_option linter.all false
open Bool renaming and_eq_true→c9,false_eq_true→j6,true→W,false→F
open List renaming append_assoc→F5,getElem?_append_left→y7,getElem?_eq_getElem→o3,getElem?_set_ne→x5,getElem?_set_self→E6,getElem_of_mem→E0,length_append→j9,length_cons→n9,length_map→A3,length_singleton→E5,length_take→L1,map_cons→G7,mem_append→G4,mem_cons→K2,replicate→c8,replicate_succ→M0,take_length→D3,take_of_length_le→s9,length→O
open Nat renaming le_refl→k9,le_trans→o5,lt_or_ge→y8,mul_le_mul_right→F8,zero_le→s8
open Option renaming some→J,none→K
namespace Go.z6
structure Vl where
 k:Int
 n:Int
 t:I4
 deriving DecidableEq,Inhabited
def Vl.enc (v:Vl):List Data:=[Z v.k,Z v.n,.str v.t]
structure S5 where
 row:List Vl
 seq:List Int
 day:Int
 deriving DecidableEq,Inhabited
def S5.enc (r:S5):List Data:=[x3 Vl.enc r.row,x3 (λn=>[Z n]) r.seq,Z r.day]
def ux (l:List S5):Data:=x3 S5.enc l
def R6 (ts:List (List S5)):Data:=x3 (λl=>[ux l]) ts
def bO (r:List Vl):List c7:=(r.flatMap Vl.enc).map .d
def cG (s:List Int):List c7:=(s.flatMap λn=>[Z n]).map .d
def L5 (H:k8):List c7->List S5->List Nat->Prop
 |cs,[],ids=>cs=[]/\ids=[]
 |cs,r::rs,ids=>∃a b cs' ids',cs= .s5 a 3 0 (O r.row):: .s5 b 1 0 (O r.seq):: .d (Z r.day)::cs' /\ids=a::b::ids' /\H[a]? =J (.cells (bO r.row))/\H[b]? =J (.cells (cG r.seq))/\L5 H cs' rs ids'
def bT (H:k8)(v:c7)(rs:List S5)(ids:List Nat):Prop :=
 (rs=[]/\v= .O5/\ids=[])\/∃id cs ids',v= .s5 id 3 0 (O rs)/\ids=id::ids' /\H[id]? =J (.cells cs)/\L5 H cs rs ids'
def T3 (H:k8):List c7->List (List S5)->List Nat->Prop
 |vs,[],ids=>vs=[]/\ids=[]
 |vs,t::ts,ids=>∃v vs' i1 i2,vs=v::vs' /\ids=i1++i2/\bT H v t i1/\T3 H vs' ts i2
theorem L5.mono {H H' :k8}:∀{rs:List S5} {cs:List c7} {ids:List Nat},(∀i∈ids,H'[i]? =H[i]?)->L5 H cs rs ids->L5 H' cs rs ids
 |[],_,_,_,h=>h
 |r::rs,_,_,hm,⟨a,b,cs',ids',e1,e2,h1,h2,h3⟩=>by
  subst e2;exact ⟨a,b,cs',ids',e1,rfl,(hm a U).trans h1,(hm b U).trans h2,L5.mono (λi hi=>hm i (by simp [hi])) h3⟩
theorem bT.mono {H H' :k8}{v:c7}{rs:List S5}{ids:List Nat}(hm:∀i∈ids,H'[i]? =H[i]?)(h:bT H v rs ids):bT H' v rs ids:=by
 rcases h with h|⟨id,cs,ids',rfl,rfl,h1,h2⟩
 .exact .inl h
 .exact .inr ⟨id,cs,ids',rfl,rfl,(hm id U).trans h1,h2.mono λi hi=>hm i (by simp [hi])⟩
theorem T3.mono {H H' :k8}:∀{ts:List (List S5)} {vs:List c7} {ids:List Nat},(∀i∈ids,H'[i]? =H[i]?)->T3 H vs ts ids->T3 H' vs ts ids
 |[],_,_,_,h=>h
 |t::ts,_,_,hm,⟨v,vs',i1,i2,e1,e2,h1,h2⟩=>by
  subst e2;exact ⟨v,vs',i1,i2,e1,rfl,h1.mono λi hi=>hm i (by simp [hi]),T3.mono (λi hi=>hm i (by simp [hi])) h2⟩
theorem L5.len {H:k8}:∀{rs:List S5} {cs:List c7} {ids:List Nat},L5 H cs rs ids->O cs=O rs * 3
 |[],_,_,h=>by simp [h.1]
 |r::rs,_,_,⟨a,b,cs',ids',e1,e2,h1,h2,h3⟩=>by
  have:=h3.len
  grind
theorem L5.append {H:k8}:∀{rs rs2:List S5} {cs cs2:List c7} {ids Dr:List Nat},L5 H cs rs ids->L5 H cs2 rs2 Dr->L5 H (cs++cs2) (rs++rs2) (ids++Dr)
 |[],_,_,_,_,_,h,h2=>by
  obtain ⟨rfl,rfl⟩:=h;exact h2
 |r::rs,_,_,_,_,_,⟨a,b,cs',ids',e1,e2,h1,h2,h3⟩,h4=>by
  subst e1 e2;exact ⟨a,b,cs' ++_,ids' ++_,rfl,rfl,h1,h2,h3.append h4⟩
theorem L5.I7 {H:k8}:∀{rs:List S5} {cs:List c7} {ids:List Nat},L5 H cs rs ids->cs.map c7.I7=cs
 |[],_,_,h=>by simp [h.1]
 |r::rs,_,_,⟨a,b,cs',ids',e1,e2,h1,h2,h3⟩=>by
  subst e1;simp only [G7,h3.I7];rfl
theorem T3.len {H:k8}:∀{ts:List (List S5)} {vs:List c7} {ids:List Nat},T3 H vs ts ids->O vs=O ts
 |[],_,_,h=>by simp [h.1]
 |t::ts,_,_,⟨v,vs',i1,i2,e1,e2,h1,h2⟩=>by
  subst e1;simp [h2.len]
theorem T3.split {H:k8}:∀{A f8:List (List S5)} {p:List S5} {vs:List c7} {ids:List Nat},T3 H vs (A++p::f8) ids ->
  ∃v i0 i1 i2,vs[O A]? =J v/\ids=i0++i1++i2/\bT H v p i1/\∀(H' :k8) (v' :c7) (p' :List S5) (HW :List Nat),(∀i∈i0++i2,H'[i]? =H[i]?)->bT H' v' p' HW ->T3 H' (vs.set (O A) v') (A++p' ::f8) (i0++HW ++i2)
 |[],f8,p,_,_,⟨v,vs',i1,i2,e1,e2,h1,h2⟩=>by
  subst e1 e2;exact ⟨v,[],i1,i2,rfl,rfl,h1,λH' v' p' HW hm h=>⟨v',vs',HW,i2,rfl,rfl,h,h2.mono λi hi=>hm i (by simp [hi])⟩⟩
 |a::A,f8,p,_,_,⟨v,vs',i1,i2,e1,e2,h1,h2⟩=>by
  subst e1 e2;obtain ⟨u,j0,j1,j2,g1,g2,g3,g4⟩:=T3.split h2;refine ⟨u,i1++j0,j1,j2,g1,M,g3,λH' v' p' HW hm h=>?_⟩;exact ⟨v,_,i1,j0++HW ++j2,rfl,M,h1.mono λi hi=>hm i (by simp [hi]),g4 H' v' p' HW (λi hi=>hm i M) h⟩
def bT.snoc {H:k8}{v:c7}{rs:List S5}{ids:List Nat}{r:S5}{H' :k8}{id a b:Nat}{cs:List c7}(h:bT H v rs ids)(hcs:(rs=[]/\cs=[])\/∃VA,v= .s5 VA 3 0 (O rs)/\H[VA]? =J (.cells cs))
  (hm:∀i∈ids.drop 1,H'[i]? =H[i]?) (ha:H'[a]? =J (.cells (bO r.row))) (hb:H'[b]? =J (.cells (cG r.seq)))
  (hid:H'[id]? =J (.cells (cs++[.s5 a 3 0 (O r.row),.s5 b 1 0 (O r.seq),.d (Z r.day)]))):bT H' (.s5 id 3 0 (O rs+1)) (rs++[r]) (id::(ids.drop 1++[a,b])):=by
 have h1:L5 H' [.s5 a 3 0 (O r.row),.s5 b 1 0 (O r.seq),.d (Z r.day)] [r] [a,b]:=⟨a,b,[],[],rfl,rfl,ha,hb,rfl,rfl⟩;refine .inr ⟨id,_,_,U,rfl,hid,?_⟩
 rcases h with ⟨rfl,rfl,rfl⟩|⟨id1,cs1,ids',rfl,rfl,g1,g2⟩
 .simp_all
 .obtain rfl:cs1=cs:=by
   rcases hcs with h|⟨VA,h,h'⟩
   .obtain ⟨rfl,rfl⟩:=h
    exact g2.1
   simp_all
  exact (g2.mono hm).append h1
attribute [local irreducible] Rl
def qK (H X:k8)(j:Nat)(c:x6):(H++X).set (O H+j) c=H++X.set j c:=U
theorem iY (H X:k8)(j:Nat):(H++X)[O H+j]? =X[j]? :=by grind
def aY {H X:k8}{j:Nat}(h:j<O H):(H++X)[j]? =H[j]? :=y7 h
def Kj {H X:k8}{j:Nat}(c:x6)(h:j<O H):(H++X).set j c=H.set j c++X:=by simp [h]
def Rn.yP {A:Prog}{l:G9}{b:Nat}{ops:List x9}{Q:List c7->k8->List c7->Prop}{T:List c7}{H:k8}(na:Nat)(H' :k8)(l6:List Touch)(hn:O H=na)(hH:H++T5 ops=H')(hs:slotsOf ops=l6)(h:Rl A l b ops ops T H' 0 [] l6 na [] Q):Rn A l b ops W T H Q:=by
 grind [Rn.XD]
theorem pg:∀l:List Data,A2 (l.map .d)=0
 |[]=>rfl
 |_::l=>by simp [A2,c7.H7,pg l]
def BC (l:List Data):(l.map c7.d).all c7.one=W:=by simp [c7.one]
def BH (r:List Vl):O (r.flatMap Vl.enc)=O r * 3:=by
 induction r with
 |nil=>rfl
 |cons a r ih=>rw [List.flatMap_cons,j9,ih,n9,show O a.enc=3 from rfl];omega
def uT (r:List Int):O (r.flatMap λn=>[Z n])=O r:=by
 induction r with
 |nil=>rfl
 |cons a r ih=>simp_all
def NO (H:k8)(r:List Vl):B5 H 3 (.d (x3 Vl.enc r))=J (O r,bO r):=by
 simp only [B5,x3,BH,if_true,bO]
def UN (H:k8)(r:List Int):B5 H 1 (.d (x3 (λn=>[Z n]) r))=J (O r,cG r):=by
 simp only [B5,x3,uT,Nat.mul_one,if_true,cG]
def OQ {oc:List c7}{i:Nat}{v:c7}(h:oc[i]? =J v):(if i+1<=O oc then J ((oc.drop i).take 1) else K)=J [v]:=by
 obtain ⟨h1,h2⟩:=List.getElem?_eq_some_iff.1 h;rw [if_pos V,List.drop_eq_getElem_cons h1,h2];rfl
namespace S
variable {A:Prog} {l:G9} {b:Nat} {j8 ops:List x9} {T:List c7} {H:k8} {n:Nat} {rl:List c7} {l6:List Touch} {na:Nat} {lg:List dA} {Q:List c7->k8->List c7->Prop}
def SJ {sz len:Nat}{zero:List c7}{ps:List (Nat×Nat×A4)}{u:List Nat}(yN :Nat)(cs:List c7)(H2:k8)(hr:U2 zero (ps.map λp=>(p.1,p.2.1,rq T n rl p.2.2))=J cs)(hl:0<sz/\O cs=len * sz)(hH:H.set na (.cells cs)=H2)(hn:na+1=yN)
  (h2:Rl A l b j8 ops T H2 (n+1) (.s5 na sz 0 len::rl) l6 yN (⟨[],[.obj na],0,na⟩::lg) Q):Rl A l b j8 (⟨.N5 sz len zero ps W,K,K,u⟩::ops) T H n rl l6 na lg Q:=by
 grind [yb]
def OE {sz bytes id len m:Nat}{x y:A4}{u:List Nat}{cs l0:List c7}{w:c7}(A1 t sb:Nat)(H2:k8)(hx:rq T n rl x= .s5 id sz 0 len)(hy:rq T n rl y=w)(hO:H[id]? =J (.cells l0))(hc:B5 H sz w=J (m,cs))(hmay:l.may id=W)
  (W5:len * sz=O l0/\roomFor (len+m) bytes=W/\A2 cs<=O H/\cs.all c7.one=W/\0<sz) (hH:H.set id .dead++[.cells (l0.map c7.I7++cs)]=H2) (hN:O H=A1) (ht:len+m=t) (hs:max (id+1) w.H7=sb)
  (h2:Rl A l b j8 ops T H2 (n+1) (.s5 A1 sz 0 t::rl) (.obj A1:: .obj id::l6) na (⟨[],[.obj A1,.obj id],sb,0⟩::lg) Q):Rl A l b j8 (⟨.M7 sz bytes x y,K,K,u⟩::ops) T H n rl l6 na lg Q:=by
 grind [ya]
def aE0 {sz bytes j j2 id off m:Nat}{y:A4}{u:List Nat}{a:x9}{cs l0:List c7}{w:c7}(A1:Nat)(H2:k8)(hL:lk n rl j=J (.d (.slice 0 [])))(ha:j8[j]? =J a)(hz:a.op= .load K (.loc j2))(hp:lk n rl j2=J (.ptr id off))(ht:l6.any (Touch.W2 id off)=F)(hmay:l.may id=W)
  (hO:H[id]? =J (.cells l0)) (h0:l0[off]? =J .O5) (hy:rq T n rl y=w) (hc:B5 H sz w=J (m,cs)) (W5:roomFor m bytes=W/\0<sz) (hm:m≠0) (hH:H++[.cells cs]=H2) (hN:O H=A1)
  (h2:Rl A l b j8 ops T H2 (n+1) (.s5 A1 sz 0 m::rl) (.obj A1::l6) na (⟨[],[.obj A1],w.H7,0⟩::lg) Q):Rl A l b j8 (⟨.M7 sz bytes (.loc j) y,K,K,u⟩::ops) T H n rl l6 na lg Q:=by
 grind [ya0]
end S
def qO (old:List c7)(off:Nat)(v:c7)(hq:off<O old):splice old off [v]=old.set off v:=by
 simp_all [splice,E5,List.set_eq_take_append_cons_drop,if_pos]
def dH (H:k8):c7->k8
 | .s5 id _ _ _=>H.set id .dead
 |_=>H
def cz (L:Nat)(r:S5)(cs:List c7):k8 :=
 [.cells (r.enc.map .d),.dead,.dead,.cells [.s5 (L+4) 3 0 (O r.row),.s5 (L+5) 1 0 (O r.seq),.d (Z r.day)],.cells (bO r.row),.cells (cG r.seq),.cells (cs++[.s5 (L+4) 3 0 (O r.row),.s5 (L+5) 1 0 (O r.seq),.d (Z r.day)])]
def wT {H:k8}{o:Nat}{c:x6}(ho:H[o]? =J c):o<O H:=by
 grind
end Go.z6
namespace Go.Proofs.YtibjocmpkoepoaaGreat
open Go.z6 Go.z6.S
attribute [local irreducible] Rx Ry Rn Ex Pf Rl
def We (ts:List (List S5))(i k o n m:Nat)(H:k8)(w1 w5 v:c7)(cs:List c7)(Q:H9->St->Prop)(hi:i<O ts)(hk:k<O (Y ts i))(oc:List c7)(ho:H[o]? =J (.cells oc))(hin:i<n)(BZ:O oc=n)(hn:oc[i]? =J v)
  (hv:(v= .O5/\m=0/\cs=[])\/∃id,v= .s5 id 3 0 m/\id≠o/\H[id]? =J (.cells cs)/\O cs=m * 3/\cs.map c7.I7=cs) (h0:roomFor (m+1) 56=W)
  (h1:roomFor (O (Y (Y ts i) k).row) 32=W) (h2:roomFor (O (Y (Y ts i) k).seq) 8=W)
  (hq:Q .normal ⟨[.d (R6 ts),w1,.s5 o 1 0 n,.d (Z i),.d (Z k),.ptr (O H) 0],(dH H v).set o (.cells (oc.set i (.s5 (O H+6) 3 0 (m+1))))++cz (O H) (Y (Y ts i) k) cs⟩) :
  Ex A N9 1 (match a182.body with
   | .seq _ (.seq _ (.seq (.seq _ (.block _ (.loop _ (.seq _ (.seq (.block _ (.seq _ (.block _ (.loop _ (.seq _ (.seq b _)))))) _))))) _))=>b
   |c=>c) ⟨[.d (R6 ts),w1,.s5 o 1 0 n,.d (Z i),.d (Z k),w5],H⟩ Q:=by
 have TK:=wT ho;generalize hr:Y (Y ts i) k=r at h1 h2 hq;refine gr ?_;rw [hr];refine ac (hi:=rfl) (hH:=rfl) (h2:=?_);refine so (ho:=iY H [_] 0) (H2:=H++[.cells (r.enc.map .d)]) (hH:=qK H [_] 0 _) (h2:=?_);refine nl ?_;refine Ex.region (Rn.yP (O H+1) (H++[.cells (r.enc.map .d),.dead,.dead,.dead]) [] U (by simp;rfl) rfl ?_);refine ym ?_;refine ym ?_;refine ym ?_;refine ym ?_;refine yp (rs:=[]) (.ptr o i) (by simp [l5,rq,Fi,lk,hin,Z,c7.I7]) ?_;refine yp (rs:=[o]) v.I7 (by simp [l5,rq,Fi,lk,rd,aY TK,ho,c7.I7,OQ hn]) ?_;refine SJ (O H+2) [] (H++[.cells (r.enc.map .d),.cells [],.dead,.dead]) rfl U (qK H _ 1 _) rfl ?_;refine yp (rs:=[]) (.ptr (O H) 0) rfl ?_;refine yp (rs:=[O H]) (.d (x3 Vl.enc r.row)) (by simp [l5,rq,Fi,lk,rd,S5.enc,c7.I7]) ?_;refine OE (O H+4) (O r.row) (O H+2) (H++[.cells (r.enc.map .d),.dead,.dead,.dead,.cells (bO r.row)]) rfl rfl (iY H _ 1) (NO _ _) rfl ⟨U,M,by rw [bO,pg];omega,BC _,U⟩ M U U (Nat.max_eq_left (s8 _)) ?_;refine SJ (O H+3) [] (H++[.cells (r.enc.map .d),.dead,.cells [],.dead,.cells (bO r.row)]) rfl U (qK H _ 2 _) rfl ?_;refine yp (rs:=[]) (.ptr (O H) 1) rfl ?_;refine yp (rs:=[O H]) (.d (x3 (λn=>[Z n]) r.seq)) (by simp [l5,rq,Fi,lk,rd,S5.enc,c7.I7]) ?_;refine OE (O H+5) (O r.seq) (O H+3) (H++[.cells (r.enc.map .d),.dead,.dead,.dead,.cells (bO r.row),.cells (cG r.seq)]) rfl rfl (iY H _ 2) (UN _ _) rfl ⟨U,M,by rw [cG,pg];omega,BC _,U⟩ M U U (Nat.max_eq_left (s8 _)) ?_;refine yp (rs:=[]) (.ptr (O H) 2) rfl ?_;refine yp (rs:=[O H]) (.d (Z r.day)) (by simp [l5,rq,Fi,lk,rd,S5.enc,c7.I7]) ?_;refine yp (rs:=[]) (.agg [.s5 (O H+4) 3 0 (O r.row),.s5 (O H+5) 1 0 (O r.seq),.d (Z r.day)]) rfl ?_;refine SJ (O H+4) _ (H++[.cells (r.enc.map .d),.dead,.dead,.cells [.s5 (O H+4) 3 0 (O r.row),.s5 (O H+5) 1 0 (O r.seq),.d (Z r.day)],.cells (bO r.row),.cells (cG r.seq)]) rfl ⟨by decide,rfl⟩ (qK H _ 3 _) rfl ?_
 rcases hv with ⟨rfl,rfl,rfl⟩|⟨id,rfl,hne,hid,hcs,has⟩
 .refine aE0 (j2:=4) (w:= .s5 (O H+3) 3 0 1) (m:=1) (cs:=[.s5 (O H+4) 3 0 (O r.row),.s5 (O H+5) 1 0 (O r.seq),.d (Z r.day)]) (O H+6) (H++cz (O H) r []) rfl rfl rfl rfl ?_ rfl ((aY TK).trans ho) hn rfl ?_ (by decide) U (by simp [cz]) U ?_
  .grind [Touch.W2]
  .simp [B5,rd,c7.I7]
  refine yp (rs:=[]) (.ptr o i) (by simp [l5,rq,Fi,lk,hin,Z,c7.I7]) ?_;refine ys rfl ⟨rfl,rfl⟩ rfl rfl rfl (.inr ⟨s8 _,s8 _⟩) ?_ ?_ (H2:=H.set o (.cells (oc.set i (.s5 (O H+6) 3 0 1)))++cz (O H) r [])
  .simp only [wr,aY TK,ho,E5,Kj _ TK]
   rw [if_pos V,qO _ _ _ V]
  refine yn hq ?_;simp [br,F3,Touch.F1,F6.makes,F6.y3,c7.H7];omega
 .have Mi:=wT hid
  refine OE (w:= .s5 (O H+3) 3 0 1) (m:=1) (cs:=[.s5 (O H+4) 3 0 (O r.row),.s5 (O H+5) 1 0 (O r.seq),.d (Z r.day)]) (O H+6) (m+1) _ (H.set id .dead++cz (O H) r cs) rfl rfl ((aY Mi).trans hid) ?_ rfl ⟨hcs.symm,h0,?_,?_,U⟩ ?_ U rfl rfl ?_
  .simp [B5,rd,c7.I7]
  .simp [A2,c7.H7]
  .rfl
  .simp_all [Kj,cz]
  refine yp (rs:=[]) (.ptr o i) (by simp [l5,rq,Fi,lk,hin,Z,c7.I7]) ?_;have hL:O (H.set id .dead)=O H:=List.length_set ..;refine ys rfl ⟨rfl,rfl⟩ rfl rfl rfl (.inr ⟨s8 _,s8 _⟩) ?_ ?_ (H2:=(H.set id .dead).set o (.cells (oc.set i (.s5 (O H+6) 3 0 (m+1))))++cz (O H) r cs)
  .have:(H.set id .dead++cz (O H) r cs)[o]? =J (.cells oc):=by
    grind
   simp only [wr,this,E5,Kj _ (hL ▸ TK)];rw [if_pos V,qO _ _ _ V]
  refine yn hq ?_;simp [br,F3,Touch.F1,F6.makes,F6.y3,c7.H7];omega
end Go.Proofs.YtibjocmpkoepoaaGreat
namespace Go.z6
def Hf {l:List c7}{v:c7}(h:v∈l):v.H7<=A2 l:=by
 obtain ⟨i,hi,rfl⟩:=E0 h;exact kV l i _ (o3 hi)
def mM {l:List x6}{v:x6}(h:v∈l):v.H7<=C9 l:=by
 induction l with
 |nil=>cases h
 |cons a l ih =>
  grind [C9]
theorem kW:∀a b:k8,C9 (a++b)=max (C9 a) (C9 b)
 |[],b=>by simp [C9]
 |x::a,b=>by simp [C9,kW a b]
theorem kX:∀(H:k8) (i:Nat) (c:x6),C9 (H.set i c)<=max (C9 H) c.H7
 |[],_,_=>by simp [C9]
 |x::H,0,c=>by grind [C9]
 |x::H,i+1,c=>by
  have:=kX H i c
  grind [C9]
theorem sK:∀(l:List c7) (i:Nat) (v:c7),A2 (l.set i v)<=max (A2 l) v.H7
 |[],_,_=>by simp [A2]
 |x::H,0,c=>by grind [A2]
 |x::H,i+1,c=>by
  have:=sK H i c
  grind [A2]
theorem vj:∀a b:List c7,A2 (a++b)=max (A2 a) (A2 b)
 |[],b=>by simp [A2]
 |x::a,b=>by simp [A2,vj a b]
def JD (H:k8)(v:c7):C9 (dH H v)<=C9 H:=by
 cases v with
 |s5 id _ _ _=>exact o5 (kX H id .dead) (by simp [x6.H7])
 |_=>exact k9 _
theorem zS (H:k8)(v:c7):O (dH H v)=O H:=by cases v<;>simp [dH]
def JM (L:Nat)(r:S5)(cs:List c7):C9 (cz L r cs)=max (A2 cs) (L+6):=by
 have e1:=pg (r.row.flatMap Vl.enc);have e2:=pg (r.seq.flatMap λn=>[Z n]);have e3:=pg r.enc;simp [cz,C9,x6.H7,bO,cG,vj,A2,c7.H7];omega
def Ou {H:k8}{o i m:Nat}{oc cs:List c7}(v:c7)(r:S5)(ho:o<O H)(hi:i<O oc)(hW:C9 H<=O H)(BZ:A2 oc<=O H)(hcs:A2 cs<=O H) :
  A2 (oc.set i (.s5 (O H+6) 3 0 m))=O H+7/\C9 ((dH H v).set o (.cells (oc.set i (.s5 (O H+6) 3 0 m)))++cz (O H) r cs)=O H+7:=by
 have h1:=sK oc i (.s5 (O H+6) 3 0 m);have h2:(c7.s5 (O H+6) 3 0 m).H7<=A2 (oc.set i (.s5 (O H+6) 3 0 m)):=Hf (List.mem_set hi _);have h3:(c7.s5 (O H+6) 3 0 m).H7=O H+7:=rfl;have h4:=JD H v;have h5:=kX (dH H v) o (.cells (oc.set i (.s5 (O H+6) 3 0 m)));have h6:(x6.cells (oc.set i (.s5 (O H+6) 3 0 m))).H7<=C9 ((dH H v).set o (.cells (oc.set i (.s5 (O H+6) 3 0 m)))):=mM (List.mem_set (by grind [zS]) _);have h7:(x6.cells (oc.set i (.s5 (O H+6) 3 0 m))).H7=A2 (oc.set i (.s5 (O H+6) 3 0 m)):=rfl;rw [kW,JM];omega
def As (H:k8)(o:Nat)(oc:List c7)(ts:List (List S5))(ids:List Nat):Prop :=
 H[o]? =J (.cells oc)/\T3 H oc ts ids/\ids.Nodup/\(∀x∈ids,o<x/\x<O H)/\((ids=[]/\C9 H=0)\/(A2 oc=O H/\C9 H=O H))
def As.step {H:k8}{o:Nat}{oc:List c7}{A f8:List (List S5)}{p:List S5}{ids:List Nat}(r:S5)(h:As H o oc (A++p::f8) ids) :
  ∃v cs,oc[O A]? =J v/\((v= .O5/\O p=0/\cs=[])\/∃id,v= .s5 id 3 0 (O p)/\id≠o/\H[id]? =J (.cells cs)/\O cs=O p * 3/\cs.map c7.I7=cs) /\
   ∃ids',As ((dH H v).set o (.cells (oc.set (O A) (.s5 (O H+6) 3 0 (O p+1))))++cz (O H) r cs) o (oc.set (O A) (.s5 (O H+6) 3 0 (O p+1))) (A++(p++[r])::f8) ids' /\∀x,x<o->((dH H v).set o (.cells (oc.set (O A) (.s5 (O H+6) 3 0 (O p+1))))++cz (O H) r cs)[x]? =H[x]? :=by
 obtain ⟨ho,ht,RS,hlt,PT⟩:=h;have TK:=wT ho;have hW:C9 H<=O H:=V
 have aq2:A2 oc<=O H:=o5 (mM (v:= .cells oc) (List.mem_of_getElem? ho)) hW;obtain ⟨v,i0,i1,i2,e1,e2,h1,h2⟩:=T3.split ht;subst e2;have key:∃cs,((v= .O5/\O p=0/\cs=[])\/∃id,v= .s5 id 3 0 (O p)/\id≠o/\H[id]? =J (.cells cs)/\O cs=O p * 3/\cs.map c7.I7=cs)/\((p=[]/\cs=[])\/∃VA,v= .s5 VA 3 0 (O p)/\H[VA]? =J (.cells cs)) /\
   (A2 cs<=O H)/\(∀x,x≠o->x<O H->(∀y,i1.head? =J y->x≠y)->∀c,((dH H v).set o c++cz (O H) r cs)[x]? =H[x]?)/\O (dH H v)=O H:=by
  rcases h1 with ⟨rfl,rfl,rfl⟩|⟨id,cs,ids',rfl,rfl,g1,g2⟩
  .refine ⟨[],.inl ⟨rfl,rfl,rfl⟩,.inl ⟨rfl,rfl⟩,s8 _,λx hx hL _ c=>?_,rfl⟩
   simp_all [aY,dH,x5,Ne.symm]
  .have hid:=hlt id U
   refine ⟨cs,.inr ⟨id,rfl,V,g1,g2.len,g2.I7⟩,.inr ⟨id,rfl,g1⟩,o5 (mM (v:= .cells cs) (List.mem_of_getElem? g1)) hW,λx hx hL hne c=>?_,by simp [dH]⟩;simp_all [aY,dH,x5,Ne.symm]
 obtain ⟨cs,k1,k2,kb,k3,k4⟩:=key;have kL:∀c j,((dH H v).set o c++cz (O H) r cs)[O H+j]? =(cz (O H) r cs)[j]? :=λc j=>by
  grind [dH,set,iY]
 refine ⟨v,cs,e1,k1,_,⟨?_,h2 _ _ _ _ (λx hx=>?_) (h1.snoc k2 (λx hx=>?_) (kL _ 4) (kL _ 5) (kL _ 6)),?_,?_,.inr ?_⟩,λx hx=>k3 x V V (λy hy=>?_) _⟩
 .grind
 .have hb:=hlt x (by grind)
  refine k3 x V hb.2 (λy hy=>?_) _
  grind [List.mem_of_mem_head?,List.nodup_append]
 .have hx' :=List.mem_of_mem_drop hx
  have hb:=hlt x (by simp [hx']);refine k3 x V hb.2 (λy hy=>?_) _;cases i1 with
  |nil=>cases hy
  |cons a t =>
   grind
 .have hb:∀x,x∈i0\/x∈i1\/x∈i2->x<O H:=λx hx=>(hlt x M).2
  simp only [List.nodup_append,G4,List.nodup_cons,K2,List.not_mem_nil,or_false] at RS ⊢
  grind
 .intro x hx
  have hsub:∀a,a∈i1.drop 1->a∈i1:=λa=>List.mem_of_mem_drop
  have hb:∀x,x∈i0\/x∈i1\/x∈i2->o<x/\x<O H:=λx hx=>hlt x M
  have hl:O ((dH H v).set o (.cells (oc.set (O A) (.s5 (O H+6) 3 0 (O p+1))))++cz (O H) r cs)=O H+7:=by simp [k4,cz]
  simp_all<;>grind
 .have:=Ou (m:=O p+1) v r TK (by grind:O A<O oc) hW aq2 kb
  simp_all [dH,set,cz]
 .have hy' :y∈i1:=List.mem_of_mem_head? hy
  simp_all<;>grind
theorem T3.O5 (H:k8):∀n:Nat,T3 H (c8 n .O5) (c8 n []) []
 |0=>⟨rfl,rfl⟩
 |n+1=>⟨.O5,_,[],[],rfl,rfl,.inl ⟨rfl,rfl,rfl⟩,T3.O5 H n⟩
theorem CP:∀l:List Data,J3 (l.map .d)=J l
 |[]=>rfl
 |_::l=>by simp [J3,c7.data?,CP l]
theorem LX (H:k8)(n:Nat):∀(l:List Data) (f:Nat),O l<f->aD H n f (l.map .d)=J (l.map .d)
 |[],f+1,_=>rfl
 |x::l,f+1,h=>by
  have h:=LX H n l f (by simpa using h)
  grind [aD]
def Ma {H:k8}{n f id sz len:Nat}{vs ws us us' :List c7}{xs:List Data}(hid:n<=id)(h:aD H n f vs=J ws)(hc:H[id]? =J (.cells us))(hl:O us=len * sz)(hu:aD H n f us=J us')(hx:J3 us' =J xs):aD H n (f+1) (.s5 id sz 0 len::vs)=J (.d (.slice len xs)::ws):=by
 simp_all [rd,s9,aD,Nat.not_lt,if_false]
def LZ {H:k8}{n f id sz len:Nat}{vs ws us:List c7}{xs:List Data}(hid:n<=id)(h:aD H n f vs=J ws)(hc:H[id]? =J (.cells us))(hl:O us=len * sz)(hu:aD H n f us=J (xs.map .d)):aD H n (f+1) (.s5 id sz 0 len::vs)=J (.d (.slice len xs)::ws):=Ma hid h hc hl hu (CP xs)
theorem L5.Tj {H:k8}{n:Nat}:∀{rs:List S5} {cs:List c7} {ids:List Nat} {f:Nat},L5 H cs rs ids->(∀x∈ids,n<=x)->(∀r∈rs,O rs * 3+O r.row * 3<f/\O rs * 3+O r.seq<f)->0<f->aD H n f cs=J ((rs.flatMap S5.enc).map .d)
 |[],_,_,f+1,h,_,_,_=>by
  rw [h.1];rfl
 |r::rs,_,_,f,⟨a,b,cs',ids',e1,e2,h1,h2,h3⟩,hn,hf,h0=>by
  subst e1 e2;have TC:=hf r U;simp [n9] at TC;obtain ⟨g,rfl⟩:∃g,f=g+3:=⟨f - 3,V⟩;have ih:=h3.Tj (n:=n) (f:=g) (λx hx=>hn x (by simp [hx])) (λr' hr' =>by
   grind) V
  have i1:aD H n (g+1) (.d (Z r.day)::cs')=J (.d (Z r.day)::(rs.flatMap S5.enc).map .d):=by grind [aD]
  have i2:=LZ (sz:=1) (len:=O r.seq) (hn b U) i1 h2 (by rw [cG,A3,uT,Nat.mul_one]) (LX H n _ _ (by rw [uT];omega));have i3:=LZ (sz:=3) (len:=O r.row) (hn a U) i2 h1 (by rw [bO,A3,BH]) (LX H n _ _ (by rw [BH];omega));exact i3
theorem bT.Tj {H:k8}{n f:Nat}{v:c7}{rs:List S5}{ids:List Nat}{vs ws:List c7}(h:bT H v rs ids)(hn:∀x∈ids,n<=x)(hf:∀r∈rs,O rs * 3+O r.row * 3<f/\O rs * 3+O r.seq<f)(h0:0<f)(hw:aD H n f vs=J ws):∃w,aD H n (f+1) (v::vs)=J (w::ws)/\w.data? =J (ux rs):=by
 rcases h with ⟨rfl,rfl,rfl⟩|⟨id,cs,ids',rfl,rfl,h1,h2⟩
 .refine ⟨.O5,?_,rfl⟩
  grind [aD]
 .exact ⟨_,LZ (hn id U) hw h1 h2.len (h2.Tj (λx hx=>hn x (by simp [hx])) hf h0),rfl⟩
theorem T3.Tj {H:k8}{n:Nat}:∀{ts:List (List S5)} {vs:List c7} {ids:List Nat} {f:Nat},T3 H vs ts ids->(∀x∈ids,n<=x)->(∀t∈ts,O ts<f/\∀r∈t,O ts+O t * 3+O r.row * 3<f/\O ts+O t * 3+O r.seq<f)->0<f ->
  ∃ws,aD H n f vs=J ws/\J3 ws=J (ts.map ux)
 |[],_,_,f+1,h,_,_,_=>⟨[],by rw [h.1];rfl,rfl⟩
 |t::ts,_,_,f,⟨v,vs',i1,i2,e1,e2,h1,h2⟩,hn,hf,h0=>by
  subst e1 e2;have TC:=hf t U;simp [n9] at TC;obtain ⟨g,rfl⟩:∃g,f=g+1:=⟨f - 1,V⟩;obtain ⟨ws,w1,w2⟩:=h2.Tj (n:=n) (f:=g) (λx hx=>hn x (by simp [hx])) (λt' ht=>by
   grind) V
  obtain ⟨w,w3,w4⟩:=h1.Tj (n:=n) (λx hx=>hn x (by simp [hx])) (λr hr=>by
   grind) V w1
  simp_all [J3,G7]
def lC {mask:List Bool}{n:Nat}{T:List c7}{H:k8}{o:Nat}{oc:List c7}(ho:H[o]? =J (.cells oc))(ZM:o<n)(h:O H=n\/∃v∈oc,n<v.H7):clean mask 0 n ⟨T,H⟩=⟨Q5 mask T,H⟩:=by
 unfold clean;split
 .rcases h with h|⟨v,hv,hb⟩
  .simp [<- h]
  .have h1:x6.cells oc∈H.take n:=by
    grind [List.mem_take_iff_getElem,List.getElem?_eq_some_iff]
   have h2:=mM h1;have h3:=Hf hv
   grind [x6.H7]
 .rfl
def room_le {n m b:Nat}(h:roomFor m b=W)(hn:n<=m):roomFor n b=W:=by
 rw [roomFor,decide_eq_true_eq] at h ⊢;exact o5 (F8 _ V) h
def QV {m:Nat}(h:roomFor m 56=W):m<2513169434917:=by
 have h:=of_decide_eq_true h;omega
theorem Cu:∀n:Nat,A2 (c8 n .O5)=0
 |0=>rfl
 |n+1=>by simp [M0,A2,Cu n,c7.H7]
end Go.z6
namespace Go.Proofs.YtibjocmpkoepoaaGreat
open Go.z6 Go.z6.S
attribute [local irreducible] Rx Ry Rn Ex Pf Rl
def Wf (ts:List (List S5))(i o n0:Nat)(H:k8)(w1 w4 w5:c7)(Q:H9->St->Prop)(hi:i<O ts)(oc:List c7)(ids:List Nat)(A0 B0:List (List S5))(hA:O A0=i)(h:As H o oc (A0++[]::B0) ids)(BZ:O oc=O ts)(ZM:o<n0)(hn0:n0<=O H)(hg:O H=n0\/∃v∈oc,n0<v.H7)
  (h0:roomFor (O (Y ts i)+1) 56=W) (h1:∀k,k<O (Y ts i)->roomFor (O (Y (Y ts i) k).row) 32=W/\roomFor (O (Y (Y ts i) k).seq) 8=W)
  (hq:∀H' oc' ids' w1 w4 w5,As H' o oc' (A0++Y ts i::B0) ids' ->O oc'=O ts->n0<=O H'->(O H'=n0\/∃v∈oc',n0<v.H7)->(∀x,x<o->H'[x]? =H[x]?)->Q .normal ⟨[.d (R6 ts),w1,.s5 o 1 0 (O ts),.d (Z i),w4,w5],H'⟩) :
  Ex A N9 1 (match a182.body with
   | .seq _ (.seq _ (.seq (.seq _ (.block _ (.loop _ (.seq _ (.seq b _))))) _))=>b
   |c=>c) ⟨[.d (R6 ts),w1,.s5 o 1 0 (O ts),.d (Z i),w4,w5],H⟩ Q:=by
 refine gr ?_;refine Ex.loop (λq s=>∃k oc ids H' w1 w5,k<=O (Y ts i)/\q=O (Y ts i) - k/\s=⟨[.d (R6 ts),w1,.s5 o 1 0 (O ts),.d (Z i),.d (Z k),w5],H'⟩/\As H' o oc (A0++(Y ts i).take k::B0) ids/\O oc=O ts/\O H<=O H'/\(O H'=n0\/∃v∈oc,n0<v.H7)/\(O H'=O H\/∃v∈oc,O H<v.H7)/\∀x,x<o->H'[x]? =H[x]?) ?_ (k:=O (Y ts i)) ⟨0,oc,ids,H,w1,w5,V,V,rfl,by simpa using h,BZ,V,hg,.inl rfl,λ_ _=>rfl⟩;rintro q s ⟨k,oc,ids,H',w1,w5,hk,rfl,rfl,hC,BZ,hL,OM,hg1,hlo⟩;rw [show (N9).strict=0 from rfl,lC hC.1 V hg1];refine Ex.seq ?_;refine tl (k:Int) (O (Y ts i):Int) (λhlt=>?_) (λhge=>?_)
 .have hk' :k<O (Y ts i):=V
  obtain ⟨v,cs,e1,e2,ids',hC',TF⟩:=hC.step (Y (Y ts i) k);rw [hA] at e1 hC' TF;have e3:O ((Y ts i).take k)=k:=M
  rw [e3] at e2 hC' TF;refine Ex.skip ?_;refine Ex.seq ?_;refine We ts i k o (O ts) k H' .any .any v cs _ hi hk' oc hC.1 hi BZ e1 e2 (room_le h0 V) (h1 k hk').1 (h1 k hk').2 ?_;have hb:=QV h0
  repeat' (first|refine ad V ?_|refine gx ?_|fail)
  have hin:i<O oc:=V
  have hmem:(c7.s5 (O H'+6) 3 0 (k+1))∈oc.set i (.s5 (O H'+6) 3 0 (k+1)):=List.mem_set hin _;refine ⟨O (Y ts i) - (k+1),V,k+1,_,ids',_,_,_,V,rfl,rfl,?_,?_,?_,.inr ⟨_,hmem,?_⟩,.inr ⟨_,hmem,?_⟩,λx hx=>(TF x hx).trans (hlo x hx)⟩
  .simp_all [D2]
  all_goals grind [List.length_set,zS,cz,c7.H7]
 .refine Ex.exit ?_
  obtain rfl:k=O (Y ts i):=V
  rw [D3] at hC;exact hq _ _ _ _ _ _ hC BZ V OM hlo
def Wg (ts:List (List S5))(c0:x6)(hc0:c0.H7=0)(hmk:O ts<=1000000)
  (h0:∀i,i<O ts->roomFor (O (Y ts i)+1) 56=W) (h1:∀i,i<O ts->∀k,k<O (Y ts i)->roomFor (O (Y (Y ts i) k).row) 32=W/\roomFor (O (Y (Y ts i) k).seq) 8=W) :
  Pq A 182 [.d (R6 ts)] [c0] N9 λv H=>v= .s5 1 1 0 (O ts)/\H[0]? =J c0/\∃oc ids,As H 1 oc ts ids:=by
 refine Pq.go (b:=1) 5 ?_
 repeat' (first|refine mn (h2:=?_)|refine ln ?_|refine gx ?_|fail)
 refine mks (id:=1) (len:=O ts) (H2:=[c0,.cells (c8 (O ts) .O5)]) ?_ ?_ rfl ?_
 .grind [qq,rq,Fi,lk,c7.I7]
 .simp
 refine gr ?_;have Wr:As [c0,.cells (c8 (O ts) .O5)] 1 (c8 (O ts) .O5) (ts.take 0++c8 (O ts - 0) []) []:=⟨rfl,T3.O5 _ _,List.nodup_nil,(λ_ h=>by cases h),.inl ⟨rfl,by simp [C9,hc0,show ∀l,(x6.cells l).H7=A2 l from λ_=>rfl,Cu]⟩⟩;refine Ex.loop (λq s=>∃i oc ids H' w1 w4 w5,i<=O ts/\q=O ts - i/\s=⟨[.d (R6 ts),w1,.s5 1 1 0 (O ts),.d (Z i),w4,w5],H'⟩/\As H' 1 oc (ts.take i++c8 (O ts - i) []) ids/\O oc=O ts/\2<=O H'/\(O H'=2\/∃v∈oc,2<v.H7)/\H'[0]? =J c0) ?_ (k:=O ts) ⟨0,_,_,_,_,_,_,V,V,rfl,Wr,U,U,.inl rfl,rfl⟩;rintro q s ⟨i,oc,ids,H',w1,w4,w5,hi,rfl,rfl,hC,BZ,hL,hg,hc⟩;show Ex A N9 1 _ (clean _ 0 2 _) _
 rw [lC hC.1 V hg];refine Ex.seq ?_;refine tl (i:Int) (O ts:Int) (λhlt=>?_) (λhge=>?_)
 .have hi' :i<O ts:=V
  refine Ex.skip ?_;refine Ex.seq ?_;obtain ⟨m,hm⟩:∃m,O ts - i=m+1:=⟨O ts - i - 1,V⟩;have hm' :O ts - (i+1)=m:=V
  rw [hm,M0] at hC;refine Wf ts i 1 2 H' .any .any .any _ hi' oc ids _ _ M hC BZ V hL hg (h0 i hi') (h1 i hi') (λH2 oc2 Dr u1 u4 u5 g1 g2 g3 g4 g5=>?_);refine gr ?_;refine ⟨O ts - (i+1),V,i+1,oc2,Dr,H2,_,_,_,V,rfl,rfl,?_,g2,g3,g4,?_⟩
  all_goals simp_all [D2,F5]
 .refine Ex.exit ?_
  obtain rfl:i=O ts:=V
  rw [D3,Nat.sub_self,List.replicate_zero,List.append_nil] at hC;show Ex A N9 1 (.seq (.region _ F) .ret) ⟨[.d (R6 ts),.any,.s5 1 1 0 (O ts),.d (Z (O ts)),.any,.any],H'⟩ _
  refine gr ?_;exact ⟨_,_,rfl,rfl,hc,oc,ids,hC⟩
def KQ (v:Vl):Bool :=
 if s7 v.k 0 then s7 v.n 0&&K7 v.t []
 else if s7 v.k 1 then U4 (-4294967296) v.n&&(U4 v.n 4294967296&&K7 v.t [])
 else s7 v.k 2&&(s7 v.n 0&&U4 (O v.t) 32)
def wY (v:Vl):Pf A 228 [.agg (v.enc.map .d)] (.d (.bool (KQ v))):=by
 refine Pf.go 3 ?_
 repeat' (first|refine gy ?_|refine fq (λhw=>?_) λhw=>?_|refine ⟨_,rfl,?_⟩|fail)
 all_goals simp [KQ,j4, *]
def isKey (key:Vl)(r:S5):Bool:=D0 0 (O r.row)&&decide (Y r.row 0=key)
def kC (t:List S5)(key:Vl):Int:=if KQ key&& !s7 key.k 0 then (match t.findIdx? (isKey key) with|some i=>(i:Int)|none=> -1) else -1
def wB (a b:Vl):(a.k==b.k&&(a.n==b.n&&(a.t==b.t&&W)))=decide (a=b):=by
 cases a;cases b;rw [Bool.eq_iff_iff];simp
def HA {t:List S5}{key:Vl}{i:Nat}(hi:i<O t)(h:isKey key (Y t i)=W)(hb:∀j,j<i->isKey key (Y t j)=F):t.findIdx? (isKey key)=J i:=by
 rw [List.findIdx?_eq_some_iff_getElem];refine ⟨hi,by rw [<- A7 hi];exact h,λj hj=>?_⟩;rw [<- A7 (by omega:j<O t),hb j hj];simp
def HB {t:List S5}{key:Vl}(hb:∀j,j<O t->isKey key (Y t j)=F):t.findIdx? (isKey key)=K:=by
 rw [List.findIdx?_eq_none_iff];intro x hx;obtain ⟨j,hj,rfl⟩:=E0 hx;rw [<- A7 hj];exact hb j hj
def Uo (t:List S5)(key:Vl)(ht:O t<4294967296):Pf A 183 [.d (ux t),.agg (key.enc.map .d)] (.d (Z (kC t key))):=by
 refine Pf.go 3 ?_;refine gr ?_;refine Ex.J1 (λk T' H' =>∃i:Nat,i<=O t/\k=O t - i/\T' =[.d (ux t),.any,.ptr 0 0,.any,.d (Z i)]/\H' =[.cells (key.enc.map .d)]/\∀j,j<i->isKey key (Y t j)=F) ?_ (k:=O t) ⟨0,V,V,rfl,rfl,λ_ h=>V⟩;rintro k T' H' ⟨i,hi,rfl,rfl,rfl,hb⟩;refine Ex.seq ?_;refine tc (D0 (i:Int) (O t)&&(KQ key&& !s7 key.k 0)) wY (λh=>?_) (λh=>?_)
 .rw [c9] at h
  have hlt:(i:Int)<O t:=A5 h.1;have hok:=h.2;have next:isKey key (Y t i)=F->∀j,j<i+1->isKey key (Y t j)=F:=λh1 j hj=>by
   rcases y8 j i with h2|h2
   .exact hb j h2
   .rwa [show j=i by omega]
  repeat' (first|refine gx ?_|refine fk (h1:=λhw=>?_) (h2:=λhw=>?_)|refine KG (h1:=λhw=>?_) (h2:=λhw=>?_)|refine Ex.nG ?_|refine Ex.pQ ?_|refine Ex.cond rfl (λht=>?_) (λht=>?_)|refine Ex.test (Rn.text ?_)|refine Ex.test (Rn.draw ?_)|refine ⟨_,rfl,λht=>?_,λht=>?_⟩|refine ⟨_,rfl,?_⟩|fail)
  .simp only [wB,Bool.false_bne,decide_eq_true_eq] at ht
   have:isKey key (Y t i)=W:=by rw [isKey,hw,ht];simp
   simp only [j4,kC,hok,if_true,HA V this hb]
  .simp only [wB,Bool.false_bne] at ht
   exact ⟨O t - (i+1),V,i+1,V,rfl,rfl,rfl,next (by rw [isKey,ht,Bool.and_false])⟩
  .cases ht
  .exact ⟨O t - (i+1),V,i+1,V,rfl,rfl,rfl,next (by rw [isKey,hw,Bool.false_and])⟩
 .repeat' (first|refine gx ?_|refine fk (h1:=λhw=>?_) (h2:=λhw=>?_)|refine KG (h1:=λhw=>?_) (h2:=λhw=>?_)|refine Ex.nG ?_|refine Ex.pQ ?_|refine Ex.cond rfl (λht=>?_) (λht=>?_)|refine Ex.test (Rn.text ?_)|refine Ex.test (Rn.draw ?_)|refine ⟨_,rfl,λht=>?_,λht=>?_⟩|refine ⟨_,rfl,?_⟩|fail)
  simp only [j4,kC];split
  next hok=>
   rw [hok,Bool.and_true] at h;have:=A9 h;rw [HB λj hj=>hb j V];rfl
  .rfl
end Go.Proofs.YtibjocmpkoepoaaGreat
namespace Go.z6
structure eY where
 op:Int
 seq:Int
 day:Int
 Q0:Int
 row:List Vl
 key:Vl
 col:Int
 val:Vl
 deriving DecidableEq,Inhabited
def eY.enc (c:eY):List Data:=[Z c.op,Z c.seq,Z c.day,Z c.Q0,x3 Vl.enc c.row,Z c.key.k,Z c.key.n,.str c.key.t,Z c.col,Z c.val.k,Z c.val.n,.str c.val.t]
section
variable {A:Prog} {l:G9} {b:Nat} {dr:Bool} {j8 ops:List x9} {T:List c7} {H:k8} {n:Nat} {rl:List c7} {l6:List Touch} {Q:List c7->k8->List c7->Prop}
def S.ltS {x y:A4}{s t:I4}{u:List Nat}(h2:Ry A l b dr j8 ops T H (n+1) (.d (.bool (Op.bytesLess s t))::rl) l6 Q)(hx:rq T n rl x= .d (.str s):=by rfl)(hy:rq T n rl y= .d (.str t):=by rfl) :
  Ry A l b dr j8 (⟨.bin .lss x y,K,K,u⟩::ops) T H n rl l6 Q:=Ry.pure (rs:=[]) rfl (by grind [l5,K0,qZ]) h2
end
end Go.z6
namespace Go.Proofs.YtibjocmpkoepoaaGreat
open Go.z6 Go.z6.S
attribute [local irreducible] Rx Ry Rn Ex Pf Rl
def QC (a b c:Int):Pf A 236 [.d (Z a),.d (Z b),.d (Z c)] (.d (.bool (U4 b a&&U4 a c))):=by
 refine Pf.go 1 ?_
 repeat' (first|refine gy ?_|refine fq (λhw=>?_) λhw=>?_|refine ⟨_,rfl,?_⟩|fail)
 all_goals simp [j4, *]
def Un (v:Vl)(k:Int):Pf A 180 [.agg (v.enc.map .d),.d (Z k)] (.d (.bool (s7 v.k 0||s7 v.k k))):=by
 refine Pf.go 2 ?_
 repeat' (first|refine gy ?_|refine fq (λhw=>?_) λhw=>?_|refine ⟨_,rfl,?_⟩|fail)
 all_goals simp [j4, *]
def gC (v:Vl):Vl:=if KQ v then v else ⟨0,0,[]⟩
def QB (v:Vl):Pf A 169 [.agg (v.enc.map .d)] (.agg ((gC v).enc.map .d)):=by
 refine Pf.go 2 ?_
 repeat' (first|refine cl (wY _) ?_|refine mN (wY _) ?_|refine gx ?_|refine fk (h1:=λhw=>?_) (h2:=λhw=>?_)|refine KG (h1:=λhw=>?_) (h2:=λhw=>?_)|refine Ex.nG ?_|refine Ex.pQ ?_|refine Ex.cond rfl (λht=>?_) (λht=>?_)|refine Ex.test (Rn.text ?_)|refine Ex.test (Rn.draw ?_)|refine ⟨_,rfl,λht=>?_,λht=>?_⟩|refine ⟨_,rfl,?_⟩|fail)
 .simp only [gC,ht]
  rfl
 .simp only [gC,ht]
  rfl
def uq (c:eY):Vl:=if s7 c.op 1 then Y c.row 0 else c.key
def Um (c:eY)(h:c.op=1->0<O c.row):Pf A 179 [.agg (c.enc.map .d)] (.agg ((uq c).enc.map .d)):=by
 refine Pf.go 2 ?_
 repeat' (first|refine gx ?_|refine fk (h1:=λhw=>?_) (h2:=λhw=>?_)|refine KG (h1:=λhw=>?_) (h2:=λhw=>?_)|refine Ex.nG ?_|refine Ex.pQ ?_|refine Ex.cond rfl (λht=>?_) (λht=>?_)|refine Ex.test (Rn.text ?_)|refine Ex.test (Rn.draw ?_)|refine ⟨_,rfl,λht=>?_,λht=>?_⟩|refine ⟨_,rfl,?_⟩|fail)
 all_goals
  simp only [uq,ht];rfl
def CL (a b:Vl):Int :=
 if gC a=gC b then 0 else if D0 (gC a).k (gC b).k||(s7 (gC a).k (gC b).k&&(D0 (gC a).n (gC b).n||Op.bytesLess (gC a).t (gC b).t)) then -1 else 1
def Up (a b:Vl):Pf A 184 [.agg (a.enc.map .d),.agg (b.enc.map .d)] (.d (Z (CL a b))):=by
 refine Pf.go 3 ?_
 repeat' (first|refine cl (QB _) ?_|refine mN (QB _) ?_|refine soD (h2:=?_)|refine ltS ?_|refine gy ?_|refine fq (λhw=>?_) λhw=>?_|refine ⟨_,rfl,?_⟩|fail)
 all_goals simp only [wB,Bool.false_bne,decide_eq_true_eq,decide_eq_false_iff_not] at *
 all_goals simp_all [j4,CL,Z]
def aw4 (l:List Vl):Pf A 237 [.d (x3 Vl.enc l)] (.d (.bool (!D0 16 (O l)&&l.all KQ))):=by
 refine Pf.go 2 ?_;refine Ex.seq ?_;refine gr ?_;refine tc (D0 16 (O l)) trivial (λh=>?_) (λh=>?_)
 .refine gr ?_
  exact ⟨_,rfl,by rw [h];rfl⟩
 have hl:=A9 h;refine gr ?_;refine Ex.J1 (λk T' H' =>∃i:Nat,i<=O l/\k=O l - i/\T' =[.d (x3 Vl.enc l),.any,.d (Z i)]/\H' =[]/\∀j,j<i->KQ (Y l j)=W) ?_ (k:=O l) ⟨0,V,V,rfl,rfl,λ_ h=>V⟩;rintro k T' H' ⟨i,hi,rfl,rfl,rfl,hb⟩;refine Ex.seq ?_;refine tl (i:Int) (O l:Int) (λh2=>?_) (λh2=>?_)
 .repeat' (first|refine cl (wY _) ?_|refine mN (wY _) ?_|refine gx ?_|refine fk (h1:=λhw=>?_) (h2:=λhw=>?_)|refine KG (h1:=λhw=>?_) (h2:=λhw=>?_)|refine Ex.nG ?_|refine Ex.pQ ?_|refine Ex.cond rfl (λht=>?_) (λht=>?_)|refine Ex.test (Rn.text ?_)|refine Ex.test (Rn.draw ?_)|refine ⟨_,rfl,λht=>?_,λht=>?_⟩|refine ⟨_,rfl,?_⟩|fail)
  .have h3:KQ (Y l i)=F:=by simpa using ht
   have h4:l.all KQ=F:=by
    rw [Bool.eq_false_iff];intro h4;have:=List.all_eq_true.1 h4 _ (List.getElem_mem (by omega:i<O l));rw [<- A7 V,h3] at this;cases this
   simp only [j4,h4,Bool.and_false]
  .have h3:KQ (Y l i)=W:=by simpa using ht
   refine ⟨O l - (i+1),V,i+1,V,rfl,rfl,rfl,λj hj=>?_⟩
   rcases y8 j i with h5|h5
   .exact hb j h5
   .rwa [show j=i by omega]
 .refine gr ?_
  have h4:l.all KQ=W:=by
   rw [List.all_eq_true];intro x hx;obtain ⟨j,hj,rfl⟩:=E0 hx;rw [<- A7 hj];exact hb j V
  exact ⟨_,rfl,by rw [h,h4];rfl⟩
end Go.Proofs.YtibjocmpkoepoaaGreat
namespace Go.z6
theorem L5.at {H:k8}:∀{rs:List S5} {cs:List c7} {ids:List Nat} {i:Nat},L5 H cs rs ids->i<O rs->∃a b,cs[i * 3]? =J (.s5 a 3 0 (O (Y rs i).row))/\cs[i * 3+1]? =J (.s5 b 1 0 (O (Y rs i).seq))/\a∈ids/\b∈ids/\H[a]? =J (.cells (bO (Y rs i).row))/\H[b]? =J (.cells (cG (Y rs i).seq))
 |[],_,_,_,_,h=>by cases h
 |r::rs,_,_,i,⟨a,b,cs',ids',e1,e2,h1,h2,h3⟩,h=>by
  have n0:Y (r::rs) 0=r:=by simp [Y]
  have n1:∀i,Y (r::rs) (i+1)=Y rs i:=λi=>by simp [Y]
  cases i with
  |zero =>
   simp_all
  |succ i =>
   obtain ⟨a',b',g1,g2,g3,g4,g5,g6⟩:=h3.at (i:=i) (by simpa using h)
   grind
def aI {H:k8}{id o:Nat}{cs:List c7}{v:c7}(h:H[id]? =J (.cells cs))(hv:cs[o]? =J v):rd H id o 1=J [v]:=by
 simp_all [rd,OQ]
def Gy {H:k8}{a:Nat}{r:List Vl}(h:H[a]? =J (.cells (bO r)))(hr:0<O r):rd H a 0 3=J ((Y r 0).enc.map .d):=by
 cases r with
 |nil=>cases hr
 |cons v r=>simp [rd,h,bO,Vl.enc,Y]
end Go.z6
namespace Go.Proofs.YtibjocmpkoepoaaGreat
open Go.z6 Go.z6.S
attribute [local irreducible] Rx Ry Rn Ex Pf Rl
def LQ (H X:k8)(w0 w1 w2 w4:c7)(x:Int):T9 a183 (O H) (J (.ret,⟨[w0,w1,w2,.d (Z x),w4],H++X⟩))=J (.d (Z x),H):=by
 have:T9 a183 (O H) (J (.ret,⟨[w0,w1,w2,.d (Z x),w4],H++X⟩))=(if (0:Nat)<=O H then J (.d (Z x),(H++X).take (O H)) else K):=rfl;simp_all
def XL (H:k8)(l:G9)(id:Nat)(cs:List c7)(ids:List Nat)(t:List S5)(key:Vl)(ht:O t<4294967296)(hid:H[id]? =J (.cells cs))(hR:L5 H cs t ids)(hi:∀x∈ids,x<O H) :
  Pq A 183 [.s5 id 3 0 (O t),.agg (key.enc.map .d)] H l λw H1=>w= .d (Z (kC t key))/\H1=H:=by
 have Mi:=wT hid;refine Pq.go (b:=O H) 3 ?_
 repeat' (first|refine bx (hi:=rfl) (hH:=rfl) (h2:=?_)|refine gx ?_|fail)
 have rk:rd (H++[.cells (key.enc.map .d)]) (O H) 0 3=J (key.enc.map .d):=by simp [rd,Vl.enc]
 have rk1:rd (H++[.cells (key.enc.map .d)]) (O H) 0 1=J [.d (Z key.k)]:=by simp [rd,Vl.enc]
 refine Ex.J1 (λk T' H' =>∃i:Nat,i<=O t/\k=O t - i/\T' =[.s5 id 3 0 (O t),.any,.ptr (O H) 0,.any,.d (Z i)]/\H' =H++[.cells (key.enc.map .d)]/\∀j,j<i->isKey key (Y t j)=F) ?_ (k:=O t) ⟨0,V,V,rfl,rfl,λ_ h=>V⟩ (by rintro _ _ _ ⟨_,_,_,_,rfl,_⟩;rfl);rintro k T' H' ⟨i,hi',rfl,rfl,rfl,hb⟩;refine Ex.seq ?_;refine Ex.dn (D0 (i:Int) (O t)&&(KQ key&& !s7 key.k 0)) ?_ (λh=>?_) (λh=>?_)
 .refine Rn.text ?_
  repeat' (first|refine Il rk rfl ?_|refine KO rk1 rfl ?_|refine Uc ?_|refine cl (wY _) ?_|refine mN (wY _) ?_|refine gx ?_|refine fk (h1:=λhw=>?_) (h2:=λhw=>?_)|refine KG (h1:=λhw=>?_) (h2:=λhw=>?_)|refine ⟨rfl,rfl,_,rfl,?_⟩|refine ⟨rfl,rfl⟩|fail)
  all_goals first|(simp [*];done)|(simp_all;done)|skip
 .rw [c9] at h
  have hlt:(i:Int)<O t:=A5 h.1;have hok:=h.2;have next:isKey key (Y t i)=F->∀j,j<i+1->isKey key (Y t j)=F:=λh1 j hj=>by
   rcases y8 j i with h2|h2
   .exact hb j h2
   .rwa [show j=i by omega]
  obtain ⟨a,b,g1,g2,g3,g4,g5,g6⟩:=hR.at (i:=i) V;have r1:rd (H++[.cells (key.enc.map .d)]) id (0+(i:Int).toNat * 3+0) 1=J [.s5 a 3 0 (O (Y t i).row)]:=aI ((aY Mi).trans hid) (by simpa using g1);have r3:D0 0 (O (Y t i).row:Int)=W->rd (H++[.cells (key.enc.map .d)]) a (0+(0:Int).toNat * 3) 3=J ((Y (Y t i).row 0).enc.map .d):=λh=>Gy ((aY (hi a g3)).trans g5) (by have:=A5 h;omega)
  repeat' (first|refine KN (e:=(i:Int)) (len:=O t) ⟨V,hlt⟩ ?_|refine KN (e:=0) (len:=O (Y t i).row) ⟨V,A5 (by assumption)⟩ ?_|refine KO r1 rfl ?_|refine Uc ?_|refine Il (r3 (by assumption)) rfl ?_|refine Il rk rfl ?_|refine gx ?_|refine fk (h1:=λhw=>?_) (h2:=λhw=>?_)|refine KG (h1:=λhw=>?_) (h2:=λhw=>?_)|refine Ex.nG ?_|refine Ex.pQ ?_|refine Ex.cond rfl (λht=>?_) (λht=>?_)|refine Ex.test (Rn.text ?_)|refine Ex.test (Rn.draw ?_)|refine ⟨_,rfl,λht=>?_,λht=>?_⟩|refine ⟨_,rfl,?_⟩|fail)
  next ht=>
   simp only [wB,Bool.false_bne,decide_eq_true_eq] at ht;have hw:D0 0 (O (Y t i).row:Int)=W:=by assumption
   have:isKey key (Y t i)=W:=by rw [isKey,hw,ht];simp
   refine ⟨_,_,LQ _ _ _ _ _ _ _,?_,rfl⟩;simp only [kC,hok,if_true,HA V this hb]
  next ht=>
   simp only [wB,Bool.false_bne] at ht;exact ⟨O t - (i+1),V,i+1,V,rfl,rfl,rfl,next (by rw [isKey,ht,Bool.and_false])⟩
  next ht=>
   cases ht
  .have hw:D0 0 (O (Y t i).row:Int)=F:=by assumption
   exact ⟨O t - (i+1),V,i+1,V,rfl,rfl,rfl,next (by rw [isKey,hw,Bool.false_and])⟩
 .repeat' (first|refine gx ?_|refine fk (h1:=λhw=>?_) (h2:=λhw=>?_)|refine KG (h1:=λhw=>?_) (h2:=λhw=>?_)|refine Ex.nG ?_|refine Ex.pQ ?_|refine Ex.cond rfl (λht=>?_) (λht=>?_)|refine Ex.test (Rn.text ?_)|refine Ex.test (Rn.draw ?_)|refine ⟨_,rfl,λht=>?_,λht=>?_⟩|refine ⟨_,rfl,?_⟩|fail)
  refine ⟨_,_,LQ _ _ _ _ _ _ _,?_,rfl⟩;simp only [kC];split
  next hok=>
   rw [hok,Bool.and_true] at h;have:=A9 h;rw [HB λj hj=>hb j V]
  .rfl
end Go.Proofs.YtibjocmpkoepoaaGreat
namespace Go.z6
theorem L5.cut {H:k8}:∀{rs:List S5} {cs:List c7} {ids:List Nat} (i:Nat),L5 H cs rs ids->∃j1 j2,L5 H (cs.take (i * 3)) (rs.take i) j1/\L5 H (cs.drop (i * 3)) (rs.drop i) j2/\(∀x∈j1,x∈ids)/\∀x∈j2,x∈ids
 |[],_,_,i,h=>by
  simp_all [L5]
 |r::rs,cs,ids,0,h=>⟨[],ids,by simp [L5],by simpa using h,U,λ_ h=>h⟩
 |r::rs,_,_,i+1,⟨a,b,cs',ids',e1,e2,h1,h2,h3⟩=>by
  subst e1 e2;obtain ⟨j1,j2,g1,g2,g3,g4⟩:=h3.cut i;refine ⟨a::b::j1,j2,?_,?_,λx hx=>?_,λx hx=>M⟩
  .rw [show (i+1) * 3=i * 3+1+1+1 by omega]
   exact ⟨a,b,_,_,rfl,rfl,h1,h2,g1⟩
  all_goals grind
theorem L5.dF {H:k8}:∀{rs:List S5} {cs:List c7} {ids:List Nat} {i:Nat},L5 H cs rs ids->ids.Nodup->i<O rs ->
  ∃a b,cs[i * 3]? =J (.s5 a 3 0 (O (Y rs i).row))/\cs[i * 3+1]? =J (.s5 b 1 0 (O (Y rs i).seq))/\a∈ids/\b∈ids/\a≠b/\H[a]? =J (.cells (bO (Y rs i).row))/\H[b]? =J (.cells (cG (Y rs i).seq)) /\
   ∀(H' :k8) (row:List Vl) (seq:List Int),O row=O (Y rs i).row->O seq=O (Y rs i).seq->H'[a]? =J (.cells (bO row))->H'[b]? =J (.cells (cG seq))->(∀x∈ids,x≠a->x≠b->H'[x]? =H[x]?)->L5 H' cs (rs.set i ⟨row,seq,(Y rs i).day⟩) ids
 |[],_,_,_,_,_,h=>by cases h
 |r::rs,_,_,i,⟨a,b,cs',ids',e1,e2,h1,h2,h3⟩,RS,h=>by
  subst e1 e2;simp [List.nodup_cons,K2,not_or] at RS;cases i with
  |zero =>
   rw [O1];refine ⟨a,b,rfl,rfl,U,U,RS.1.1,h1,h2,λH' row seq e1 e2 k1 k2 k3=>?_⟩;refine ⟨a,b,cs',ids',by rw [e1,e2],rfl,k1,k2,h3.mono λx hx=>k3 x (by simp [hx]) ?_ ?_⟩
   all_goals grind
  |succ i =>
   rw [bp];obtain ⟨a',b',g1,g2,g3,g4,g5,g6,g7,g8⟩:=h3.dF (i:=i) RS.2.2 (by simpa using h);refine ⟨a',b',?_,?_,by simp [g3],by simp [g4],g5,g6,g7,λH' row seq e1 e2 k1 k2 k3=>?_⟩
   .grind
   .grind
   .have ha:∀x∈ids',x≠a/\x≠b:=λx hx=>⟨by grind,by grind⟩
    refine ⟨a,b,cs',ids',rfl,rfl,?_,?_,g8 H' row seq e1 e2 k1 k2 λx hx=>k3 x (by simp [hx])⟩
    all_goals grind
def T3.am2 {H:k8}{o:Nat}{oc:List c7}{ts:List (List S5)}{ids:List Nat}(ho:H[o]? =J (.cells oc))(h:T3 H oc ts ids)(h1:O ts<300000)(h2:∀t∈ts,O t<100000/\∀r∈t,O r.row<100000/\O r.seq<100000):aD H 0 1000000 [.s5 o 1 0 (O ts)]=J [.d (R6 ts)]:=by
 obtain ⟨ws,w1,w2⟩:=h.Tj (n:=0) (f:=999999) (λx hx=>s8 _) (λt ht=>⟨V,λr hr=>by
  grind⟩) V
 have:=Ma (sz:=1) (len:=O ts) (s8 o) (show aD H 0 999999 []=J [] from rfl) ho (by rw [h.len,Nat.mul_one]) w1 w2;rw [show (1000000:Nat)=999999+1 from rfl,this];rw [show R6 ts= .slice (O ts) (ts.map ux) from by
  have e1:∀l:List (List S5),(l.flatMap λl=>[ux l])=l.map ux:=λl=>by
   induction l with
   |nil=>rfl
   |cons a l ih=>simp_all
  rw [R6,x3,e1]]
def Lf (H:k8)(n:Nat):C9 (H.take n)<=C9 H:=by
 conv=>rhs;rw [<- List.take_append_drop n H]
 rw [kW];omega
def FC {H:k8}{n o:Nat}{oc:List c7}(ho:H[o]? =J (.cells oc))(ZM:o<n)(hn:n<=C9 H)(hc:A2 oc=C9 H)(k:Nat):D7 H 0 (k+2) n=C9 H:=by
 have key:∀m,o<m->C9 (H.take m)=C9 H:=λm hm=>by
  refine Nat.le_antisymm (Lf H m) ?_;have h1:x6.cells oc∈H.take m:=by
   rw [List.mem_take_iff_getElem];obtain ⟨h1,h2⟩:=List.getElem?_eq_some_iff.1 ho;exact ⟨o,V,h2⟩
  have:=mM h1;simp only [x6.H7,hc] at this;exact this
 have step:∀k m,o<m->m<=C9 H->D7 H 0 (k+1) m=if C9 H=m then m else D7 H 0 k (C9 H):=λk m h1 h2=>by
  rw [D7,if_neg V];simp only [List.drop_zero,key m h1,Nat.max_eq_right h2]
 rw [step _ n ZM hn];split
 .omega
 .rw [step _ _ V (k9 _),if_pos rfl]
structure kP (H:k8)(lv:c7)(m:Nat)(cs:List c7):Prop where
 uC:lv.I7=lv
 len:O cs=m * 3
 cd:cs.map c7.I7=cs
 one:cs.all c7.one=W
 bd:A2 cs<=O H
 xY :(lv= .d (.slice 0 [])/\m=0)\/∃id,lv= .s5 id 3 0 m/\H[id]? =J (.cells cs)
theorem L5.one {H:k8}:∀{rs:List S5} {cs:List c7} {ids:List Nat},L5 H cs rs ids->cs.all c7.one=W
 |[],_,_,h=>by simp [h.1]
 |r::rs,_,_,⟨a,b,cs',ids',e1,e2,h1,h2,h3⟩=>by
  subst e1;simp only [List.all_cons,h3.one];rfl
def bT.lv {H:k8}{v:c7}{l:List S5}{ids:List Nat}(h:bT H v l ids)(hW:C9 H<=O H):∃cs ids',kP H v.I7 (O l) cs/\L5 H cs l ids' /\(∀y∈ids',y∈ids)/\(ids.Nodup->ids'.Nodup)/\(v.I7= .d (.slice 0 [])\/∃id,id∈ids/\v.I7= .s5 id 3 0 (O l)):=by
 rcases h with ⟨rfl,rfl,rfl⟩|⟨id,cs,ids',rfl,rfl,h1,h2⟩
 .exact ⟨[],[],⟨rfl,rfl,rfl,rfl,s8 _,.inl ⟨rfl,rfl⟩⟩,⟨rfl,rfl⟩,U,λ_=>List.nodup_nil,.inl rfl⟩
 .refine ⟨cs,ids',⟨rfl,h2.len,h2.I7,h2.one,o5 (mM (v:= .cells cs) (List.mem_of_getElem? h1)) hW,.inr ⟨id,rfl,h1⟩⟩,h2,λy hy=>by simp [hy],λh=>(List.nodup_cons.1 h).2,.inr ⟨id,U,rfl⟩⟩
structure SP (H:k8)(lv:c7)(m:Nat)(cs:List c7)(lo hi:Nat)(w:c7):Prop where
 uC:w.I7=w
 H7:w.H7<=O H
 pf:lo=0->∀(ρ:A4->c7) (G:k8) (x y:A4),ρ x=lv->ρ y= .d (Z hi)->l5 ρ G (.bP 3 x K (J y))=J (w,[])
 pr:hi=m->∀(ρ:A4->c7) (G:k8) (x y:A4),ρ x=lv->ρ y= .d (Z lo)->l5 ρ G (.bP 3 x (J y) K)=J (w,[])
 sc:∀G:k8,(∀id,id<O H->H[id]? =J (.cells cs)->G[id]? =H[id]?)->B5 G 3 w=J (hi - lo,(cs.take (hi * 3)).drop (lo * 3))
def kP.part {H:k8}{lv:c7}{m:Nat}{cs:List c7}(h:kP H lv m cs){lo hi:Nat}(h1:lo<=hi)(h2:hi<=m):∃w,SP H lv m cs lo hi w:=by
 by_cases e:lo=hi
 .subst e
  refine ⟨.d (.slice 0 []),rfl,s8 _,λe ρ G x y hx hy=>?_,λe ρ G x y hx hy=>?_,λG _=>?_⟩
  .subst e
   rcases h.xY with ⟨rfl,rfl⟩|⟨id,rfl,_⟩<;>simp [l5,hx,hy,T4,Z]
  .subst e
   rcases h.xY with ⟨rfl,rfl⟩|⟨id,rfl,_⟩<;>simp [l5,hx,hy,T4,Z]
  simp_all [List.drop_eq_nil_of_le,L1,B5]
 .rcases h.xY with ⟨rfl,rfl⟩|⟨id,rfl,hid⟩
  .omega
  .have Mi:=wT hid
   refine ⟨.s5 id 3 (lo * 3) (hi - lo),rfl,Mi,λe ρ G x y hx hy=>?_,λe ρ G x y hx hy=>?_,λG hG=>?_⟩
   .grind [l5,T4,Z]
   .grind [l5,T4,Z]
   .have a0:rd G id (lo * 3) ((hi - lo) * 3)=J ((cs.take (hi * 3)).drop (lo * 3)):=by
     have a4:lo * 3+(hi - lo) * 3<=O cs:=by rw [h.len];omega
     have a5:(hi - lo) * 3=hi * 3 - lo * 3:=V
     simp_all [rd,if_true,Option.some.injEq,List.drop_take]
    have a1:((cs.take (hi * 3)).drop (lo * 3)).map c7.I7=(cs.take (hi * 3)).drop (lo * 3):=by rw [List.map_drop,List.map_take,h.cd]
    simp_all [B5,if_true]
def kP.parts {H:k8}{lv:c7}{m:Nat}{cs:List c7}(h:kP H lv m cs)(i j:Nat):A2 ((cs.take i).drop j)<=O H/\((cs.take i).drop j).all c7.one=W/\((cs.take i).drop j).map c7.I7=(cs.take i).drop j:=by
 refine ⟨o5 (o5 (mK _ _) (mL _ _)) h.bd,?_,by rw [List.map_drop,List.map_take,h.cd]⟩;rw [List.all_eq_true];intro x hx;exact List.all_eq_true.1 h.one x (List.mem_of_mem_take (List.mem_of_mem_drop hx))
def kP.at1 {H:k8}{lv:c7}{m:Nat}{cs:List c7}(h:kP H lv m cs){ρ:A4->c7}{G:k8}{x:A4}(hx:ρ x=lv):l5 ρ G (.len x)=J (.d (Z m),[]):=by
 rcases h.xY with ⟨rfl,rfl⟩|⟨id,rfl,_⟩<;>simp [l5,hx,Z,i64]
theorem kP.mono {H H' :k8}{lv:c7}{m:Nat}{cs:List c7}(h:kP H lv m cs)(hL:O H<=O H')(hm:∀id,id<O H->H[id]? =J (.cells cs)->H'[id]? =H[id]?):kP H' lv m cs:=by
 refine ⟨h.uC,h.len,h.cd,h.one,o5 h.bd hL,?_⟩
 rcases h.xY with h1|⟨id,rfl,hid⟩
 all_goals grind
theorem me {n:Nat}(h:n<=1000):roomFor n 56=W:=by
 refine decide_eq_true ?_;omega
end Go.z6
namespace Go.Proofs.YtibjocmpkoepoaaGreat
open Go.z6
def oH (l:List S5)(v:Vl):Nat:=O (l.takeWhile λq=>D0 (CL (Y q.row 0) v) 0)
def ov (l:List S5)(a:Int):List S5:=l.take a.toNat++l.drop (a.toNat+1)
def Ql (c:eY):S5:=⟨c.row,c8 (O c.row) c.seq,c.day⟩
def qD (l:List S5)(c:eY):List S5:=l.take (oH l (Y c.row 0))++Ql c::l.drop (oH l (Y c.row 0))
def Ky (l:List S5)(a:Int)(c:eY):List S5:=l.set a.toNat ⟨(Y l a.toNat).row.set c.col.toNat c.val,(Y l a.toNat).seq.set c.col.toNat c.seq,(Y l a.toNat).day⟩
def O2 (l:List S5)(a:Int)(c:eY):List S5 :=
 if s7 c.op 1 then (if D0 a 0&&U4 64 (O l) then l else qD (if D0 a 0 then l else ov l a) c)
 else if D0 a 0 then l else if s7 c.op 2 then Ky l a c else ov l a
def U9 (ts:List (List S5))(c:eY):List (List S5):=ts.set c.Q0.toNat (O2 (Y ts c.Q0.toNat) (kC (Y ts c.Q0.toNat) (uq c)) c)
def KV (w:Nat)(l:List S5):Prop:=O l<=64/\∀r∈l,O r.row=w/\O r.seq=w
def Rt (w:Nat->Nat)(ts:List (List S5)):Prop:=∀i,i<O ts->KV (w i) (Y ts i)
structure Zw (n:Nat)(w:Nat->Nat)(x:eY):Prop where
 t0:0<=x.Q0
 t1:x.Q0<n
 op:x.op=1\/x.op=2\/x.op=3
 row:O x.row=if x.op=1 then w x.Q0.toNat else 0
 c0:0<=x.col
 c1:x.col<w x.Q0.toNat
def Qs {α:Type} [Inhabited α] {l:List α}{i j:Nat}{a:α}(hi:i<O l):Y (l.set j a) i=if j=i then a else Y l i:=by
 simp_all [A7,List.getElem_set]
theorem Rt.set {w:Nat->Nat}{ts:List (List S5)}(h:Rt w ts){j:Nat}{t:List S5}(ht:KV (w j) t):Rt w (ts.set j t):=λi hi=>by
 have hi:i<O ts:=M
 rw [Qs hi];split
 .simp_all
 .exact h i hi
def CX (t:List S5)(key:Vl):kC t key<O t/\ -1<=kC t key:=by
 grind [kC,List.findIdx?_eq_some_iff_getElem]
def Qb (l:List S5)(v:Vl):oH l v<=O l:=(List.takeWhile_sublist _).length_le
theorem uH {w:Nat}{l:List S5}{a:Int}(h:KV w l)(h0:0<=a)(h1:a<O l):KV w (ov l a)/\O (ov l a)+1=O l:=by
 have hl:O (ov l a)+1=O l:=by grind [ov]
 refine ⟨⟨by have:=h.1;omega,λr hr=>h.2 r ?_⟩,hl⟩
 rcases G4.1 hr with hr|hr
 all_goals grind
theorem Iu {w:Nat}{l:List S5}{c:eY}(h:KV w l)(hl:O l<64)(hw:O c.row=w):KV w (qD l c)/\O (qD l c)=O l+1:=by
 have e:O (qD l c)=O l+1:=by grind [qD]
 refine ⟨⟨V,λr hr=>?_⟩,e⟩;simp [qD,G4,K2] at hr
 rcases hr with hr|rfl|hr
 .exact h.2 r (List.mem_of_mem_take hr)
 .simp [Ql,hw]
 .exact h.2 r (List.mem_of_mem_drop hr)
theorem Rp {w:Nat}{l:List S5}{a:Int}{c:eY}(h:KV w l)(h1:a.toNat<O l):KV w (Ky l a c):=by
 refine ⟨by simpa [Ky] using h.1,λr hr=>?_⟩
 rcases List.mem_or_eq_of_mem_set hr with hr|rfl
 .exact h.2 r hr
 .have:=h.2 _ (E7 h1)
  simp_all
def tK {w:Nat}{l:List S5}{a:Int}{c:eY}(h:KV w l)(h1:a<O l)(hw:c.op=1->O c.row=w):KV w (O2 l a c):=by
 unfold O2;split
 next ho=>
  have hw:=hw (W9 ho);split
  .exact h
  next hc=>
   by_cases h2:a<0
   .have e:D0 a 0=W:=by simp_all [s4]
    rw [e,Bool.true_and,r7,decide_eq_true_eq] at hc
    grind [Iu]
   .rw [if_neg (by simp_all [s4])]
    have:=uH h V h1;exact (Iu this.1 (by have:=h.1;omega) hw).1
 grind [s4,Rp,uH]
def lV {n:Nat}{w:Nat->Nat}{ts:List (List S5)}{x:eY}(h:Rt w ts)(hn:O ts=n)(hx:Zw n w x):Rt w (U9 ts x)/\O (U9 ts x)=n:=by
 have h0:=hx.t0;have h1:=hx.t1;refine ⟨h.set (tK (h _ V) (CX _ _).1 λe=>?_),by simp_all [U9]⟩;rw [hx.row,if_pos e]
end Go.Proofs.YtibjocmpkoepoaaGreat
namespace Go.z6
def VX {T:List c7}{n:Nat}{rl:List c7}{H:k8}{x y:A4}{k:Nat}(hk:k<1000000)(hx:rq T n rl x= .d (Z (k:Int)))(hy:rq T n rl y= .d (Z 1)):l5 (rq T n rl) H (.bin .add x y)=J (.d (Z ((k+1:Nat):Int)),[]):=by
 grind [IntKind.wrap,i64,Go.z6.wrap_small,l5,Z,K0,U0,au]
def SE {H X:k8}{c:x6}(h:2<=O H):(H++X).set 1 c=H.set 1 c++X:=Kj c V
end Go.z6
namespace Go.Proofs.YtibjocmpkoepoaaGreat
open Go.z6 Go.z6.S
attribute [local irreducible] Rx Ry Rn Ex Pf Rl
def Te (n i k m:Nat)(H:k8)(x:eY)(oc cs:List c7)(lv w0 w1 w3 w7 w8 w9:c7)(Q:H9->St->Prop)(h0:H[0]? =J (.cells (x.enc.map .d)))(h1:H[1]? =J (.cells oc))(hL:2<=O H)(BZ:O oc=n)(hi:x.Q0=(i:Int))(hin:i<n)(hl:kP H lv m cs)(hk:k<m)(hm:m<=64)
  (hq:Q .normal ⟨[w0,w1,.ptr 0 0,w3,.s5 1 1 0 n,lv,.d (Z k),w7,w8,w9],H.set 1 (.cells (oc.set i (.s5 (O H+2) 3 0 (m - 1))))++[.dead,.dead,.cells (cs.take (k * 3)++cs.drop ((k+1) * 3))]⟩) :
  Ex A N9 0 (match jy.body with
   | .seq _ (.seq _ (.seq _ (.seq _ (.seq (.block _ (.test _ _ _ _ (.test _ _ _ _ (.test _ _ _ _ c)))) _))))=>c
   |c=>c) ⟨[w0,w1,.ptr 0 0,w3,.s5 1 1 0 n,lv,.d (Z k),w7,w8,w9],H⟩ Q:=by
 obtain ⟨u1,g1⟩:=hl.part (s8 k) V;obtain ⟨u2,g2⟩:=hl.part (show k+1<=m by omega) (k9 m);have e1:=hl.parts (k * 3) (0 * 3);have e2:=hl.parts (m * 3) ((k+1) * 3);have c1:(cs.take (k * 3)).drop (0 * 3)=cs.take (k * 3):=U
 have c2:(cs.take (m * 3)).drop ((k+1) * 3)=cs.drop ((k+1) * 3):=by rw [<- hl.len,D3]
 rw [c2] at e2;have l1:O (cs.take (k * 3))=k * 3:=by rw [L1,hl.len];omega
 have s1:=g1.sc (H++[.cells []]) λid hid _=>aY hid
 have s2:=g2.sc (H++[.dead,.cells (cs.take (k * 3))]) λid hid _=>aY hid
 rw [c2] at s2;have b1:=g1.H7;have b2:=g2.H7;have hne:H≠[]:=by grind
 have r3:rd (H++[.dead]) 0 3 1=J [.d (Z x.Q0)]:=aI ((aY V).trans h0) rfl;refine Ex.region (Rn.yP (O H) (H++[.dead]) [] rfl rfl rfl ?_);refine ym ?_;refine yp (rs:=[]) (.ptr 0 3) rfl ?_;refine yp (rs:=[0]) (.d (Z i)) (by simp [l5,rq,Fi,lk,r3,hi,c7.I7]) ?_;refine SJ (O H+1) [] (H++[.cells []]) rfl U (qK H _ 0 _) rfl ?_;refine ym (hx:=⟨rfl,hl.uC⟩) ?_;refine ym ?_;refine yp (rs:=[]) u1 (g1.pf rfl _ _ _ _ hl.uC rfl) ?_;refine OE (O H+1) k (O H+1) (H++[.dead,.cells (cs.take (k * 3))]) rfl g1.uC (iY H _ 0) s1 rfl ⟨U,by grind [me],o5 e1.1 U,e1.2.1,U⟩ M U V V ?_;refine ym (hx:=⟨rfl,hl.uC⟩) ?_;refine ym ?_;refine yp (rs:=[]) _ (VX (k:=k) V rfl rfl) ?_;refine yp (rs:=[]) u2 (g2.pr rfl _ _ _ _ hl.uC rfl) ?_;refine OE (O H+2) (m - 1) (O H+2) (H++[.dead,.dead,.cells (cs.take (k * 3)++cs.drop ((k+1) * 3))]) rfl g2.uC (iY H _ 1) s2 rfl ⟨l1.symm,me V,o5 e2.1 U,e2.2.1,U⟩ M U V V ?_;refine yp (rs:=[]) (.ptr 1 i) (by simp [l5,rq,Fi,lk,hin,Z,c7.I7]) ?_;refine ys rfl ⟨rfl,rfl⟩ rfl rfl rfl (.inr ⟨s8 _,s8 _⟩) ?_ ?_ (H2:=H.set 1 (.cells (oc.set i (.s5 (O H+2) 3 0 (m - 1))))++[.dead,.dead,.cells (cs.take (k * 3)++cs.drop ((k+1) * 3))])
 .simp only [wr,aY (show 1<O H by omega),h1,E5,SE hL]
  rw [if_pos V,qO _ _ _ V]
 simp_all [yn,br,F3,Touch.F1,F6.makes,F6.y3,c7.H7]
def UG (n k m:Nat)(H:k8)(cs:List c7)(lv w0 w1 w2 w3 w4 w7 w8 w9:c7)(Q:H9->St->Prop)(hL:2<=O H)(hl:kP H lv m cs)(hk:k<m)(hm:m<=64)
  (hq:Q .normal ⟨[w0,w1,w2,w3,w4,.s5 (O H+2) 3 0 (m - 1),.d (Z k),w7,w8,w9],H++[.dead,.dead,.cells (cs.take (k * 3)++cs.drop ((k+1) * 3))]⟩) :
  Ex A N9 0 (match jy.body with
   | .seq _ (.seq _ (.seq _ (.seq _ (.seq (.block _ (.test _ _ _ (.seq (.test _ _ _ c _) _) _)) _))))=>c
   |c=>c) ⟨[w0,w1,w2,w3,w4,lv,.d (Z k),w7,w8,w9],H⟩ Q:=by
 obtain ⟨u1,g1⟩:=hl.part (s8 k) V;obtain ⟨u2,g2⟩:=hl.part (show k+1<=m by omega) (k9 m);have e1:=hl.parts (k * 3) (0 * 3);have e2:=hl.parts (m * 3) ((k+1) * 3);have c1:(cs.take (k * 3)).drop (0 * 3)=cs.take (k * 3):=U
 have c2:(cs.take (m * 3)).drop ((k+1) * 3)=cs.drop ((k+1) * 3):=by rw [<- hl.len,D3]
 rw [c1] at e1;rw [c2] at e2;have l1:O (cs.take (k * 3))=k * 3:=by rw [L1,hl.len];omega
 have s1:=g1.sc (H++[.cells []]) λid hid _=>aY hid
 have s2:=g2.sc (H++[.dead,.cells (cs.take (k * 3))]) λid hid _=>aY hid
 rw [c1] at s1;rw [c2] at s2;have b1:=g1.H7;have b2:=g2.H7;show Ex A N9 0 (.region _ W) _ _
 refine Ex.region (Rn.yP (O H) (H++[.dead]) [] rfl rfl rfl ?_);refine SJ (O H+1) [] (H++[.cells []]) rfl U (qK H _ 0 _) rfl ?_;refine ym (hx:=⟨rfl,hl.uC⟩) ?_;refine ym ?_;refine yp (rs:=[]) u1 (g1.pf rfl _ _ _ _ hl.uC rfl) ?_;refine OE (O H+1) k (O H+1) (H++[.dead,.cells (cs.take (k * 3))]) rfl g1.uC (iY H _ 0) s1 rfl ⟨U,by simpa using me V,o5 e1.1 U,e1.2.1,U⟩ (by rw [show (H++[x6.cells []]).set (O H) .dead=H++[.dead] from qK H _ 0 _];simp) U V V ?_;refine ym (hx:=⟨rfl,hl.uC⟩) ?_;refine ym ?_;refine yp (rs:=[]) _ (VX (k:=k) V rfl rfl) ?_;refine yp (rs:=[]) u2 (g2.pr rfl _ _ _ _ hl.uC rfl) ?_;refine OE (O H+2) (m - 1) (O H+2) (H++[.dead,.dead,.cells (cs.take (k * 3)++cs.drop ((k+1) * 3))]) rfl g2.uC (iY H _ 1) s2 rfl ⟨l1.symm,me V,o5 e2.1 U,e2.2.1,U⟩ (by rw [qK,e1.2.2];simp) U V V ?_;refine ymT [w0,w1,w2,w3,w4,.s5 (O H+2) 3 0 (m - 1),.d (Z k),w7,w8,w9] U rfl ?_;refine yn hq ?_;have hne:H≠[]:=by rintro rfl;cases hL
 simp [br,F3,Touch.F1,F6.makes,F6.y3,c7.H7,hne]
def Vb {H:k8}{a i:Nat}{r:List Vl}(h:H[a]? =J (.cells (bO r)))(hi:i<O r)(v:Vl):wr H a (0+i * 3) (v.enc.map .d)=J (H.set a (.cells (bO (r.set i v)))):=by
 have e:r=r.take i++Y r i::r.drop (i+1):=by rw [<- C5 hi,List.take_append_drop]
 have hl:O (r.take i)=i:=by rw [L1];omega
 have h' :H[a]? =J (.cells (((r.take i++Y r i::r.drop (i+1)).flatMap Vl.enc).map .d)):=by rw [<- e];exact h
 have:=GO (enc:=Vl.enc) (sz:=3) (λ_=>rfl) h' v;rw [hl] at this;have hs:r.set i v=r.take i++v::r.drop (i+1):=by rw [List.set_eq_take_append_cons_drop,if_pos hi]
 rw [this,hs];rfl
def Vc {H:k8}{a i:Nat}{r:List Int}(h:H[a]? =J (.cells (cG r)))(hi:i<O r)(v:Int):wr H a (0+i * 1) [.d (Z v)]=J (H.set a (.cells (cG (r.set i v)))):=by
 have e:r=r.take i++Y r i::r.drop (i+1):=by rw [<- C5 hi,List.take_append_drop]
 have hl:O (r.take i)=i:=by rw [L1];omega
 have h' :H[a]? =J (.cells (((r.take i++Y r i::r.drop (i+1)).flatMap λn=>[Z n]).map .d)):=by rw [<- e];exact h
 have:=GO (enc:=λn:Int=>[Z n]) (sz:=1) (λ_=>rfl) h' v;rw [hl] at this;have hs:r.set i v=r.take i++v::r.drop (i+1):=by rw [List.set_eq_take_append_cons_drop,if_pos hi]
 rw [hs];exact this
def UY (n k m i id a b:Nat)(H:k8)(x:eY)(r:S5)(cs:List c7)(w0 w1 w3 w4 w7 w8 w9:c7)(Q:H9->St->Prop)(h0:H[0]? =J (.cells (x.enc.map .d)))(hi:x.col=(i:Int))(hid:H[id]? =J (.cells cs))(hk:k<m)
  (hca:cs[k * 3]? =J (.s5 a 3 0 (O r.row))) (hcb:cs[k * 3+1]? =J (.s5 b 1 0 (O r.seq))) (ha:H[a]? =J (.cells (bO r.row))) (hb:H[b]? =J (.cells (cG r.seq))) (hab:a≠b) (ha0:a≠0) (hir:i<O r.row) (his:i<O r.seq)
  (hq:Q .normal ⟨[w0,w1,.ptr 0 0,w3,w4,.s5 id 3 0 m,.d (Z k),w7,w8,w9],(H.set a (.cells (bO (r.row.set i x.val)))).set b (.cells (cG (r.seq.set i x.seq)))⟩) :
  Ex A N9 0 (match jy.body with
   | .seq _ (.seq _ (.seq _ (.seq _ (.seq (.block _ (.test _ _ _ _ (.test _ _ _ _ (.test _ _ _ c _)))) _))))=>c
   |c=>c) ⟨[w0,w1,.ptr 0 0,w3,w4,.s5 id 3 0 m,.d (Z k),w7,w8,w9],H⟩ Q:=by
 have r8:rd H 0 (0+8) 1=J [.d (Z i)]:=by rw [<- hi];exact aI h0 rfl
 have r1:rd H 0 (0+1) 1=J [.d (Z x.seq)]:=aI h0 rfl;have r9:rd H 0 (0+9) 3=J (x.val.enc.map .d):=by simp [rd,h0,eY.enc,Vl.enc]
 have ra:rd H id (0+k * 3+0) 1=J [.s5 a 3 0 (O r.row)]:=aI hid (by simpa using hca);have rb:rd H id (0+k * 3+1) 1=J [.s5 b 1 0 (O r.seq)]:=aI hid (by simpa using hcb);show Ex A N9 0 (.region _ W) _ _
 refine Ex.region (Rn.yP (O H) H [] rfl (by simp [T5,F6.y3]) rfl ?_);refine ym ?_;refine ym ?_;refine yp _ (JQ rfl rfl hk) ?_;refine yp _ (rZ rfl) ?_;refine yp _ (JR rfl ra rfl) ?_;refine yp _ (rZ rfl) ?_;refine yp _ (JR rfl r8 rfl) ?_;refine ym ?_;refine ym ?_;refine yp _ (JQ rfl rfl hk) ?_;refine yp _ (rZ rfl) ?_;refine yp _ (JR rfl rb rfl) ?_;refine yp _ (rZ rfl) ?_;refine yp _ (JR rfl r8 rfl) ?_;refine yp _ (rZ rfl) ?_;refine yp _ (Gp rfl r9 rfl) ?_;refine yp _ (rZ rfl) ?_;refine yp _ (JR rfl r1 rfl) ?_;refine yp _ (JQ rfl rfl hir) ?_;refine ys rfl ⟨rfl,rfl⟩ rfl rfl rfl (.inl (s8 _)) (Vb ha hir x.val) ?_;refine yp _ (JQ rfl rfl his) ?_;refine ys rfl ⟨rfl,rfl⟩ rfl rfl rfl (.inl (s8 _)) (Vc (by rw [x5 hab,hb]) his x.seq) ?_;refine yn hq ?_;simp [br,F3,Touch.F1,F6.makes,F6.y3,ha0]
def Uh (H:k8)(x:eY)(w0 w1 w3 w4 w5 w6 w7 w8 w9:c7)(Q:H9->St->Prop)(h0:H[0]? =J (.cells (x.enc.map .d)))(hL:2<=O H)(hr:O x.row<=100)
  (hq:Q .normal ⟨[w0,w1,.ptr 0 0,w3,w4,w5,w6,.ptr (O H+1) 0,w8,w9],H++[.dead,.cells [.s5 (O H+2) 3 0 (O x.row),.O5,.d (Z x.day)],.cells (bO x.row)]⟩) :
  Ex A N9 0 (match jy.body with
   | .seq _ (.seq _ (.seq _ (.seq _ (.seq (.block _ (.test _ _ _ (.seq _ (.seq c _)) _)) _))))=>c
   |c=>c) ⟨[w0,w1,.ptr 0 0,w3,w4,w5,w6,w7,w8,w9],H⟩ Q:=by
 have r4:∀X,rd (H++X) 0 (0+4) 1=J [.d (x3 Vl.enc x.row)]:=λX=>aI ((aY V).trans h0) rfl
 have r2:∀X,rd (H++X) 0 (0+2) 1=J [.d (Z x.day)]:=λX=>aI ((aY V).trans h0) rfl
 show Ex A N9 0 (.region _ W) _ _
 refine Ex.region (Rn.yP (O H) (H++[.dead,.dead]) [.slot 7] rfl rfl rfl ?_);refine SJ (O H+1) [] (H++[.cells [],.dead]) rfl U (qK H _ 0 _) rfl ?_;refine yp _ (rZ rfl) ?_;refine yp _ (JR rfl (r4 _) rfl) ?_;refine OE (O H+2) (O x.row) (O H+1) (H++[.dead,.dead,.cells (bO x.row)]) rfl rfl (iY H _ 0) (NO _ _) rfl ⟨U,?_,by rw [bO,pg];omega,BC _,U⟩ (by rw [show (H++[x6.cells [],.dead]).set (O H) .dead=H++[.dead,.dead] from qK H _ 0 _];simp) U U (Nat.max_eq_left (s8 _)) ?_
 .refine decide_eq_true ?_
  exact o5 (F8 _ (show 2 * (0+O x.row)+512<=2512 by omega)) (by decide)
 refine yp _ (rZ rfl) ?_;refine yp _ (JR rfl (r2 _) rfl) ?_;refine yp (rs:=[]) (.agg [.s5 (O H+2) 3 0 (O x.row),.O5,.d (Z x.day)]) rfl ?_;refine yal (O H+2) [w0,w1,.ptr 0 0,w3,w4,w5,w6,.ptr (O H+1) 0,w8,w9] (H++[.dead,.cells [.O5,.O5,.d (.int .i64 0)],.cells (bO x.row)]) U rfl rfl (qK H _ 1 _) rfl ?_;refine ys rfl ⟨rfl,rfl⟩ rfl rfl rfl (.inr ⟨s8 _,s8 _⟩) ?_ ?_ (H2:=H++[.dead,.cells [.s5 (O H+2) 3 0 (O x.row),.O5,.d (Z x.day)],.cells (bO x.row)])
 .simp only [wr,iY,qK]
  rfl
 refine yn hq ?_;have hne:H≠[]:=by rintro rfl;cases hL
 simp [br,F3,Touch.F1,F6.makes,F6.y3,c7.H7,hne]
end Go.Proofs.YtibjocmpkoepoaaGreat
namespace Go.z6
def SI {H X:k8}{id:Nat}{p q r v:c7}(h:H[id]? =J (.cells [p,q,r])):wr (H++X) id (0+1) [v]=J (H.set id (.cells [p,v,r])++X):=by
 have hL:=wT h;simp [wr,aY hL,h,Kj _ hL];rfl
def Ki (k:Nat)(q:Int):cG (c8 k q)++[.d (Z q)]=cG (c8 (k+1) q):=by
 simp_all [List.replicate_succ',cG,List.flatMap_append,List.map_append]
def NQ (s:List Int):O (cG s)=O s:=by rw [cG,A3,uT]
def NP (s:List Int):(cG s).map c7.I7=cG s:=by
 simp [cG,c7.I7]
def SC {n:Nat}(h:n<=1000):roomFor n 8=W:=by
 refine decide_eq_true ?_;omega
end Go.z6
namespace Go.Proofs.YtibjocmpkoepoaaGreat
open Go.z6 Go.z6.S
attribute [local irreducible] Rx Ry Rn Ex Pf Rl
def UM (H:k8)(x:eY)(xg:Nat)(pa w0 w1 w3 w4 w5 w6 w8 w9:c7)(Q:H9->St->Prop)(h0:H[0]? =J (.cells (x.enc.map .d)))(hr:O x.row<=100)(FX:H[xg]? =J (.cells [pa,.O5,.d (Z x.day)]))(RX:xg≠0)
  (hq:∀H' sv w0 w1 w3 w6 w9,O H<=O H'->(∀y,y<O H->y≠xg->H'[y]? =H[y]?)->H'[xg]? =J (.cells [pa,sv,.d (Z x.day)])->((O x.row=0/\sv= .O5)\/∃s,sv= .s5 s 1 0 (O x.row)/\O H<=s/\H'[s]? =J (.cells (cG (c8 (O x.row) x.seq)))) ->
   Q .normal ⟨[w0,w1,.ptr 0 0,w3,w4,w5,w6,.ptr xg 0,.d (Z (O x.row)),w9],H'⟩) :
  Ex A N9 0 (match jy.body with
   | .seq _ (.seq _ (.seq _ (.seq _ (.seq (.block _ (.test _ _ _ (.seq _ (.seq _ (.seq c _))) _)) _))))=>c
   |c=>c) ⟨[w0,w1,.ptr 0 0,w3,w4,w5,w6,.ptr xg 0,w8,w9],H⟩ Q:=by
 refine gr ?_;refine Ex.loop (λq s=>∃k H' sv w0 w1 w3 w6 w9,k<=O x.row/\q=O x.row - k/\s=⟨[w0,w1,.ptr 0 0,w3,w4,w5,w6,.ptr xg 0,.d (Z (k:Nat)),w9],H'⟩/\O H<=O H'/\(∀y,y<O H->y≠xg->H'[y]? =H[y]?)/\H'[xg]? =J (.cells [pa,sv,.d (Z x.day)]) /\
  ((k=0/\sv= .O5/\O H'=O H)\/∃s,sv= .s5 s 1 0 k/\O H<=s/\H'[s]? =J (.cells (cG (c8 k x.seq))))) ?_ (k:=O x.row) ⟨0,H,.O5,_,_,_,_,_,V,V,rfl,V,λ_ _ _=>rfl,FX,.inl ⟨rfl,rfl,rfl⟩⟩
 rintro q s ⟨k,H',sv,u0,u1,u3,u6,u9,hk,rfl,rfl,hL',hfr,Dp,ZO⟩;have WY:=wT FX;have hgrow:O H'=O H\/∃v∈[pa,sv,.d (Z x.day)],O H<v.H7:=by
  rcases ZO with ⟨_,_,h⟩|⟨s,rfl,h,_⟩
  all_goals (simp_all [c7.H7]<;>omega)
 rw [show (N9).strict=0 from rfl,lC Dp WY hgrow];refine Ex.nT ?_;have g0:H'[0]? =J (.cells (x.enc.map .d)):=(hfr 0 V (Ne.symm RX)).trans h0;have r4:rd H' 0 (0+4) 1=J [.d (x3 Vl.enc x.row)]:=aI g0 rfl;have r1:rd H' 0 (0+1) 1=J [.d (Z x.seq)]:=aI g0 rfl;refine Ex.seq ?_;refine Ex.dn (D0 (k:Int) (O x.row)) ?_ (λh=>?_) (λh=>?_)
 .refine Rn.text ?_
  repeat' (first|refine KO r4 rfl ?_|refine gx ?_|refine fq (λhw=>?_) λhw=>?_|refine ⟨rfl,rfl,_,rfl,?_⟩|refine ⟨rfl,rfl⟩|fail)
  rfl
 .have hlt:=A5 h
  refine Ex.skip ?_;refine Ex.seq ?_;refine Ex.block ?_;refine Ex.region (Rn.text ?_);refine gx ?_;refine Ry.pure rfl (JR rfl (aI Dp rfl) rfl) ?_;refine gx ?_;refine KO r1 rfl ?_;refine bso (id:=O H') [.d (Z x.seq)] rfl ⟨by decide,rfl⟩ rfl rfl ?_;have sc:B5 (H' ++[.cells [.d (Z x.seq)]]) 1 (.s5 (O H') 1 0 1)=J (1,[.d (Z x.seq)]):=by simp [B5,rd,c7.I7]
  rcases ZO with ⟨rfl,rfl,hl⟩|⟨s,rfl,hs,hS⟩
  .refine apz (j2:=0) (O H'+1) (H' ++[.cells [.d (Z x.seq)],.cells [.d (Z x.seq)]]) rfl rfl rfl rfl rfl rfl ((aY V).trans Dp) rfl rfl sc (by decide) (by decide) U U ?_
   refine gx ?_;refine SF rfl ⟨rfl,rfl⟩ rfl rfl rfl (.inr ⟨s8 _,s8 _⟩) (SI Dp) ?_
   repeat' (first|refine ad V ?_|refine gx ?_|fail)
   refine ⟨O x.row - (0+1),V,0+1,_,_,_,_,_,_,_,V,rfl,rfl,D,λy hy hne=>?_,?_,.inr ⟨O H'+1,rfl,V,?_⟩⟩
   .grind
   .grind
   .have:=iY (H'.set xg (.cells [pa,.s5 (O H'+1) 1 0 1,.d (Z x.day)])) [.cells [.d (Z x.seq)],.cells [.d (Z x.seq)]] 1
    rw [List.length_set] at this;exact this
  .have RY:=wT hS
   have TQ:s≠xg:=V
   have WX:(H'.set s .dead)[xg]? =J (.cells [pa,.s5 s 1 0 k,.d (Z x.day)]):=M
   refine apn (O H'+1) (k+1) (H'.set s .dead++[.cells [.d (Z x.seq)],.cells (cG (c8 (k+1) x.seq))]) rfl rfl ((aY RY).trans hS) sc rfl ⟨by rw [NQ,List.length_replicate,Nat.mul_one],SC V,by simp [A2,c7.H7],by rfl,by decide⟩ (by simp_all [Kj,NP,Ki]) U rfl ?_;refine gx ?_;refine SF rfl ⟨rfl,rfl⟩ rfl rfl rfl (.inr ⟨s8 _,s8 _⟩) (SI WX) ?_
   repeat' (first|refine ad V ?_|refine gx ?_|fail)
   refine ⟨O x.row - (k+1),V,k+1,_,_,_,_,_,_,_,V,rfl,rfl,D,λy hy hne=>?_,?_,.inr ⟨O H'+1,rfl,V,?_⟩⟩
   .grind
   all_goals grind
 .have hge:=A9 h
  refine Ex.exit ?_;obtain rfl:k=O x.row:=V
  refine hq H' sv _ _ _ _ _ hL' hfr Dp ?_
  rcases ZO with ⟨h,rfl,_⟩|h
  .exact .inl ⟨h,rfl⟩
  .exact .inr h
def Qa {l:List S5}{v:Vl}{j:Nat}(hj:j<=O l)(h1:∀i,i<j->D0 (CL (Y (Y l i).row 0) v) 0=W)(h2:j<O l->D0 (CL (Y (Y l j).row 0) v) 0=F):oH l v=j:=by
 unfold oH
 induction l generalizing j with
 |nil=>simp at hj;simp [hj]
 |cons a l ih =>
  cases j with
  |zero =>
   have:=h2 U;rw [O1] at this;simp [List.takeWhile_cons,this]
  |succ j =>
   have h0:=h1 0 V;rw [O1] at h0;simp only [List.takeWhile_cons,h0,if_true,n9,Nat.add_right_cancel_iff];exact ih (by simpa using hj) (λi hi=>by have:=h1 (i+1) V;rwa [bp] at this) λhi=>by have:=h2 (by simpa using hi);rwa [bp] at this
def UA (H:k8)(l:List S5)(row:List Vl)(cs:List c7)(ids:List Nat)(xg a w:Nat)(lv w0 w1 w3 w4 w6 w8 sv dy:c7)(Q:H9->St->Prop)(hl:kP H lv (O l) cs)(hR:L5 H cs l ids)(hm:O l<=64)(hrow:∀r∈l,0<O r.row)(FX:H[xg]? =J (.cells [.s5 a 3 0 w,sv,dy]))(ha:H[a]? =J (.cells (bO row)))(hw:0<w)(hrl:0<O row)
  (hq:∀w0 w1 w3 w6 w8,Q .normal ⟨[w0,w1,.ptr 0 0,w3,w4,lv,w6,.ptr xg 0,w8,.d (Z (oH l (Y row 0)))],H⟩) :
  Ex A N9 0 (match jy.body with
   | .seq _ (.seq _ (.seq _ (.seq _ (.seq (.block _ (.test _ _ _ (.seq _ (.seq _ (.seq _ (.seq _ (.seq c _))))) _)) _))))=>c
   |c=>c) ⟨[w0,w1,.ptr 0 0,w3,w4,lv,w6,.ptr xg 0,w8,.d (Z 0)],H⟩ Q:=by
 show Ex A N9 0 (.block 3 (.loop _ (.seq (.test _ _ _ _ _) (.block 4 (.region _ F))))) _ _
 refine Ex.block ?_;refine Ex.gV (λk T' H' =>∃(j:Nat) (w0 w1 w3 w6 w8:c7),j<=O l/\k=O l - j/\T' =[w0,w1,.ptr 0 0,w3,w4,lv,w6,.ptr xg 0,w8,.d (Z j)]/\H' =H/\∀i,i<j->D0 (CL (Y (Y l i).row 0) (Y row 0)) 0=W) (by rintro _ _ _ ⟨_,_,_,_,_,_,_,_,_,rfl,_⟩;rfl) ?_ (k:=O l) ⟨0,_,_,_,_,_,V,V,rfl,rfl,λ_ h=>V⟩;rintro k T' H' ⟨j,u0,u1,u3,u6,u8,hj,rfl,rfl,rfl,hb⟩;refine Ex.nT ?_;have rr:rd H' xg (0+0) 1=J [.s5 a 3 0 w]:=aI FX rfl;have ra:rd H' a (0+(0:Int).toNat * 3) 3=J ((Y row 0).enc.map .d):=Gy ha hrl;have fin:(j<O l->D0 (CL (Y (Y l j).row 0) (Y row 0)) 0=F)->oH l (Y row 0)=j:=Qa hj hb;refine Ex.seq ?_
 rcases hl.xY with ⟨rfl,h0⟩|⟨id,rfl,hid⟩
 .obtain rfl:j=0:=V
  refine Ex.dn F ?_ (λh=>?_) (λh=>?_)
  .refine Rn.draw ?_
   refine gx ?_;refine gx ?_;refine gx ?_;refine gx ?_;refine gx ?_;refine fk (h1:=λhw=>?_) (h2:=λhw=>?_)
   .cases A5 hw
   .repeat' (first|refine gx ?_|refine fq (λhw=>?_) λhw=>?_|refine ⟨rfl,rfl,_,rfl,?_⟩|refine ⟨rfl,rfl⟩|fail)
    rfl
  .cases h
  .refine Ex.exit ?_
   have:=hq .any .any .any .any .any;rw [fin λh=>V] at this;exact this
 .refine Ex.dn (D0 (j:Int) (O l)&&D0 (CL (Y (Y l j).row 0) (Y row 0)) 0) ?_ (λh=>?_) (λh=>?_)
  .refine Rn.draw ?_
   by_cases hlt:j<O l
   .obtain ⟨a',b',g1,g2,g3,g4,g5,g6⟩:=hR.at hlt
    have r1:rd H' id (0+(j:Int).toNat * 3+0) 1=J [.s5 a' 3 0 (O (Y l j).row)]:=aI hid (by simpa using g1);have hp:=hrow _ (E7 hlt);have r3:rd H' a' (0+(0:Int).toNat * 3) 3=J ((Y (Y l j).row 0).enc.map .d):=Gy g5 hp
    repeat' (first|refine Uc ?_|refine KN (e:=(j:Int)) (len:=O l) ⟨V,V⟩ ?_|refine KN (e:=0) (len:=O (Y l j).row) ⟨V,V⟩ ?_|refine KO r1 rfl ?_|refine Il r3 rfl ?_|refine KO rr rfl ?_|refine KN (e:=0) (len:=w) ⟨V,V⟩ ?_|refine Il ra rfl ?_|refine cl (Up _ _) ?_|refine mN (Up _ _) ?_|refine gx ?_|refine fq (λhw=>?_) λhw=>?_|refine ⟨rfl,rfl,_,rfl,?_⟩|refine ⟨rfl,rfl⟩|fail)
    all_goals first|(simp [*,j4];done)|(simp_all [j4];done)
   .have:D0 (j:Int) (O l)=F:=by rw [s4];simpa using hlt
    repeat' (first|refine Uc ?_|refine gx ?_|refine fq (λhw=>?_) λhw=>?_|refine ⟨rfl,rfl,_,rfl,?_⟩|refine ⟨rfl,rfl⟩|fail)
    all_goals first|(simp [*,j4];done)|(simp_all [j4];done)
  .rw [c9] at h
   have hlt:=A5 h.1
   repeat' (first|refine ad V ?_|refine gx ?_|fail)
   refine ⟨O l - (j+1),V,j+1,_,_,_,_,_,V,rfl,rfl,rfl,λi hi=>?_⟩
   rcases y8 i j with h2|h2
   .exact hb i h2
   .rw [show i=j by omega]
    exact h.2
  .refine Ex.exit ?_
   have:=hq .any .any .any .any .any;rw [fin λhlt=>by
    have e:D0 (j:Int) (O l)=W:=by rw [s4];simpa using hlt
    rwa [e,Bool.true_and] at h] at this
   exact this
end Go.Proofs.YtibjocmpkoepoaaGreat
namespace Go.z6
def L5.Zl {H:k8}{r:S5}{a b:Nat}(ha:H[a]? =J (.cells (bO r.row)))(hb:H[b]? =J (.cells (cG r.seq))):L5 H [.s5 a 3 0 (O r.row),.s5 b 1 0 (O r.seq),.d (Z r.day)] [r] [a,b]:=⟨a,b,[],[],rfl,rfl,ha,hb,rfl,rfl⟩
end Go.z6
namespace Go.Proofs.YtibjocmpkoepoaaGreat
open Go.z6 Go.z6.S
attribute [local irreducible] Rx Ry Rn Ex Pf Rl
def TW (n i k m xg a s w:Nat)(H:k8)(x:eY)(oc cs:List c7)(lv w0 w1 w3 w6 w8:c7)(dy:z6.Data)(Q:H9->St->Prop)(h0:H[0]? =J (.cells (x.enc.map .d)))(h1:H[1]? =J (.cells oc))(hL:2<=O H)(BZ:O oc=n)(hi:x.Q0=(i:Int))(hin:i<n)(hl:kP H lv m cs)(hk:k<=m)(hm:m<=64)
  (FX:H[xg]? =J (.cells [.s5 a 3 0 w,.s5 s 1 0 w,.d dy])) (haL:a<O H) (RY:s<O H)
  (hq:Q .normal ⟨[w0,w1,.ptr 0 0,w3,.s5 1 1 0 n,lv,w6,.ptr xg 0,w8,.d (Z k)],H.set 1 (.cells (oc.set i (.s5 (O H+4) 3 0 (m+1))))++[.dead,.cells [.s5 a 3 0 w,.s5 s 1 0 w,.d dy],.dead,.dead,.cells (cs.take (k * 3)++[.s5 a 3 0 w,.s5 s 1 0 w,.d dy]++cs.drop (k * 3))]⟩) :
  Ex A N9 0 (match jy.body with
   | .seq _ (.seq _ (.seq _ (.seq _ (.seq (.block _ (.test _ _ _ (.seq _ (.seq _ (.seq _ (.seq _ (.seq _ c))))) _)) _))))=>c
   |c=>c) ⟨[w0,w1,.ptr 0 0,w3,.s5 1 1 0 n,lv,w6,.ptr xg 0,w8,.d (Z k)],H⟩ Q:=by
 obtain ⟨u1,g1⟩:=hl.part (s8 k) hk;obtain ⟨u2,g2⟩:=hl.part hk (k9 m);have e1:=hl.parts (k * 3) (0 * 3);have e2:=hl.parts (m * 3) (k * 3);have c1:(cs.take (k * 3)).drop (0 * 3)=cs.take (k * 3):=U
 have c2:(cs.take (m * 3)).drop (k * 3)=cs.drop (k * 3):=by rw [<- hl.len,D3]
 rw [c2] at e2;have l1:O (cs.take (k * 3))=k * 3:=by rw [L1,hl.len];omega
 have bi7:=wT FX;generalize hR:[c7.s5 a 3 0 w,.s5 s 1 0 w,.d dy]=R at FX hq;have hRl:O R=3:=by subst hR;rfl
 have hRa:R.map c7.I7=R:=by subst hR;rfl
 have hRo:R.all c7.one=W:=by subst hR;rfl
 have hRb:A2 R<=O H:=by subst hR;simp [A2,c7.H7];omega
 have s1:=g1.sc (H++[.cells [],.dead]) λid hid _=>aY hid
 have s2:=g2.sc (H++[.dead,.cells R,.dead,.cells (cs.take (k * 3)++R)]) λid hid _=>aY hid
 rw [c2] at s2;have sR:B5 (H++[.dead,.cells R,.cells (cs.take (k * 3))]) 3 (.s5 (O H+1) 3 0 1)=J (1,R):=by
  simp_all [rd,iY,s9,B5,if_true]
 have b1:=g1.H7;have b2:=g2.H7;have hne:H≠[]:=by grind
 have r3:rd (H++[.dead,.dead]) 0 (0+3) 1=J [.d (Z i)]:=by rw [<- hi];exact aI ((aY V).trans h0) rfl
 have rr:rd (H++[.dead,.dead,.cells (cs.take (k * 3))]) xg 0 3=J R:=by
  simp_all [rd,aY,s9]
 refine Ex.region (Rn.yP (O H) (H++[.dead,.dead]) [] rfl rfl rfl ?_);refine ym ?_;refine yp _ (rZ rfl) ?_;refine yp _ (JR rfl r3 rfl) ?_;refine SJ (O H+1) [] (H++[.cells [],.dead]) rfl U (qK H _ 0 _) rfl ?_;refine ym (hx:=⟨rfl,hl.uC⟩) ?_;refine ym ?_;refine yp (rs:=[]) u1 (g1.pf rfl _ _ _ _ hl.uC rfl) ?_;refine OE (O H+2) k (O H+1) (H++[.dead,.dead,.cells (cs.take (k * 3))]) rfl g1.uC (iY H _ 0) s1 rfl ⟨U,by grind [me],o5 e1.1 U,e1.2.1,U⟩ M U V V ?_;refine yp _ (Gp rfl rr hRa) ?_;refine SJ (O H+2) R (H++[.dead,.cells R,.cells (cs.take (k * 3))]) (by subst hR;rfl) (by simp [hRl]) (qK H _ 1 _) rfl ?_;refine OE (O H+3) (k+1) (O H+3) (H++[.dead,.cells R,.dead,.cells (cs.take (k * 3)++R)]) rfl rfl (iY H _ 2) sR rfl ⟨l1.symm,me V,o5 hRb U,hRo,U⟩ M U V (Nat.max_eq_left (show O H+1+1<=O H+2+1 by omega)) ?_;refine ym (hx:=⟨rfl,hl.uC⟩) ?_;refine ym ?_;refine yp (rs:=[]) u2 (g2.pr rfl _ _ _ _ hl.uC rfl) ?_;refine OE (O H+4) (m+1) (O H+4) (H++[.dead,.cells R,.dead,.dead,.cells (cs.take (k * 3)++R++cs.drop (k * 3))]) rfl g2.uC (iY H _ 3) s2 rfl ⟨by grind,me V,o5 e2.1 U,e2.2.1,U⟩ M U V V ?_;refine yp _ (JQ rfl rfl hin) ?_;refine ys rfl ⟨rfl,rfl⟩ rfl rfl rfl (.inr ⟨s8 _,s8 _⟩) ?_ ?_ (H2:=H.set 1 (.cells (oc.set i (.s5 (O H+4) 3 0 (m+1))))++[.dead,.cells R,.dead,.dead,.cells (cs.take (k * 3)++R++cs.drop (k * 3))])
 .simp only [wr,aY (show 1<O H by omega),h1,E5,SE hL]
  rw [if_pos V,qO _ _ _ V];simp
 refine yn hq ?_;simp [br,F3,Touch.F1,F6.makes,F6.y3,hne];omega
def LP {T:List c7}{H:k8}{ts:List (List S5)}{oc:List c7}{ids:List Nat}(hT:T[3]? =J (.s5 1 1 0 (O ts)))(ho:H[1]? =J (.cells oc))(h:T3 H oc ts ids)(h1:O ts<300000)(h2:∀t∈ts,O t<100000/\∀r∈t,O r.row<100000/\O r.seq<100000):T9 jy 0 (J (.ret,⟨T,H⟩))=J (.d (R6 ts),[]):=by
 have h3:=h.am2 ho h1 h2;have h4:aB T H jy.results=J [.s5 1 1 0 (O ts)]:=by
  show aB T H [.slot 3]=_
  simp only [aB,mb,hT]
 unfold T9;simp only [h4];show finish F 0 [.s5 1 1 0 (O ts)] H=_
 simp only [finish,j6,if_false,j4,h3];simp [c7.H7]
theorem LJ {H:k8}{ts:List (List S5)}{oc:List c7}{ids:List Nat}{n:Nat}{w0 w1 w2 w3 w5 w6 w7 w8 w9:c7}(hn:O ts=n)(ho:H[1]? =J (.cells oc))(h:T3 H oc ts ids)(h1:O ts<300000)(h2:∀t∈ts,O t<100000/\∀r∈t,O r.row<100000/\O r.seq<100000) :
  Ex A N9 0 (match jy.body with
   | .seq _ (.seq _ (.seq _ (.seq _ (.seq _ c))))=>c
   |c=>c) ⟨[w0,w1,w2,w3,.s5 1 1 0 n,w5,w6,w7,w8,w9],H⟩ (λx s=>∃w,T9 jy 0 (J (x,s))=J (w,[])/\w= .d (R6 ts)):=by
 subst hn;show Ex A N9 0 (.seq (.region _ F) .ret) _ _
 refine gr ?_;exact ⟨_,LP rfl ho h h1 h2,rfl⟩
theorem QX {α:Type} [Inhabited α] {l:List α}{i:Nat}(h:i<O l):l.set i (Y l i)=l:=by rw [A7 h,List.set_getElem_self]
def Kn {α:Type} [Inhabited α] {l:List α}{i:Nat}(h:i<O l):l=l.take i++Y l i::l.drop (i+1):=by rw [<- C5 h,List.take_append_drop]
def Kk {α:Type}{l:List α}{i:Nat}(h:i<O l)(a:α):l.set i a=l.take i++a::l.drop (i+1):=by rw [List.set_eq_take_append_cons_drop,if_pos h]
end Go.Proofs.YtibjocmpkoepoaaGreat
namespace Go.z6.S
def lpa {A:Prog}{l:G9}{b:Nat}{dr:Bool}{j8 ops:List x9}{T:List c7}{H:k8}{n:Nat}{rl:List c7}{l6:List Touch}{Q:List c7->k8->List c7->Prop}{x:A4}{id o:Nat}{v w:c7}{u:List Nat}(hr:rd H id o 1=J [v])(hv:v.I7=w)(h2:Ry A l b dr j8 ops T H (n+1) (w::rl) l6 Q)(hx:rq T n rl x= .ptr id o:=by rfl) :
  Ry A l b dr j8 (⟨.load K x,K,K,u⟩::ops) T H n rl l6 Q:=Ry.pure (rs:=[id]) rfl (JR hx hr hv) h2
end Go.z6.S
namespace Go.Proofs.YtibjocmpkoepoaaGreat
open Go.z6 Go.z6.S
attribute [local irreducible] Rx Ry Rn Ex Pf Rl
def NH (n i:Nat)(H:k8)(x:eY)(oc cs:List c7)(lv:c7)(l:List S5)(ids:List Nat)(w0 w1 w3 w6 w7 w8 w9:c7)(Q:H9->St->Prop)(h0:H[0]? =J (.cells (x.enc.map .d)))(h1:H[1]? =J (.cells oc))(hL:2<=O H)(BZ:O oc=n)(hi:x.Q0=(i:Int))(hin:i<n)(hl:kP H lv (O l) cs)(hR:L5 H cs l ids)(Dh:∀y∈ids,y<O H/\y≠1)(hm:O l<64)(hrow:∀r∈l,0<O r.row)(hx0:0<O x.row)(hx1:O x.row<=100)
  (hq:∀H' v' ids' w0 w1 w2 w3 w5 w6 w7 w8 w9,(∀y,y<O H->y≠1->H'[y]? =H[y]?)->H'[1]? =J (.cells (oc.set i v'))->bT H' v' (qD l x) ids' ->Q .normal ⟨[w0,w1,w2,w3,.s5 1 1 0 n,w5,w6,w7,w8,w9],H'⟩) :
  Ex A N9 0 (match jy.body with
   | .seq _ (.seq _ (.seq _ (.seq _ (.seq (.block _ (.test _ _ _ (.seq _ c) _)) _))))=>c
   |c=>c) ⟨[w0,w1,.ptr 0 0,w3,.s5 1 1 0 n,lv,w6,w7,w8,w9],H⟩ Q:=by
 refine Ex.seq ?_;refine Uh H x w0 w1 w3 _ _ w6 w7 w8 w9 _ h0 hL hx1 ?_;have TC:∀X:k8,∀y,y<O H->(H++X)[y]? =H[y]? :=λX y hy=>aY hy
 refine Ex.seq ?_;refine UM _ x (O H+1) _ _ _ _ _ _ _ _ _ _ ((TC _ 0 V).trans h0) hx1 (iY H _ 1) V (λH' sv u0 u1 u3 u6 u9 k1 k2 k3 k4=>?_);obtain ⟨s,rfl,ks,kS⟩:=k4.resolve_left λh=>V
 have hlen:O (H++[x6.dead,.cells [.s5 (O H+2) 3 0 (O x.row),.O5,.d (Z x.day)],.cells (bO x.row)])=O H+3:=U
 have fr:∀y,y<O H->H'[y]? =H[y]? :=λy hy=>(k2 y V V).trans (aY hy)
 have zI:H'[O H+2]? =J (.cells (bO x.row)):=(k2 _ V V).trans (iY H _ 2);have hl' :kP H' lv (O l) cs:=hl.mono V λid hid _=>fr id hid
 have hR' :L5 H' cs l ids:=hR.mono λy hy=>fr y (Dh y hy).1
 refine Ex.seq ?_;refine Ex.region (Rn.text ?_);refine gx ?_;refine gx ?_;refine Ex.seq ?_;refine UA H' l x.row cs ids (O H+1) (O H+2) (O x.row) lv _ _ _ _ _ _ _ _ _ hl' hR' V hrow k3 zI hx0 hx0 (λu0 u1 u3 u6 u8=>?_);have hk:=Qb l (Y x.row 0);have RY:=wT kS;refine TW n i (oH l (Y x.row 0)) (O l) (O H+1) (O H+2) s (O x.row) H' x oc cs lv _ _ _ _ _ _ _ ((fr 0 V).trans h0) ((fr 1 V).trans h1) V BZ hi hin hl' hk V k3 V RY ?_;generalize hX:[x6.dead,.cells [.s5 (O H+2) 3 0 (O x.row),.s5 s 1 0 (O x.row),.d (Z x.day)],.dead,.dead,.cells (cs.take (oH l (Y x.row 0) * 3)++[.s5 (O H+2) 3 0 (O x.row),.s5 s 1 0 (O x.row),.d (Z x.day)]++cs.drop (oH l (Y x.row 0) * 3))]=X;generalize hc:x6.cells (oc.set i (.s5 (O H'+4) 3 0 (O l+1)))=c1;have f2:∀y,y<O H'->y≠1->(H'.set 1 c1++X)[y]? =H'[y]? :=λy hy hne=>by grind
 obtain ⟨j1,j2,q1,q2,q3,q4⟩:=hR'.cut (oH l (Y x.row 0));have nw:=L5.Zl (H:=H'.set 1 c1++X) (r:=Ql x) (a:=O H+2) (b:=s) ((f2 _ V V).trans zI) ((f2 _ RY V).trans kS);have all:=((q1.mono λy hy=>f2 y (by grind) (Dh y (q3 y hy)).2).append nw).append (q2.mono λy hy=>f2 y (by grind) (Dh y (q4 y hy)).2);have all' :L5 (H'.set 1 c1++X) (cs.take (oH l (Y x.row 0) * 3)++[.s5 (O H+2) 3 0 (O x.row),.s5 s 1 0 (O x.row),.d (Z x.day)]++cs.drop (oH l (Y x.row 0) * 3)) (qD l x) (j1++[O H+2,s]++j2):=by simp_all [qD,Ql]
 have hX4:(H'.set 1 c1++X)[O H'+4]? =J (.cells (cs.take (oH l (Y x.row 0) * 3)++[.s5 (O H+2) 3 0 (O x.row),.s5 s 1 0 (O x.row),.d (Z x.day)]++cs.drop (oH l (Y x.row 0) * 3))):=by
  have:=iY (H'.set 1 c1) X 4;rw [List.length_set] at this;rw [this,<- hX];rfl
 have PC:bT (H'.set 1 c1++X) (.s5 (O H'+4) 3 0 (O l+1)) (qD l x) ((O H'+4)::(j1++[O H+2,s]++j2)):= .inr ⟨_,_,_,by
  have:O (qD l x)=O l+1:=by simp [qD];omega
  rw [this],rfl,hX4,all'⟩
 grind
def QO (w:Nat->Nat)(n i:Nat)(a:Int)(ts:List (List S5))(x:eY)(l:List S5)(H:k8)(oc:List c7)(v:c7)(ids i0 i1 i2:List Nat)(w0 w1 w7 w8 w9:c7)(hn:O ts=n)(hn2:n<=1000)(hT:Rt w ts)(hx:Zw n w x)(hw:∀i,i<n->1<=w i/\w i<=100)(hi:x.Q0=(i:Int))(hl0:Y ts i=l)(ha:kC l (uq x)=a)
  (h0:H[0]? =J (.cells (x.enc.map .d))) (h1:H[1]? =J (.cells oc)) (hL:2<=O H) (BZ:O oc=n) (hts:T3 H oc ts ids) (Dh:∀y∈ids,1<y/\y<O H) (FW:ids.Nodup) (hW:C9 H<=O H) (LH:ids=i0++i1++i2) (hv:oc[i]? =J v) (Bh:bT H v l i1)
  (hput:∀(H' :k8) (v' :c7) (p' :List S5) (HW :List Nat),(∀y∈i0++i2,H'[y]? =H[y]?)->bT H' v' p' HW ->T3 H' (oc.set i v') (ts.take i++p' ::ts.drop (i+1)) (i0++HW ++i2)) :
  Ex A N9 0 (match jy.body with
   | .seq _ (.seq _ (.seq _ (.seq _ c)))=>c
   |c=>c) ⟨[w0,w1,.ptr 0 0,.O5,.s5 1 1 0 n,v.I7,.d (Z a),w7,w8,w9],H⟩ (λy s=>∃w,T9 jy 0 (J (y,s))=J (w,[])/\w= .d (R6 (U9 ts x))):=by
 obtain ⟨cs,ids',hl,hR,hsub,aZ4,_⟩:=Bh.lv hW;have hin:i<n:=by grind
 have hit:x.Q0.toNat=i:=V
 have hok:KV (w i) l:=by rw [<- hl0];exact hT i V
 have hwi:=hw i hin;have hav:=CX l (uq x);rw [ha] at hav;have hP:U9 ts x=ts.set i (O2 l a x):=by simp_all [U9]
 have hPl:=tK (a:=a) (c:=x) hok hav.1 λe=>by rw [hx.row,if_pos e,hit]
 have nC:∀p,ts.set i p=ts.take i++p::ts.drop (i+1):=λp=>Kk V p
 have sizes:∀t∈U9 ts x,O t<100000/\∀r∈t,O r.row<100000/\O r.seq<100000:=λt ht=>by
  obtain ⟨j,hj,rfl⟩:=E0 ht;have hp:=lV hT hn hx;have hj' :j<n:=V
  have:=hp.1 j V;rw [A7 hj] at this;have hwj:=hw j hj';exact ⟨by have:=this.1;omega,λr hr=>by have:=this.2 r hr;omega⟩
 have WO:O (U9 ts x)=n:=(lV hT hn hx).2;have hi1:∀y∈ids',1<y/\y<O H:=λy hy=>Dh y M
 have Jv:∀y∈i0++i2,1<y/\y<O H:=λy hy=>Dh y (by grind)
 have fin:∀(H' :k8) (v' :c7) (HW :List Nat) (w0 w1 w2 w3 w5 w6 w7 w8 w9:c7),(∀y∈i0++i2,H'[y]? =H[y]?)->H'[1]? =J (.cells (oc.set i v'))->bT H' v' (O2 l a x) HW ->
   Ex A N9 0 (match jy.body with| .seq _ (.seq _ (.seq _ (.seq _ (.seq _ c))))=>c|c=>c) ⟨[w0,w1,w2,w3,.s5 1 1 0 n,w5,w6,w7,w8,w9],H'⟩ (λy s=>∃w,T9 jy 0 (J (y,s))=J (w,[])/\w= .d (R6 (U9 ts x))):=λH' v' HW u0 u1 u2 u3 u5 u6 u7 u8 u9 q1 q2 q3=>by
  have:=hput H' v' _ HW q1 q3
  grind [LJ]
 have same:O2 l a x=l->U9 ts x=ts:=λe=>by grind [QX]
 have am1:O2 l a x=l->∀(w0 w1 w2 w3 w5 w6 w7 w8 w9:c7),Ex A N9 0 (match jy.body with| .seq _ (.seq _ (.seq _ (.seq _ (.seq _ c))))=>c|c=>c) ⟨[w0,w1,w2,w3,.s5 1 1 0 n,w5,w6,w7,w8,w9],H⟩ (λy s=>∃w,T9 jy 0 (J (y,s))=J (w,[])/\w= .d (R6 (U9 ts x))):=λe u0 u1 u2 u3 u5 u6 u7 u8 u9=>by
  grind [LJ]
 have r0:rd H 0 (0+0) 1=J [.d (Z x.op)]:=aI h0 rfl;have c1:∀j,O (cs.take (j * 3))=min (j * 3) (O l * 3):=λj=>by rw [L1,hl.len]
 show Ex A N9 0 (.seq (.block 0 (.test _ _ _ (.seq (.test _ _ _ _ (.test _ _ _ (.seq _ .ret) .skip)) _) _)) _) _ _
 refine Ex.seq ?_;refine Ex.block ?_;refine Ex.dn (s7 x.op 1) ?_ (λho=>?_) (λho=>?_)
 .refine Rn.text ?_
  repeat' (first|refine KO r0 rfl ?_|refine gx ?_|refine fq (λhw=>?_) λhw=>?_|refine ⟨rfl,rfl,_,rfl,?_⟩|refine ⟨rfl,rfl⟩|fail)
  rfl
 .have RU:x.op=1:=W9 ho
  have hrow:=hx.row;rw [if_pos RU,hit] at hrow;refine Ex.seq ?_;refine Ex.dn (U4 0 a) ?_ (λh=>?_) (λh=>?_)
  .refine Rn.text ?_
   repeat' (first|refine gx ?_|refine fq (λhw=>?_) λhw=>?_|refine ⟨rfl,rfl,_,rfl,?_⟩|refine ⟨rfl,rfl⟩|fail)
   rfl
  .have h:=gU h
   obtain ⟨k,rfl⟩:∃k:Nat,a=k:=⟨a.toNat,V⟩;have hk:k<O l:=V
   have Mh:=uH hok (Int.natCast_nonneg k) V;have nL:O2 l k x=qD (ov l k) x:=by
    have e1:D0 (k:Int) 0=F:=by rw [s4];simp
    simp [O2,ho,e1]
   refine UG n k (O l) H cs _ _ _ _ _ _ _ _ _ _ hL hl hk hok.1 ?_;obtain ⟨j1,j2,q1,q2,q3,q4⟩:=hR.cut k;obtain ⟨m1,m2,p1,p2,p3,p4⟩:=hR.cut (k+1);generalize hX:[x6.dead,.dead,.cells (cs.take (k * 3)++cs.drop ((k+1) * 3))]=X;have f1:∀y,y<O H->(H++X)[y]? =H[y]? :=λy hy=>aY hy
   have all:=(q1.mono λy hy=>f1 y (hi1 y (q3 y hy)).2).append (p2.mono λy hy=>f1 y (hi1 y (p4 y hy)).2);have hXl:O (H++X)=O H+3:=by rw [<- hX];simp
   have e1:=hl.parts (k * 3) (0 * 3);have e2:=hl.parts (O l * 3) ((k+1) * 3);have c3:(cs.take (k * 3)).drop (0 * 3)=cs.take (k * 3):=U
   have c2:(cs.take (O l * 3)).drop ((k+1) * 3)=cs.drop ((k+1) * 3):=by rw [<- hl.len,D3]
   rw [c3] at e1;rw [c2] at e2;have iZ:kP (H++X) (.s5 (O H+2) 3 0 (O l - 1)) (O (ov l k)) (cs.take (k * 3)++cs.drop ((k+1) * 3)):=by
    have hcl:O (ov l k)=O l - 1:=V
    rw [hcl];refine ⟨rfl,?_,by rw [List.map_append,e1.2.2,e2.2.2],by rw [List.all_append,e1.2.1,e2.2.1];rfl,by rw [vj];omega,.inr ⟨_,rfl,?_⟩⟩
    .rw [j9,c1,List.length_drop,hl.len]
     omega
    .rw [<- hX]
     exact iY H _ 2
   have hcr:ov l k=l.take k++l.drop (k+1):=by simp [ov]
   refine NH n i (H++X) x oc _ _ (ov l k) (j1++m2) _ _ _ _ _ _ _ _ ((f1 0 V).trans h0) ((f1 1 V).trans h1) V BZ hi hin iZ (hcr ▸ all) (λy hy=>?_) (by have:=hok.1;omega) (λr hr=>by have:=(Mh.1.2 r hr).1;omega) V V (λH' v' Dr u0 u1 u2 u3 u5 u6 u7 u8 u9 t1 t2 t3=>?_)
   .rcases G4.1 hy with hy|hy
    .have:=hi1 y (q3 y hy);omega
    .have:=hi1 y (p4 y hy);omega
   .exact fin H' v' Dr _ _ _ _ _ _ _ _ _ (λy hy=>by have:=Jv y hy;rw [t1 y V V,f1 y V]) t2 (nL.symm ▸ t3)
  .have h:=nO h
   refine Ex.dn (U4 64 (O l:Int)) ?_ (λh2=>?_) (λh2=>?_)
   .refine Rn.text ?_
    refine mv ?_ ⟨rfl,hl.uC⟩;refine Ry.pure rfl (hl.at1 hl.uC) ?_
    repeat' (first|refine gx ?_|refine fq (λhw=>?_) λhw=>?_|refine ⟨rfl,rfl,_,rfl,?_⟩|refine ⟨rfl,rfl⟩|fail)
    rfl
   .have e1:D0 a 0=W:=by rw [s4];simpa using h
    have nL:O2 l a x=l:=by simp [O2,ho,e1,h2]
    have:=same nL;refine gr ?_;exact ⟨_,LP (by rw [WO];rfl) h1 (this.symm ▸ hts) V sizes,rfl⟩
   .have e1:D0 a 0=W:=by rw [s4];simpa using h
    have nL:O2 l a x=qD l x:=by simp [O2,ho,e1,h2]
    have h3:=nO h2;refine Ex.skip ?_;refine NH n i H x oc cs _ l ids' _ _ _ _ _ _ _ _ h0 h1 hL BZ hi hin hl hR (λy hy=>by have:=hi1 y hy;omega) V (λr hr=>by have:=(hok.2 r hr).1;omega) V V (λH' v' Dr u0 u1 u2 u3 u5 u6 u7 u8 u9 t1 t2 t3=>?_);exact fin H' v' Dr _ _ _ _ _ _ _ _ _ (λy hy=>by have:=Jv y hy;exact t1 y V V) t2 (nL.symm ▸ t3)
 .refine Ex.dn (D0 a 0) ?_ (λh=>?_) (λh=>?_)
  .refine Rn.text ?_
   repeat' (first|refine gx ?_|refine fq (λhw=>?_) λhw=>?_|refine ⟨rfl,rfl,_,rfl,?_⟩|refine ⟨rfl,rfl⟩|fail)
   rfl
  .have nL:O2 l a x=l:=by simp [O2,ho,h]
   refine Ex.skip ?_;exact am1 nL _ _ _ _ _ _ _ _ _
  .have h' :=A9 h
   obtain ⟨k,rfl⟩:∃k:Nat,a=k:=⟨a.toNat,V⟩;have hk:k<O l:=V
   refine Ex.dn (s7 x.op 2) ?_ (λh2=>?_) (λh2=>?_)
   .refine Rn.text ?_
    repeat' (first|refine KO r0 rfl ?_|refine gx ?_|refine fq (λhw=>?_) λhw=>?_|refine ⟨rfl,rfl,_,rfl,?_⟩|refine ⟨rfl,rfl⟩|fail)
    rfl
   .have nL:O2 l k x=Ky l k x:=by simp [O2,ho,h,h2]
    obtain ⟨j,hj⟩:∃j:Nat,x.col=j:=⟨x.col.toNat,by have:=hx.c0;omega⟩;have hj2:j<w i:=by have:=hx.c1;rw [hit] at this;omega
    rcases Bh with ⟨e,_⟩|⟨id,cs0,PX,rfl,rfl,hid,hR0⟩
    .rw [e] at hk
     cases hk
    subst LH;simp only [List.nodup_append,List.nodup_cons,G4,K2] at FW;have ap8:PX.Nodup:=FW.1.2.1.2;have hne:∀y∈PX,y≠id:=λy hy e=>FW.1.2.1.1 (e ▸ hy)
    obtain ⟨ra,rb,g1,g2,g3,g4,g5,g6,g7,g8⟩:=hR0.dF ap8 hk;have hrk:=hok.2 _ (E7 hk);have hRa:=Dh ra (by simp [g3]);have hRb:=Dh rb (by simp [g4]);refine UY n k (O l) j id ra rb H x (Y l k) cs0 _ _ _ _ _ _ _ _ h0 hj hid hk g1 g2 g6 g7 g5 V V V ?_;generalize WV:x6.cells (bO ((Y l k).row.set j x.val))=r1;generalize Jx:x6.cells (cG ((Y l k).seq.set j x.seq))=r2;have f1:∀y,y≠ra->y≠rb->((H.set ra r1).set rb r2)[y]? =H[y]? :=λy a1 a2=>by rw [x5 (Ne.symm a2),x5 (Ne.symm a1)]
    have k1:((H.set ra r1).set rb r2)[ra]? =J r1:=by rw [x5 (Ne.symm g5),E6 V]
    have k2:((H.set ra r1).set rb r2)[rb]? =J r2:=by rw [E6 D]
    have all:=g8 ((H.set ra r1).set rb r2) ((Y l k).row.set j x.val) ((Y l k).seq.set j x.seq) U U (by rw [WV];exact k1) (by rw [Jx];exact k2) λy _ a1 a2=>f1 y a1 a2
    have eu:Ky l k x=l.set k ⟨(Y l k).row.set j x.val,(Y l k).seq.set j x.seq,(Y l k).day⟩:=by simp [Ky,hj]
    have PC:bT ((H.set ra r1).set rb r2) (.s5 id 3 0 (O l)) (O2 l k x) (id::PX):= .inr ⟨id,cs0,PX,by rw [nL,eu,List.length_set],rfl,(f1 id (hne ra g3).symm (hne rb g4).symm).trans hid,by rw [nL,eu];exact all⟩;refine fin _ _ _ _ _ _ _ _ _ _ _ _ (λy hy=>f1 y ?_ ?_) ((f1 1 V V).trans (by rw [qL hv];exact h1)) PC
    .rintro rfl
     rcases G4.1 hy with hy|hy
     .exact FW.1.2.2 _ hy _ (.inr g3) rfl
     .exact FW.2.2 _ (.inr (.inr g3)) _ hy rfl
    .rintro rfl
     rcases G4.1 hy with hy|hy
     .exact FW.1.2.2 _ hy _ (.inr g4) rfl
     .exact FW.2.2 _ (.inr (.inr g4)) _ hy rfl
   .have nL:O2 l k x=ov l k:=by simp [O2,ho,h,h2]
    refine Te n i k (O l) H x oc cs _ _ _ _ _ _ _ _ h0 h1 hL BZ hi hin hl hk hok.1 ?_;obtain ⟨j1,j2,q1,q2,q3,q4⟩:=hR.cut k;obtain ⟨m1,m2,p1,p2,p3,p4⟩:=hR.cut (k+1);have Mh:=uH hok (Int.natCast_nonneg k) V;generalize hX:[x6.dead,.dead,.cells (cs.take (k * 3)++cs.drop ((k+1) * 3))]=X;generalize hc:x6.cells (oc.set i (.s5 (O H+2) 3 0 (O l - 1)))=c0;have f2:∀y,y<O H->y≠1->(H.set 1 c0++X)[y]? =H[y]? :=λy hy hne=>by rw [aY (by simpa using hy),x5 (Ne.symm hne)]
    have all:=(q1.mono λy hy=>by have:=hi1 y (q3 y hy);exact f2 y this.2 V).append (p2.mono λy hy=>by have:=hi1 y (p4 y hy);exact f2 y this.2 V);have hcr:ov l k=l.take k++l.drop (k+1):=by simp [ov]
    have hX2:(H.set 1 c0++X)[O H+2]? =J (.cells (cs.take (k * 3)++cs.drop ((k+1) * 3))):=by
     have:=iY (H.set 1 c0) X 2;rw [List.length_set] at this;rw [this,<- hX];rfl
    have PC:bT (H.set 1 c0++X) (.s5 (O H+2) 3 0 (O l - 1)) (O2 l k x) ((O H+2)::(j1++m2)):= .inr ⟨_,_,_,by
     have:O (O2 l k x)=O l - 1:=by rw [nL];omega
     rw [this],rfl,hX2,by rw [nL,hcr];exact all⟩
    refine fin _ _ _ _ _ _ _ _ _ _ _ _ (λy hy=>by have:=Jv y hy;exact f2 y V V) ?_ PC;rw [aY D,E6 V,hc]
def au9 (w:Nat->Nat)(n:Nat)(ts:List (List S5))(x:eY)(hn:O ts=n)(hn2:n<=1000)(hT:Rt w ts)(hx:Zw n w x)(hw:∀i,i<n->1<=w i/\w i<=100):Pf A 123 [.d (R6 ts),.agg (x.enc.map .d)] (.d (R6 (U9 ts x))):=by
 subst hn;obtain ⟨i,hi⟩:∃i:Nat,x.Q0=i:=⟨x.Q0.toNat,by have:=hx.t0;omega⟩;have hin:i<O ts:=by have:=hx.t1;omega
 have hit:x.Q0.toNat=i:=V
 have hok:=hT i V;obtain ⟨v0,H,⟨rfl,h0,oc,ids,hC⟩,pc⟩:=Wg ts (.cells (x.enc.map .d)) (pg x.enc) V (λj hj=>me (by have:=(hT j hj).1;omega)) (λj hj k hk=>by
  have h1:=(hT j hj).2 _ (E7 hk);have h2:=hw j V;exact ⟨decide_eq_true (o5 (F8 _ (show 2 * O (Y (Y ts j) k).row+512<=2512 by omega)) (by decide)),SC V⟩)
 obtain ⟨h1,Wt,RS,hlt,PT⟩:=hC;have hW:C9 H<=O H:=V
 have h1L:=wT h1;have BZ:O oc=O ts:=Wt.len;have Wu :=Wt;rw [Kn (by omega:i<O ts)] at Wu;obtain ⟨v,i0,i1,i2,ev,LH,Bh,hput⟩:=Wu.split;have eA:O (ts.take i)=i:=by rw [L1];omega
 rw [eA] at ev hput;obtain ⟨cs,ids',hl,hR,hsub,_,hform⟩:=Bh.lv hW;have rest:=QO w (O ts) i (kC (Y ts i) (uq x)) ts x (Y ts i) H oc v ids i0 i1 i2 (.d (R6 ts)) (.agg (x.enc.map .d)) .any .any .any rfl hn2 hT hx hw hi rfl rfl h0 h1 V BZ Wt (λy hy=>hlt y hy) RS hW LH ev Bh hput;have r3:rd H 0 (0+3) 1=J [.d (Z x.Q0)]:=aI h0 rfl;have rv:rd H 1 (0+x.Q0.toNat * 1) 1=J [v]:=aI h1 (by rw [hit];simpa using ev);have r12:rd H 0 0 12=J (x.enc.map .d):=by simp [rd,h0,eY.enc]
 have hrow:x.op=1->0<O x.row:=λe=>by
  have:=hx.row;rw [if_pos e,hit] at this;have:=(hw i hin).1;omega
 have pk:=Um x hrow;refine Pf.go 8 ?_;refine Ex.seq ?_;refine Ex.region (Rn.text ?_);refine gx ?_;refine mn (h2:=?_);refine gx ?_;refine Ex.seq ?_;refine Ex.region (Rn.text ?_);refine gx ?_;refine cp pc (by show 1<=O H;omega) ?_;refine gx ?_;refine gx ?_;refine Ex.seq ?_;refine Ex.region (Rn.text ?_);refine gx ?_;refine gx ?_;refine KO r3 rfl ?_;refine KN (e:=x.Q0) (len:=O ts) V ?_;refine lpa rv rfl ?_;refine mt (hx:=⟨rfl,hl.uC⟩) (h2:=?_);refine gx ?_;refine Ex.seq ?_;refine Ex.region (Rn.text ?_);refine mv ?_ ⟨rfl,hl.uC⟩;refine Il r12 rfl ?_;refine cl pk ?_
 rcases hform with e|⟨id,hid,e⟩
 .have h00:O (Y ts i)=0:=by
   rcases hl.xY with ⟨_,h⟩|⟨id,h,_⟩
   .exact h
   .rw [e] at h
    cases h
  have pz:=Uo (Y ts i) (uq x) V;have ez:ux (Y ts i)= .slice 0 []:=by rw [List.eq_nil_of_length_eq_zero h00];rfl
  rw [ez] at pz;refine cl pz ?_ (ha:=?_)
  .refine gx ?_
   refine gx ?_;exact rest
  .show [v.I7.I7,.agg ((uq x).enc.map .d)]=_
   rw [e];rfl
 .have ao9:H[id]? =J (.cells cs):=by
   rcases hl.xY with ⟨h,_⟩|⟨id',h,h'⟩
   .rw [e] at h
    cases h
   .rw [e] at h
    cases h;exact h'
  have hmem:id∈ids:=by rw [LH];simp [hid]
  obtain ⟨tp1,tp2⟩:=PT.resolve_left λh=>by rw [h.1] at hmem;cases hmem
  have PI:=hlt id hmem;obtain ⟨_,_,⟨rfl,rfl⟩,pf⟩:=XL H ⟨0,O H,O H,B1 H 0 (O H)⟩ id cs ids' (Y ts i) (uq x) (by have:=hok.1;omega) ao9 hR λy hy=>(hlt y (by rw [LH];simp [hsub y hy])).2
  have eb:A2 [c7.s5 id 3 0 (O (Y ts i)),.agg ((uq x).enc.map .d)]=id+1:=by simp [A2,c7.H7,pg]
  refine c1 pf rfl ?_ (by rw [D3];exact hW) ?_ (D3 ..) (Nat.ble_eq_true_of_le (k9 _)) rfl ?_
  .refine gx ?_
   refine gx ?_;exact rest
  .rw [eb]
   have:=FC h1 (n:=id+1) V V V 6;rw [tp2] at this;exact this
  .show [v.I7.I7,.agg ((uq x).enc.map .d)]=_
   rw [e];rfl
end Go.Proofs.YtibjocmpkoepoaaGreat


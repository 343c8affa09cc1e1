import Derived.Test.YtibjocmpkoepoaaGreatE2
set_option linter.all false
open Bool renaming and_eq_true → c9, not_eq_false' → O1, not_eq_true' → o8, not_false → M0, or_eq_false_iff → E6
open List renaming cons_append → B7, drop_of_length_le → n5, length_append → n9, length_map → A1, nil_append → B9, take_of_length_le → A8
open Nat renaming le_of_ble_eq_true → k9, lt_or_ge → s5
namespace Go.Proofs.YtibjocmpkoepoaaGreat.nc
open Go.Abs Go.Abs.S
attribute [local irreducible] Rx Ry Rn Ex Pf
structure XO where
 x:Int
abbrev xo [Inhabited XO]:x9:= .cells [.d (num (default:XO).x)]
variable [Inhabited XO]
def HH (c:y4)(ds:List L0)(ss:List eU):q8 :=
 [.cells (c.enc.map .d),xo,.cells (c.enc.map .d),.map (dmap ds),.map (W5 (ss.map (·.1)) 0),.cells (c.enc.map .d++[.map 3,.map 4,C9 2 L3 ss])]
def lW:F2:=⟨0,0,6,6⟩
def lR:F2:=⟨0,6,6,6⟩
def Ir (c:y4)(ds:List L0)(ss:List eU)(s:L0):Pm A 125 [.ptr 5 0,.d (.str s)] (HH c ds ss) lR (.d (num (J2 s (ss.map (·.1)) 0))) (HH c ds ss):=by
 have hf:=uU s (ss.map (·.1)) 0
 suffices h:Pq A 125 [.ptr 5 0,.d (.str s)] (HH c ds ss) lR fun v H1=>v= .d (num (J2 s (ss.map (·.1)) 0))/\H1=HH c ds ss by
  obtain ⟨v,H1,⟨rfl,rfl⟩,h⟩:=h;exact h
 unfold HH;refine Pq.run (b:=6) [.ptr 5 0,.d (.str s),.any,.any,.any] rfl rfl rfl rfl rfl ?_;cases h1:F3 (J2 s (ss.map (·.1)) 0) 0 with
 |true =>
  rw [h1,if_pos rfl] at hf;have h2:=C6 h1;have h3:J2 s (ss.map (·.1)) 0= -1:=by rcases fH s (ss.map (·.1)) 0 with h|h<;>omega
  repeat' (first|refine lk2 hf rfl rfl ?_|refine gx ?_|fail)
  refine tb (false) (fun h4=> ?_) (fun h4=> ?_)
  .cases h4
  refine gr ?_;exact ⟨_,_,rfl,by rw [h3];rfl,rfl⟩
 |false =>
  rw [h1,if_neg (by simp)] at hf
  repeat' (first|refine lk2 hf rfl rfl ?_|refine gx ?_|fail)
  refine tb (true) (fun h4=> ?_) (fun h4=> ?_)
  .refine gr ?_
   exact ⟨_,_,rfl,rfl,rfl⟩
  .cases h4
end Go.Proofs.YtibjocmpkoepoaaGreat.nc
namespace Go.Proofs.YtibjocmpkoepoaaGreat.nc
open Go.Abs Go.Abs.S
attribute [local irreducible] Rx Ry Rn Ex Pf
variable [Inhabited XO]
def Io (c:y4)(ds:List L0)(ss:List eU)(s:L0):Pm A 209 [.ptr 5 0,.d (.str s)] (HH c ds ss) lW (.d (num (O9 ds s))) (HH c (L8 ds s) ss):=by
 have hf:=uI s ds
 suffices h:Pq A 209 [.ptr 5 0,.d (.str s)] (HH c ds ss) lW fun v H1=>v= .d (num (O9 ds s))/\H1=HH c (L8 ds s) ss by
  obtain ⟨v,H1,⟨rfl,rfl⟩,h⟩:=h;exact h
 unfold HH;refine Pq.run (b:=6) [.ptr 5 0,.d (.str s),.any] rfl rfl rfl rfl rfl ?_;have h10:u0 3 0=false:=by simp [o9]
 have h11:u0 4 0=false:=by simp [o9]
 have h12:u0 0 0=true:=by simp [o9]
 refine gr ?_;refine tB (!G7 s) ?_ (fun h1=> ?_) (fun h1=> ?_)
 .repeat' (first|refine cl (Dj _) ?_|refine gx ?_|refine fk (h1:=fun hw=> ?_) (h2:=fun hw=> ?_)|refine U0 (h1:=fun hw=> ?_) (h2:=fun hw=> ?_)|refine ⟨rfl,rfl,_,rfl,?_⟩|refine ⟨rfl,rfl⟩|fail)
  all_goals exact cc
 .refine gr ?_
  have e1:O9 ds s=3:=by unfold O9;rw [h1];rfl
  exact ⟨_,_,rfl,by rw [e1];rfl,by unfold L8;rw [e1,h10];rfl⟩
 cases h2:ds.any fun y=>L4 y s with
 |true =>
  rw [h2,if_pos rfl] at hf;have e1:O9 ds s=4:=by unfold O9;rw [h1,h2];rfl
  refine tB (true) ?_ (fun h3=> ?_) (fun h3=> ?_)
  .repeat' (first|refine lk1 hf rfl ?_|refine gx ?_|refine fk (h1:=fun hw=> ?_) (h2:=fun hw=> ?_)|refine U0 (h1:=fun hw=> ?_) (h2:=fun hw=> ?_)|refine ⟨rfl,rfl,_,rfl,?_⟩|refine ⟨rfl,rfl⟩|fail)
   all_goals exact cc
  .refine gr ?_
   exact ⟨_,_,rfl,by rw [e1];rfl,by unfold L8;rw [e1,h11];rfl⟩
  .cases h3
 |false =>
  rw [h2,if_neg (by simp)] at hf;have e1:O9 ds s=0:=by unfold O9;rw [h1,h2];rfl
  have hk:Data.aW .s (.str s) (.str s)=some true:=by simp [Data.aW]
  refine tB (false) ?_ (fun h3=> ?_) (fun h3=> ?_)
  .repeat' (first|refine lk1 hf rfl ?_|refine gx ?_|refine fk (h1:=fun hw=> ?_) (h2:=fun hw=> ?_)|refine U0 (h1:=fun hw=> ?_) (h2:=fun hw=> ?_)|refine ⟨rfl,rfl,_,rfl,?_⟩|refine ⟨rfl,rfl⟩|fail)
   all_goals exact cc
  .cases h3
  repeat' (first|refine mp (zf s ds h2) hk (h2:= ?_)|refine gx ?_|fail)
  exact ⟨_,_,rfl,by rw [e1];rfl,by unfold L8;rw [e1,h12];rfl⟩
def Am (c:y4)(ds:List L0)(ss:List eU)(s:L0)(nm:List L0)(ty:List Int)(hs:((ss.map (·.1)).any fun y=>L4 y s)=false)(hl:ss.length<=1000) :
  Pm A 212 [.ptr 5 0,.d (.str s),qu nm ty] (HH c ds ss) lW (.tuple []) (HH c ds (ss++[(s,nm,ty)])):=by
 have hput:=Ac s (ss.map (·.1)) 0 hs;rw [A1,Nat.zero_add] at hput;have hk:Data.aW .s (.str s) (.str s)=some true:=by simp [Data.aW]
 have hr:roomFor (ss.length+1) 48=true:=by simp only [roomFor,decide_eq_true_eq];omega
 suffices h:Pq A 212 [.ptr 5 0,.d (.str s),qu nm ty] (HH c ds ss) lW fun v H1=>v= .tuple []/\H1=HH c ds (ss++[(s,nm,ty)]) by
  obtain ⟨v,H1,⟨rfl,rfl⟩,h⟩:=h;exact h
 unfold HH;refine Pq.run (b:=6) [.ptr 5 0,.d (.str s),qu nm ty,.any] rfl rfl rfl rfl rfl ?_
 repeat' (first|refine mp hput hk (h2:= ?_)|refine o2 ?_|refine ac2 (a:=(s,nm,ty)) (xs:=ss) (enc:=L3) hr rfl (h2:= ?_)|refine soO (h2:= ?_)|refine gx ?_|fail)
 refine ⟨_,_,rfl,rfl,?_⟩;have e:((ss++[(s,nm,ty)]).map (·.1))=ss.map (·.1)++[s]:=by simp
 rw [e];rfl
end Go.Proofs.YtibjocmpkoepoaaGreat.nc
namespace Go.Proofs.YtibjocmpkoepoaaGreat.nc
open Go.Abs Go.Abs.S
attribute [local irreducible] Rx Ry Rn Ex Pf
variable [Inhabited XO]
def l9:F2:=⟨0,0,10,10⟩
def TS:F2:=⟨0,10,10,10⟩
def UA (a0 ax a1 a2 a3 a4 a5 a7:x9)(ty:List Int)(x:Gp)(h0:x.expr.length<=1000)(h1:ty.length<=100000) :
  Pm A 257 [.ptr 9 0,.ptr 7 0] [a0,ax,a1,a2,a3,a4,a5,.cells [.d (ints ty)],a7,.cells (x.enc.map .d)] TS (pair (H7 x.expr ty)) [a0,ax,a1,a2,a3,a4,a5,.cells [.d (ints ty)],a7,.cells (x.enc.map .d)]:=by
 have _x:=(default:XO);have p1:=Ik x.expr ty h0 h1;unfold pair at *
 suffices h:Pq A 257 [.ptr 9 0,.ptr 7 0] [a0,ax,a1,a2,a3,a4,a5,.cells [.d (ints ty)],a7,.cells (x.enc.map .d)] TS fun v H1=>v= .tuple [.d (num (H7 x.expr ty).1),.d (num (H7 x.expr ty).2)]/\H1=[a0,ax,a1,a2,a3,a4,a5,.cells [.d (ints ty)],a7,.cells (x.enc.map .d)] by
  obtain ⟨v,H1,⟨rfl,rfl⟩,h⟩:=h;exact h
 refine Pq.run (b:=10) [.ptr 9 0,.ptr 7 0,.any,.any] rfl rfl rfl rfl rfl ?_
 repeat' (first|refine cl (p1) ?_|refine gx ?_|fail)
 exact ⟨_,_,rfl,rfl,rfl⟩
def UB (a0 ax a1 a2 a3 a4 a5 a7:x9)(ty:List Int)(x:BM)(h0:x.expr.length<=1000)(h1:ty.length<=100000) :
  Pm A 258 [.ptr 9 0,.ptr 7 0] [a0,ax,a1,a2,a3,a4,a5,.cells [.d (ints ty)],a7,.cells (x.enc.map .d)] TS (pair (cC ty x)) [a0,ax,a1,a2,a3,a4,a5,.cells [.d (ints ty)],a7,.cells (x.enc.map .d)]:=by
 have _x:=(default:XO);have p1:=aa0 ty x h0 h1;unfold pair at *
 suffices h:Pq A 258 [.ptr 9 0,.ptr 7 0] [a0,ax,a1,a2,a3,a4,a5,.cells [.d (ints ty)],a7,.cells (x.enc.map .d)] TS fun v H1=>v= .tuple [.d (num (cC ty x).1),.d (num (cC ty x).2)]/\H1=[a0,ax,a1,a2,a3,a4,a5,.cells [.d (ints ty)],a7,.cells (x.enc.map .d)] by
  obtain ⟨v,H1,⟨rfl,rfl⟩,h⟩:=h;exact h
 refine Pq.run (b:=10) [.ptr 9 0,.ptr 7 0,.any,.any] rfl rfl rfl rfl rfl ?_
 repeat' (first|refine cl (p1) ?_|refine gx ?_|fail)
 exact ⟨_,_,rfl,rfl,rfl⟩
set_option maxHeartbeats 8000000 in
def Ip (f:FuncId)(hf1:A.prom f=false)(hf2:A.mode f=1)(a0 ax a1 a2 a3 a4 a5:x9)(ty:List Int)(nm:List L0)(tys:List Int)(cs:List Abs.Data)(s:L0)(r:Int×Int)(hn:nm.length<=10000)(ht:tys.length<=10000)
  (hc:∀ a7,Pm A f [.ptr 9 0,.ptr 7 0] [a0,ax,a1,a2,a3,a4,a5,.cells [.d (ints ty)],a7,.cells (cs.map .d)] TS (pair r) [a0,ax,a1,a2,a3,a4,a5,.cells [.d (ints ty)],a7,.cells (cs.map .d)]) :
  Pm A 256 [.ptr 8 0,.d (.str s),.func f [] [.ptr 9 0,.ptr 7 0]] [a0,ax,a1,a2,a3,a4,a5,.cells [.d (ints ty)],.cells (kN nm tys),.cells (cs.map .d)] l9 (.d (num (aI nm s r)))
   [a0,ax,a1,a2,a3,a4,a5,.cells [.d (ints ty)],.cells (kN (kj nm s r) (kr nm tys s r)),.cells (cs.map .d)]:=by
 have _x:=(default:XO);have p1:=hc (.cells (kN nm tys));have p2:=ZV nm s (by omega);unfold pair at p1
 suffices h:Pq A 256 [.ptr 8 0,.d (.str s),.func f [] [.ptr 9 0,.ptr 7 0]] [a0,ax,a1,a2,a3,a4,a5,.cells [.d (ints ty)],.cells (kN nm tys),.cells (cs.map .d)] l9 fun v H1=>v= .d (num (aI nm s r))/\H1=[a0,ax,a1,a2,a3,a4,a5,.cells [.d (ints ty)],.cells (kN (kj nm s r) (kr nm tys s r)),.cells (cs.map .d)] by
  obtain ⟨v,H1,⟨rfl,rfl⟩,h⟩:=h;exact h
 have same:∀ e,aI nm s r=e->u0 e 0=false->kj nm s r=nm/\kr nm tys s r=tys:=fun e h1 h2=>by unfold kj kr;rw [h1,h2];exact ⟨rfl,rfl⟩
 have hr1:roomFor (nm.length+1) 16=true:=by simp only [roomFor,decide_eq_true_eq];omega
 have WS:roomFor (tys.length+1) 8=true:=by simp only [roomFor,decide_eq_true_eq];omega
 refine Pq.run (b:=10) [.ptr 8 0,.d (.str s),.func f [] [.ptr 9 0,.ptr 7 0],.any,.any,.any] rfl rfl rfl rfl rfl ?_;refine gr ?_;refine tB (!G7 s) ?_ (fun h1=> ?_) (fun h1=> ?_)
 .repeat' (first|refine cl (Dj _) ?_|refine gx ?_|refine fk (h1:=fun hw=> ?_) (h2:=fun hw=> ?_)|refine U0 (h1:=fun hw=> ?_) (h2:=fun hw=> ?_)|refine ⟨rfl,rfl,_,rfl,?_⟩|refine ⟨rfl,rfl⟩|fail)
  all_goals exact cc
 .have e1:aI nm s r=3:=by unfold aI;rw [h1];rfl
  have e2:=same 3 e1 (by simp [o9]);refine gr ?_;exact ⟨_,_,rfl,by rw [e1];rfl,by rw [e2.1,e2.2];rfl⟩
 unfold kN;refine gr ?_;refine tB (nm.any fun y=>L4 y s) ?_ (fun h2=> ?_) (fun h2=> ?_)
 .repeat' (first|refine cl (p2) ?_|refine gx ?_|refine fk (h1:=fun hw=> ?_) (h2:=fun hw=> ?_)|refine U0 (h1:=fun hw=> ?_) (h2:=fun hw=> ?_)|refine ⟨rfl,rfl,_,rfl,?_⟩|refine ⟨rfl,rfl⟩|fail)
  all_goals exact cc
 .have e1:aI nm s r=4:=by unfold aI;rw [h1,h2];rfl
  have e2:=same 4 e1 (by simp [o9]);refine gr ?_;exact ⟨_,_,rfl,by rw [e1];rfl,by rw [e2.1,e2.2];rfl⟩
 unfold kN at p1
 repeat' (first|refine cv1 (gI:=hf1) (hm:=hf2) p1 rfl ?_|refine gx ?_|fail)
 refine tb (!u0 r.2 0) (fun h3=> ?_) (fun h3=> ?_)
 .have e1:aI nm s r=r.2:=by unfold aI;rw [h1,h2,h3];rfl
  have e2:=same _ e1 (by simpa using h3);refine gr ?_;exact ⟨_,_,rfl,by rw [e1];rfl,by rw [e2.1,e2.2];rfl⟩
 have e1:aI nm s r=0:=by unfold aI;rw [h1,h2,h3];rfl
 have e2:kj nm s r=nm++[s]:=by unfold kj;rw [e1];simp [o9]
 have e3:kr nm tys s r=tys++[r.1]:=by unfold kr;rw [e1];simp [o9]
 refine gr ?_;refine ac1 (a:=s) (xs:=nm) (enc:=encS) hr1 rfl (h2:= ?_);refine gr ?_;refine ac1 (a:=r.1) (xs:=tys) (enc:=fun n=>[num n]) WS rfl (h2:= ?_)
 repeat' (first|refine soO (h2:= ?_)|refine gx ?_|fail)
 exact ⟨_,_,rfl,by rw [e1];rfl,by rw [e2,e3];rfl⟩
end Go.Proofs.YtibjocmpkoepoaaGreat.nc
namespace Go.Proofs.YtibjocmpkoepoaaGreat.nc
open Go.Abs Go.Abs.S
attribute [local irreducible] Rx Ry Rn Ex Pf
variable [Inhabited XO]
set_option maxHeartbeats 32000000 in
def Ux (c:y4)(ds:List L0)(ss:List eU)(v:Vw)(L R:List Int)(hL:L.length<=5000)(hR:R.length<=5000)(h0:v.on.length<=1000)(h1:v.wh.length<=1000)(h2:v.items.length<=1000)(h3:v.D2.length<=1000)(h4:∀ i,i<v.items.length->(nth v.items i).expr.length<=1000)(h5:∀ i,i<v.D2.length->(nth v.D2 i).expr.length<=1000)
  (hs:((ss.map (·.1)).any fun y=>L4 y v.name)=false) (hss:ss.length<=1000):Pm A 221 [.ptr 5 0,vw v,.d (ints L),.d (ints R)] (HH c ds ss) lW (.d (num (Z2 v L R))) (HH c ds (mT ss v L R)):=by
 suffices h:Pq A 221 [.ptr 5 0,vw v,.d (ints L),.d (ints R)] (HH c ds ss) lW fun w H1=>w= .d (num (Z2 v L R))/\H1=HH c ds (mT ss v L R) by
  obtain ⟨w,H1,⟨rfl,rfl⟩,h⟩:=h;exact h
 have same:∀ e,Z2 v L R=e->u0 e 0=false->mT ss v L R=ss:=fun e g1 g2=>by unfold mT;rw [g1,g2];rfl
 have Aj:=Am c ds ss v.name ((Z8 v).map yy.name) (W8 v (L++R)) hs hss;have Uo:=ZZ [L,R] (by simp) (by
  intro i hi
  match i,hi with
  |0,_=>rw [U9];omega
  |1,_=>rw [oc,U9];omega)
 have pW:=Ik v.wh (L++R) h1 (by simp;omega);unfold pair at pW;have hfl:[L,R].flatten=L++R:=by simp
 rw [hfl] at Uo;have hTl:(L++R).length<=100000:=by simp;omega
 unfold HH at *
 refine Pq.run (b:=6) [.ptr 5 0,vw v,.d (ints L),.d (ints R),.any,.any,.any,.any,.any,.any,.any,.any,.any,.any,.any,.any,.any,.any,.any,.any,.any,.any,.any,.any] rfl rfl rfl rfl rfl ?_;refine gr ?_;refine Ex.X8 (fun k T H=>∃ (i:Nat),T=[.ptr 5 0,.any,.d (ints L),.d (ints R),.ptr 6 0,.any,.any,.any,.any,.any,.any,.any,.any,.any,.any,.d (A5 (fun p=>[num p.1,num p.2]) v.on),.d (num v.on.length),.d (num i),.any,.any,.any,.any,.any,.any]/\H=[.cells (c.enc.map .d),xo,.cells (c.enc.map .d),.map (dmap ds),.map (W5 (ss.map (·.1)) 0),.cells (c.enc.map .d++[.map 3,.map 4,C9 2 L3 ss]),.cells (v.enc.map .d)]/\i+k=v.on.length/\I4 L R v.on=I4 L R (v.on.drop i)) ?_ (k:=v.on.length) ⟨0,rfl,rfl,by simp,by simp⟩;rintro k _ _ ⟨i,rfl,rfl,hk,hi⟩;refine Ex.seq ?_;refine tb (F3 i v.on.length) (fun g1=> ?_) (fun g1=> ?_)
 .have g2:=C6 g1
  rw [D4 (by omega)] at hi;refine gr ?_;refine tB (!A4 (nth v.on i).1 0 (L.length - 1)|| !A4 (nth v.on i).2 0 (R.length - 1)) ?_ (fun g3=> ?_) (fun g3=> ?_)
  .repeat' (first|refine cl (Ij _ _ _) ?_|refine gx ?_|refine fk (h1:=fun hw=> ?_) (h2:=fun hw=> ?_)|refine U0 (h1:=fun hw=> ?_) (h2:=fun hw=> ?_)|refine ⟨rfl,rfl,_,rfl,?_⟩|refine ⟨rfl,rfl⟩|fail)
   all_goals exact cc
  .have e1:I4 L R v.on=3:=by rw [hi,I4,g3];rfl
   have e2:Z2 v L R=3:=by unfold Z2;rw [e1];simp [o9]
   refine gr ?_;exact ⟨_,_,rfl,by rw [e2];rfl,by rw [same 3 e2 (by simp [o9])];rfl⟩
  have g4:=g3;simp [A4,y3] at g4;refine gr ?_;refine tb (!u0 (nth L (nth v.on i).1.toNat) (nth R (nth v.on i).2.toNat)) (fun g5=> ?_) (fun g5=> ?_)
  .have e1:I4 L R v.on=5:=by rw [hi,I4,g3,g5];rfl
   have e2:Z2 v L R=5:=by unfold Z2;rw [e1];simp [o9]
   refine gr ?_;exact ⟨_,_,rfl,by rw [e2];rfl,by rw [same 5 e2 (by simp [o9])];rfl⟩
  .refine gr ?_
   exact ⟨k - 1,by omega,_,_,rfl,i+1,rfl,rfl,by omega,by rw [hi,I4,g3,g5];rfl⟩
 have g2:=C5 g1;rw [n5 (by omega)] at hi;have e0:(!u0 (I4 L R v.on) 0)=false:=by rw [hi];simp [I4,o9]
 clear g1 g2 hk hi
 repeat' (first|refine cl (Uo) ?_|refine gx ?_|fail)
 refine Ex.Oh (fun s=>∃ (w1 w2 w3 w5 w6 w8 w9 oE mM Ol VI VJ w15 w16 w17 w18 w19 Za Zb Zc Zd:j3),s=⟨[.ptr 5 0,w1,w2,w3,.ptr 6 0,w5,w6,.ptr 7 0,w8,w9,oE,mM,Ol,VI,VJ,w15,w16,w17,w18,w19,Za,Zb,Zc,Zd],[.cells (c.enc.map .d),xo,.cells (c.enc.map .d),.map (dmap ds),.map (W5 (ss.map (·.1)) 0),.cells (c.enc.map .d++[.map 3,.map 4,C9 2 L3 ss]),.cells (v.enc.map .d),.cells [.d (ints (L++R))]]⟩/\Z2 v L R=V7 (L++R) [] (Z8 v)) ?_ ?_
 .skip
  refine tb (F3 0 v.wh.length) (fun g6=> ?_) (fun g6=> ?_)
  .repeat' (first|refine cl (pW) ?_|refine gx ?_|fail)
   refine tb (!u0 (H7 v.wh (L++R)).2 0) (fun g7=> ?_) (fun g7=> ?_)
   .have e1:Z2 v L R=(H7 v.wh (L++R)).2:=by unfold Z2;rw [e0,g6,g7];rfl
    refine gr ?_;exact ⟨_,_,rfl,by rw [e1];rfl,by rw [same _ e1 (by simpa using g7)];rfl⟩
   refine gr ?_;refine tb (!u0 (H7 v.wh (L++R)).1 1) (fun g8=> ?_) (fun g8=> ?_)
   .have e1:Z2 v L R=5:=by unfold Z2;rw [e0,g6,g7,g8];rfl
    refine gr ?_;exact ⟨_,_,rfl,by rw [e1];rfl,by rw [same 5 e1 (by simp [o9])];rfl⟩
   .have e1:Z2 v L R=V7 (L++R) [] (Z8 v):=by unfold Z2;rw [e0,g6,g7,g8];rfl
    refine gr ?_;exact ⟨_,_,_,_,_,_,_,_,_,_,_,_,_,_,_,_,_,_,_,_,_,rfl,e1⟩
  .have e1:Z2 v L R=V7 (L++R) [] (Z8 v):=by unfold Z2;rw [e0,g6];rfl
   refine gr ?_;exact ⟨_,_,_,_,_,_,_,_,_,_,_,_,_,_,_,_,_,_,_,_,_,rfl,e1⟩
 rintro _ ⟨w1,w2,w3,w5,w6,w8,w9,oE,mM,Ol,VI,VJ,w15,w16,w17,w18,w19,Za,Zb,Zc,Zd,rfl,hin⟩;refine gr ?_;refine Ex.X8 (fun k T H=>∃ (i:Nat) (nm:List L0) (tys:List Int),T=[.ptr 5 0,.any,.any,.any,.ptr 6 0,.any,.any,.ptr 7 0,.any,.any,.ptr 8 0,.any,.any,.any,.any,.any,.any,.any,.d (A5 Gp.enc v.items),.d (num v.items.length),.d (num i),.any,.any,.any]/\H=[.cells (c.enc.map .d),xo,.cells (c.enc.map .d),.map (dmap ds),.map (W5 (ss.map (·.1)) 0),.cells (c.enc.map .d++[.map 3,.map 4,C9 2 L3 ss]),.cells (v.enc.map .d),.cells [.d (ints (L++R))],.cells (kN nm tys)]/\i+k=v.items.length/\nm=(v.items.take i).map Gp.name/\tys=(v.items.take i).map (fun x=>(H7 x.expr (L++R)).1)/\Z2 v L R=V7 (L++R) nm ((Z8 v).drop i)) ?_ (k:=v.items.length) ⟨0,[],[],rfl,rfl,by simp,by simp,by simp,by simpa using hin⟩;rintro k _ _ ⟨i,nm,tys,rfl,rfl,hk,hnm,xU,hi⟩;have Tq:nm.length=i:=by rw [hnm];simp;omega
 have mK:tys.length=i:=by rw [xU];simp;omega
 refine Ex.seq ?_;refine tb (F3 i v.items.length) (fun g1=> ?_) (fun g1=> ?_)
 .have g2:=C6 g1
  have hel:=gj v;rw [D4 (by omega),oW v (by omega),nC] at hi;have Mc:=Ip 257 rfl rfl (.cells (c.enc.map .d)) xo (.cells (c.enc.map .d)) (.map (dmap ds)) (.map (W5 (ss.map (·.1)) 0)) (.cells (c.enc.map .d++[.map 3,.map 4,C9 2 L3 ss])) (.cells (v.enc.map .d)) (L++R) nm tys (nth v.items i).enc (nth v.items i).name (H7 (nth v.items i).expr (L++R)) (by omega) (by omega) (fun a7=>UA (.cells (c.enc.map .d)) xo (.cells (c.enc.map .d)) (.map (dmap ds)) (.map (W5 (ss.map (·.1)) 0)) (.cells (c.enc.map .d++[.map 3,.map 4,C9 2 L3 ss])) (.cells (v.enc.map .d)) a7 (L++R) (nth v.items i) (h4 i (by omega)) hTl)
  repeat' (first|refine c0 Mc rfl (h2:= ?_)|refine gx ?_|fail)
  refine tb (!u0 (aI nm (nth v.items i).name (H7 (nth v.items i).expr (L++R))) 0) (fun g3=> ?_) (fun g3=> ?_)
  .rw [g3,if_pos rfl] at hi
   refine gr ?_;exact ⟨_,_,rfl,by rw [hi];rfl,by rw [same _ hi (by simpa using g3)];rfl⟩
  .rw [g3,if_neg (by simp)] at hi
   have e1:u0 (aI nm (nth v.items i).name (H7 (nth v.items i).expr (L++R))) 0=true:=by simpa using g3
   have e2:kj nm (nth v.items i).name (H7 (nth v.items i).expr (L++R))=nm++[(nth v.items i).name]:=by unfold kj;rw [e1];rfl
   have e3:kr nm tys (nth v.items i).name (H7 (nth v.items i).expr (L++R))=tys++[(H7 (nth v.items i).expr (L++R)).1]:=by unfold kr;rw [e1];rfl
   rw [e2,e3];refine gr ?_;exact ⟨k - 1,by omega,_,_,rfl,i+1,nm++[(nth v.items i).name],tys++[(H7 (nth v.items i).expr (L++R)).1],rfl,rfl,by omega,by rw [K3 (by omega),hnm];simp,by rw [K3 (by omega),xU];simp,hi⟩
 have g2:=C5 g1;rw [A8 (by omega)] at hnm xU;have hie:i=v.items.length:=by omega
 subst hie;clear g1 g2 hk;refine gr ?_;refine Ex.X8 (fun k T H=>∃ (i:Nat) (tf:List L0) (mA:List Int),T=[.ptr 5 0,.any,.any,.any,.ptr 6 0,.any,.any,.ptr 7 0,.any,.any,.ptr 8 0,.any,.any,.any,.any,.any,.any,.any,.any,.any,.any,.d (A5 BM.enc v.D2),.d (num v.D2.length),.d (num i)]/\H=[.cells (c.enc.map .d),xo,.cells (c.enc.map .d),.map (dmap ds),.map (W5 (ss.map (·.1)) 0),.cells (c.enc.map .d++[.map 3,.map 4,C9 2 L3 ss]),.cells (v.enc.map .d),.cells [.d (ints (L++R))],.cells (kN tf mA)]/\i+k=v.D2.length/\tf=nm++(v.D2.take i).map BM.name/\mA=tys++(v.D2.take i).map (su (L++R))/\Z2 v L R=V7 (L++R) tf ((Z8 v).drop (v.items.length+i))) ?_ (k:=v.D2.length) ⟨0,nm,tys,rfl,rfl,by simp,by simp,by simp,hi⟩;clear hi;rintro k _ _ ⟨i,tf,mA,rfl,rfl,hk,EV,zI,hi⟩;have hl3:tf.length=v.items.length+i:=by rw [EV,n9,Tq];simp;omega
 have hl4:mA.length=v.items.length+i:=by rw [zI,n9,mK];simp;omega
 refine Ex.seq ?_;have hel:=gj v;refine tb (F3 i v.D2.length) (fun g1=> ?_) (fun g1=> ?_)
 .have g2:=C6 g1
  rw [D4 (by omega),sO v (by omega) (by omega),Nat.add_sub_cancel_left,qx] at hi;have Mc:=Ip 258 rfl rfl (.cells (c.enc.map .d)) xo (.cells (c.enc.map .d)) (.map (dmap ds)) (.map (W5 (ss.map (·.1)) 0)) (.cells (c.enc.map .d++[.map 3,.map 4,C9 2 L3 ss])) (.cells (v.enc.map .d)) (L++R) tf mA (nth v.D2 i).enc (nth v.D2 i).name (cC (L++R) (nth v.D2 i)) (by omega) (by omega) (fun a7=>UB (.cells (c.enc.map .d)) xo (.cells (c.enc.map .d)) (.map (dmap ds)) (.map (W5 (ss.map (·.1)) 0)) (.cells (c.enc.map .d++[.map 3,.map 4,C9 2 L3 ss])) (.cells (v.enc.map .d)) a7 (L++R) (nth v.D2 i) (h5 i (by omega)) hTl)
  repeat' (first|refine c0 Mc rfl (h2:= ?_)|refine gx ?_|fail)
  refine tb (!u0 (aI tf (nth v.D2 i).name (cC (L++R) (nth v.D2 i))) 0) (fun g3=> ?_) (fun g3=> ?_)
  .rw [g3,if_pos rfl] at hi
   refine gr ?_;exact ⟨_,_,rfl,by rw [hi];rfl,by rw [same _ hi (by simpa using g3)];rfl⟩
  .rw [g3,if_neg (by simp)] at hi
   have e1:u0 (aI tf (nth v.D2 i).name (cC (L++R) (nth v.D2 i))) 0=true:=by simpa using g3
   have e2:kj tf (nth v.D2 i).name (cC (L++R) (nth v.D2 i))=tf++[(nth v.D2 i).name]:=by unfold kj;rw [e1];rfl
   have e3:kr tf mA (nth v.D2 i).name (cC (L++R) (nth v.D2 i))=mA++[(cC (L++R) (nth v.D2 i)).1]:=by unfold kr;rw [e1];rfl
   have e4:u0 (cC (L++R) (nth v.D2 i)).2 0=true:=by
    have e5:=bz e1;unfold aI at e5;cases c1:(!G7 (nth v.D2 i).name) with
    |true=>rw [c1] at e5;simp at e5
    |false =>
     rw [c1] at e5;cases c2:tf.any fun y=>L4 y (nth v.D2 i).name with
     |true=>rw [c2] at e5;simp at e5
     |false =>
      rw [c2] at e5;cases c3:u0 (cC (L++R) (nth v.D2 i)).2 0 with
      |true=>rfl
      |false=>rw [c3] at e5;simp at e5;rw [e5] at c3;simp [o9] at c3
   rw [e2,e3];refine gr ?_;exact ⟨k - 1,by omega,_,_,rfl,i+1,tf++[(nth v.D2 i).name],mA++[(cC (L++R) (nth v.D2 i)).1],rfl,rfl,by omega,by rw [K3 (by omega),EV];simp,by rw [K3 (by omega),zI,MP e4];simp,hi⟩
 .have g2:=C5 g1
  rw [A8 (by omega)] at EV zI;rw [n5 (by omega)] at hi;have e1:Z2 v L R=0:=hi;have e2:mT ss v L R=ss++[(v.name,(Z8 v).map yy.name,W8 v (L++R))]:=by unfold mT;rw [e1];simp [o9]
  have e3:tf=(Z8 v).map yy.name:=by rw [EV,hnm];simp [Z8,Function.comp_def]
  have e4:mA=W8 v (L++R):=by rw [zI,xU];rfl
  rw [e2,e3,e4];refine gr ?_;unfold kN
  repeat' (first|refine c0 Aj rfl (h2:= ?_)|refine gx ?_|fail)
  exact ⟨_,_,rfl,by rw [e1];rfl,rfl⟩
end Go.Proofs.YtibjocmpkoepoaaGreat.nc
namespace Go.Proofs.YtibjocmpkoepoaaGreat.nc
open Go.Abs Go.Abs.S
attribute [local irreducible] Rx Ry Rn Ex Pf
variable [Inhabited XO]
set_option maxHeartbeats 32000000 in
def al7 (c:y4)(ds:List L0)(ss:List eU)(i:Nat)(hi:i<c.views.length)(h0:(nth c.views i).on.length<=1000)(h1:(nth c.views i).wh.length<=1000)(h2:(nth c.views i).items.length<=1000)(h3:(nth c.views i).D2.length<=1000)(h4:∀ j,j<(nth c.views i).items.length->(nth (nth c.views i).items j).expr.length<=1000)(h5:∀ j,j<(nth c.views i).D2.length->(nth (nth c.views i).D2 j).expr.length<=1000)
  (hss:ss.length<=1000) (ht:∀ k,k<ss.length->0<(nth ss k).2.1.length/\(nth ss k).2.1.length<=5000/\0<(nth ss k).2.2.length/\(nth ss k).2.2.length<=5000) (hsub:∀ s,(ds.any fun y=>L4 y s)=false->((ss.map (·.1)).any fun y=>L4 y s)=false) :
  Pm A 150 [.ptr 5 0,.d (num i)] (HH c ds ss) lW (.d (num (T7 ss ds (nth c.views i)))) (HH c (L8 ds (nth c.views i).name) (fh ss ds (nth c.views i))):=by
 generalize hx:nth c.views i=v at *
 have LS:=Io c ds ss v.name;have pL:=Ir c (L8 ds v.name) ss v.left;have pR:=Ir c (L8 ds v.name) ss v.right;have bL:=uP ss v.left;have bR:=uP ss v.right;have ak4:=ZR v h2 h3;have hno:O9 ds v.name=0->((ss.map (·.1)).any fun y=>L4 y v.name)=false:=fun h=>by
  refine hsub _ ?_;unfold O9 at h;cases c1:(!G7 v.name) with
  |true=>rw [c1] at h;simp at h
  |false =>
   rw [c1] at h;cases c2:ds.any fun y=>L4 y v.name with
   |false=>rfl
   |true=>rw [c2] at h;simp at h
 suffices h:Pq A 150 [.ptr 5 0,.d (num i)] (HH c ds ss) lW fun w H1=>w= .d (num (T7 ss ds v))/\H1=HH c (L8 ds v.name) (fh ss ds v) by
  obtain ⟨w,H1,⟨rfl,rfl⟩,h⟩:=h;exact h
 have same:∀ e,T7 ss ds v=e->u0 e 0=false->fh ss ds v=ss:=fun e g1 g2=>by unfold fh;rw [g1,g2];rfl
 have ak5:∀ L R:List Int,L.length<=5000->R.length<=5000->O9 ds v.name=0->Pm A 221 [.ptr 5 0,vw v,.d (ints L),.d (ints R)] (HH c (L8 ds v.name) ss) lW (.d (num (Z2 v L R))) (HH c (L8 ds v.name) (mT ss v L R)):=fun L R hL hR hd=>Ux c (L8 ds v.name) ss v L R hL hR h0 h1 h2 h3 h4 h5 (hno hd) hss
 have Aj:∀ nm ty,O9 ds v.name=0->Pm A 212 [.ptr 5 0,.d (.str v.name),qu nm ty] (HH c (L8 ds v.name) ss) lW (.tuple []) (HH c (L8 ds v.name) (ss++[(v.name,nm,ty)])):=fun nm ty hd=>Am c (L8 ds v.name) ss v.name nm ty (hno hd) hss
 unfold HH at *
 refine Pq.run (b:=6) [.ptr 5 0,.d (num i),.any,.any,.any,.any,.any] rfl rfl rfl rfl rfl ?_;refine gr ?_;rw [hx]
 repeat' (first|refine c0 LS rfl (h2:= ?_)|refine gx ?_|fail)
 refine tb (!u0 (O9 ds v.name) 0) (fun g1=> ?_) (fun g1=> ?_)
 .have e1:T7 ss ds v=O9 ds v.name:=by unfold T7;rw [g1];rfl
  refine gr ?_;exact ⟨_,_,rfl,by rw [e1];rfl,by rw [same _ e1 (by simpa using g1)];rfl⟩
 have hd0:O9 ds v.name=0:=bz (by simpa using g1);refine gr ?_;refine tb (!u0 v.kind 0&& !u0 v.kind 1&& !u0 v.kind 2) (fun g2=> ?_) (fun g2=> ?_)
 .have e1:T7 ss ds v=1:=by unfold T7;rw [g1,g2];rfl
  refine gr ?_;exact ⟨_,_,rfl,by rw [e1];rfl,by rw [same 1 e1 (by simp [o9])];rfl⟩
 refine gr ?_;refine tB (F3 (J2 v.left (ss.map (·.1)) 0) 0||(!L4 v.right []&&F3 (J2 v.right (ss.map (·.1)) 0) 0)) ?_ (fun g3=> ?_) (fun g3=> ?_)
 .repeat' (first|refine c1 pL rfl ?_|refine c1 pR rfl ?_|refine gx ?_|refine fk (h1:=fun hw=> ?_) (h2:=fun hw=> ?_)|refine U0 (h1:=fun hw=> ?_) (h2:=fun hw=> ?_)|refine ⟨rfl,rfl,_,rfl,?_⟩|refine ⟨rfl,rfl⟩|fail)
  all_goals exact cc
 .have e1:T7 ss ds v=7:=by unfold T7;rw [g1,g2,g3];rfl
  refine gr ?_;exact ⟨_,_,rfl,by rw [e1];rfl,by rw [same 7 e1 (by simp [o9])];rfl⟩
 have g3' :=g3;simp only [E6] at g3';have f1:=C5 g3'.1;have f2:L4 v.right []=false->0<=J2 v.right (ss.map (·.1)) 0:=fun h=>by
  have:=g3'.2;simp only [h,M0,Bool.true_and] at this;exact C5 this
 have htL:=ht (J2 v.left (ss.map (·.1)) 0).toNat (by omega);have hsL:nth ss (J2 v.left (ss.map (·.1)) 0).toNat=S4 ss v.left:=rfl;rw [hsL] at htL;refine gr ?_;refine tB (!iZ v) ?_ (fun g4=> ?_) (fun g4=> ?_)
 .repeat' (first|refine cl (ak4) ?_|refine gx ?_|refine fk (h1:=fun hw=> ?_) (h2:=fun hw=> ?_)|refine U0 (h1:=fun hw=> ?_) (h2:=fun hw=> ?_)|refine ⟨rfl,rfl,_,rfl,?_⟩|refine ⟨rfl,rfl⟩|fail)
  all_goals exact cc
 .have e1:T7 ss ds v=1:=by unfold T7;rw [g1,g2,g3,g4];rfl
  refine gr ?_;exact ⟨_,_,rfl,by rw [e1];rfl,by rw [same 1 e1 (by simp [o9])];rfl⟩
 refine gr ?_;refine Ex.nH [.cells (c.enc.map .d),xo,.cells (c.enc.map .d),.map (dmap (L8 ds v.name)),.map (W5 (ss.map (·.1)) 0),.cells (c.enc.map .d++[.map 3,.map 4,C9 2 L3 ss]),.cells (v.enc.map .d)] rfl ?_;refine Ex.region (Rn.z 5 7 [.cells (c.enc.map .d),xo,.cells (c.enc.map .d),.map (dmap (L8 ds v.name)),.map (W5 (ss.map (·.1)) 0),.cells (c.enc.map .d++[.map 3,.map 4,C9 2 L3 ss]),.cells (v.enc.map .d),.dead] rfl rfl (by decide) rfl rfl ?_);refine zm ?_;refine zp (rs:=[]) (.ptr 5 0) rfl ?_;refine zp (rs:=[]) (.ptr 5 10) rfl ?_;refine zp (rs:=[5]) (.d (A5 L3 ss)) rfl ?_;refine zm ?_;refine zp (rs:=[]) (.ptr 6 2) rfl ?_;refine zp (rs:=[6]) (.d (.str v.left)) rfl ?_;refine zc pL rfl ?_ (hmn:=k9 rfl);refine zix (xs:=ss) (enc:=L3) (e:=J2 v.left (ss.map (·.1)) 0) (by omega) ?_;refine zle ?_;rw [hsL];refine za (h2:= ?_);refine zs (h2:= ?_);refine zn ?_;refine gr ?_;refine Ex.Oh (fun s=>∃ (w0 w1 w2 w4 wa wb:j3),s=⟨[.ptr 5 0,w1,w2,.ptr 6 0,w4,.ptr 7 0,.ptr 8 0],[.cells (c.enc.map .d),xo,.cells (c.enc.map .d),.map (dmap (L8 ds v.name)),.map (W5 (ss.map (·.1)) 0),.cells (c.enc.map .d++[.map 3,.map 4,C9 2 L3 ss]),.cells (v.enc.map .d),.cells ((L3 (S4 ss v.left)).map .d),.cells [wa,wb]]⟩/\wa.I7= .d (A5 encS (rZ ss v).2.1)/\wb.I7= .d (ints (rZ ss v).2.2)/\(rZ ss v).2.2.length<=5000) ?_ ?_
 .skip
  refine tb (!L4 v.right []) (fun g6=> ?_) (fun g6=> ?_)
  .simp only [o8] at g6
   have f3:=f2 g6;have htR:=ht (J2 v.right (ss.map (·.1)) 0).toNat (by omega);have QI:nth ss (J2 v.right (ss.map (·.1)) 0).toNat=rZ ss v:=by unfold rZ;rw [g6];rfl
   rw [QI] at htR
   repeat' (first|refine c1 pR rfl ?_|refine soD (h2:= ?_)|refine gx ?_|fail)
   rw [QI];exact ⟨.any,_,_,_,_,_,rfl,rfl,rfl,by omega⟩
  .simp only [O1] at g6
   have QI:rZ ss v=([],[],[]):=by unfold rZ;rw [g6];rfl
   refine gr ?_;exact ⟨.any,_,_,_,_,_,rfl,by rw [QI];rfl,by rw [QI];rfl,by rw [QI];simp⟩
 rintro _ ⟨w0,w1,w2,w4,wa,wb,rfl,ha,hb,hrl⟩;have am6:=ZS (S4 ss v.left).2.2 (rZ ss v).2.2 (by omega);have Mb:=ZT (S4 ss v.left).2.1 (by omega) (by omega);have am7:=ZU (S4 ss v.left).2.2 (by omega) (by omega);have Ma:=Aj (S4 ss v.left).2.1 (S4 ss v.left).2.2 hd0;have am8:=ak5 (S4 ss v.left).2.2 (rZ ss v).2.2 (by omega) hrl hd0;refine gr ?_;refine tb (u0 v.kind 2) (fun g7=> ?_) (fun g7=> ?_)
 .refine gr ?_
  refine tB (!dU u0 (S4 ss v.left).2.2 (rZ ss v).2.2) ?_ (fun g8=> ?_) (fun g8=> ?_)
  .repeat' (first|refine lpA hb ?_|refine cl (am6) ?_|refine gx ?_|refine fk (h1:=fun hw=> ?_) (h2:=fun hw=> ?_)|refine U0 (h1:=fun hw=> ?_) (h2:=fun hw=> ?_)|refine ⟨rfl,rfl,_,rfl,?_⟩|refine ⟨rfl,rfl⟩|fail)
   all_goals exact cc
  .have e1:T7 ss ds v=5:=by unfold T7;rw [g1,g2,g3,g4,g7,g8];rfl
   refine gr ?_;exact ⟨_,_,rfl,by rw [e1];rfl,by rw [same 5 e1 (by simp [o9])];rfl⟩
  have e1:T7 ss ds v=0:=by unfold T7;rw [g1,g2,g3,g4,g7,g8];rfl
  have e2:fh ss ds v=ss++[(v.name,(S4 ss v.left).2.1,(S4 ss v.left).2.2)]:=by unfold fh;rw [e1,g7];simp [o9]
  rw [e2]
  repeat' (first|refine cl (Mb) ?_|refine cl (am7) ?_|refine c0 Ma rfl (h2:= ?_)|refine gx ?_|fail)
  exact ⟨_,_,rfl,by rw [e1];rfl,rfl⟩
 .have e1:T7 ss ds v=Z2 v (S4 ss v.left).2.2 (rZ ss v).2.2:=by unfold T7;rw [g1,g2,g3,g4,g7];rfl
  have e2:fh ss ds v=mT ss v (S4 ss v.left).2.2 (rZ ss v).2.2:=by unfold fh mT;rw [e1,g7];rfl
  rw [e2]
  repeat' (first|refine lpA hb ?_|refine c0 am8 rfl (h2:= ?_)|refine gx ?_|fail)
  exact ⟨_,_,rfl,by rw [e1];rfl,rfl⟩
end Go.Proofs.YtibjocmpkoepoaaGreat.nc
namespace Go.Proofs.YtibjocmpkoepoaaGreat.nc
open Go.Abs Go.Abs.S
attribute [local irreducible] Rx Ry Rn Ex Pf
variable [Inhabited XO]
def l7:F2:=⟨0,8,8,8⟩
def Uz (a0 ax a1 a2 a3 a4 a5:x9)(x y:aJ):Pm A 249 [xz y,.ptr 7 0] [a0,ax,a1,a2,a3,a4,a5,.cells (x.enc.map .d)] l7 (.d (.bool (L4 y.name x.name))) [a0,ax,a1,a2,a3,a4,a5,.cells (x.enc.map .d)]:=by
 have _x:=(default:XO)
 suffices h:Pq A 249 [xz y,.ptr 7 0] [a0,ax,a1,a2,a3,a4,a5,.cells (x.enc.map .d)] l7 fun v H1=>v= .d (.bool (L4 y.name x.name))/\H1=[a0,ax,a1,a2,a3,a4,a5,.cells (x.enc.map .d)] by
  obtain ⟨v,H1,⟨rfl,rfl⟩,h⟩:=h;exact h
 refine Pq.run (b:=8) [xz y,.ptr 7 0,.any,.any] rfl rfl rfl rfl rfl ?_;refine gr ?_;exact ⟨_,_,rfl,rfl,rfl⟩
set_option maxHeartbeats 2000000 in
def UC (a0 ax a1 a2 a3 a4 a5:x9)(x:aJ)(ys:List aJ)(hy:ys.length<=1000):Pm A 277 [.d (A5 aJ.enc ys),.func 249 [] [.ptr 7 0]] [a0,ax,a1,a2,a3,a4,a5,.cells (x.enc.map .d)] l7 (.d (num (Gg x ys 0))) [a0,ax,a1,a2,a3,a4,a5,.cells (x.enc.map .d)]:=by
 suffices h:Pq A 277 [.d (A5 aJ.enc ys),.func 249 [] [.ptr 7 0]] [a0,ax,a1,a2,a3,a4,a5,.cells (x.enc.map .d)] l7 fun v H1=>v= .d (num (Gg x ys 0))/\H1=[a0,ax,a1,a2,a3,a4,a5,.cells (x.enc.map .d)] by
  obtain ⟨v,H1,⟨rfl,rfl⟩,h⟩:=h;exact h
 refine Pq.run (b:=8) [.d (A5 aJ.enc ys),.func 249 [] [.ptr 7 0],.any,.any,.any,.any] rfl rfl rfl rfl rfl ?_;refine gr ?_;refine Ex.N5 (fun k T H=>∃ (i:Nat) (v w:j3),T=[.d (A5 aJ.enc ys),.func 249 [] [.ptr 7 0],v,w,.d (num ys.length),.d (num i)]/\H=[a0,ax,a1,a2,a3,a4,a5,.cells (x.enc.map .d)]/\i+k=ys.length/\Gg x ys 0=Gg x (ys.drop i) i) (by rintro _ _ _ ⟨_,_,_,_,rfl,_⟩;rfl) ?_ (k:=ys.length) ⟨0,_,_,rfl,rfl,by simp,by simp⟩;rintro k _ _ ⟨i,v,w,rfl,rfl,hk,hi⟩;refine Ex.nT ?_;refine Ex.seq ?_;refine tb (F3 i ys.length) (fun h1=> ?_) (fun h1=> ?_)
 .have h2:=C6 h1
  rw [D4 (by omega)] at hi;have p1:=Uz a0 ax a1 a2 a3 a4 a5 x (nth ys i);refine gr ?_;refine tB (L4 (nth ys i).name x.name) ?_ (fun h3=> ?_) (fun h3=> ?_)
  .repeat' (first|refine cv1 p1 rfl ?_|refine gx ?_|refine fk (h1:=fun hw=> ?_) (h2:=fun hw=> ?_)|refine U0 (h1:=fun hw=> ?_) (h2:=fun hw=> ?_)|refine ⟨rfl,rfl,_,rfl,?_⟩|refine ⟨rfl,rfl⟩|fail)
   all_goals exact cc
  .refine gr ?_
   exact ⟨_,_,rfl,by rw [hi,Gg,h3];rfl,rfl⟩
  .refine gr ?_
   exact ⟨k - 1,by omega,i+1,_,_,rfl,rfl,by omega,by rw [hi,Gg,h3];rfl⟩
 .have h2:=C5 h1
  rw [n5 (by omega)] at hi;refine gr ?_;exact ⟨_,_,rfl,by rw [hi];rfl,rfl⟩
def Uy (a0 ax a1 a2 a3 a4 a5:x9)(x:aJ)(ys:List aJ)(hy:ys.length<=1000):Pm A 248 [.d (A5 aJ.enc ys),.func 249 [] [.ptr 7 0]] [a0,ax,a1,a2,a3,a4,a5,.cells (x.enc.map .d)] l7 (.d (.bool (ys.any fun y=>L4 y.name x.name))) [a0,ax,a1,a2,a3,a4,a5,.cells (x.enc.map .d)]:=by
 have p1:=UC a0 ax a1 a2 a3 a4 a5 x ys hy;rw [<- EN x ys 0]
 suffices h:Pq A 248 [.d (A5 aJ.enc ys),.func 249 [] [.ptr 7 0]] [a0,ax,a1,a2,a3,a4,a5,.cells (x.enc.map .d)] l7 fun v H1=>v= .d (.bool (aF 0 (Gg x ys 0)))/\H1=[a0,ax,a1,a2,a3,a4,a5,.cells (x.enc.map .d)] by
  obtain ⟨v,H1,⟨rfl,rfl⟩,h⟩:=h;exact h
 refine Pq.run (b:=8) [.d (A5 aJ.enc ys),.func 249 [] [.ptr 7 0],.any] rfl rfl rfl rfl rfl ?_
 repeat' (first|refine c1 p1 rfl ?_|refine gx ?_|fail)
 exact ⟨_,_,rfl,rfl,rfl⟩
end Go.Proofs.YtibjocmpkoepoaaGreat.nc
namespace Go.Proofs.YtibjocmpkoepoaaGreat.nc
open Go.Abs Go.Abs.S
attribute [local irreducible] Rx Ry Rn Ex Pf
variable [Inhabited XO]
set_option maxHeartbeats 8000000 in
def Uw (c:y4)(ds:List L0)(ss:List eU)(t:mH)(i:Nat)(hi:i<t.p8.length)(hc:t.p8.length<=1000)(ho:(nth t.p8 i).F7.length<=1000)(hss:ss.length<=c.o7.length)(ht:∀ k,k<ss.length->0<(nth ss k).2.2.length/\0<(nth c.o7 k).p8.length) :
  Pm A 211 [.ptr 5 0,jE t,.d (num i)] (HH c ds ss) lR (.d (num (eV c ss t i))) (HH c ds ss):=by
 have p61:=Ir c ds ss (nth t.p8 i).refs;have b1:=uP ss (nth t.p8 i).refs;have b2:(J2 (nth t.p8 i).refs (ss.map (·.1)) 0)= -1\/(0<=(J2 (nth t.p8 i).refs (ss.map (·.1)) 0)/\(J2 (nth t.p8 i).refs (ss.map (·.1)) 0)<ss.length/\0<(nth ss (J2 (nth t.p8 i).refs (ss.map (·.1)) 0).toNat).2.2.length/\0<(nth c.o7 (J2 (nth t.p8 i).refs (ss.map (·.1)) 0).toNat).p8.length):=by
  rcases b1 with h|h
  .exact Or.inl h
  .have:=ht (J2 (nth t.p8 i).refs (ss.map (·.1)) 0).toNat (by omega)
   exact Or.inr ⟨h.1,h.2,this.1,this.2⟩
 have an0:=ZX t (nth t.p8 i).F7 ho hc;have an1:=ZY t (nth t.p8 i);have q49:=aE1 (nth t.p8 i).F7 i (by omega)
 suffices h:Pq A 211 [.ptr 5 0,jE t,.d (num i)] (HH c ds ss) lR fun v H1=>v= .d (num (eV c ss t i))/\H1=HH c ds ss by
  obtain ⟨v,H1,⟨rfl,rfl⟩,h⟩:=h;exact h
 unfold HH at *
 have am9:=Uy (.cells (c.enc.map .d)) xo (.cells (c.enc.map .d)) (.map (dmap ds)) (.map (W5 (ss.map (·.1)) 0)) (.cells (c.enc.map .d++[.map 3,.map 4,C9 2 L3 ss])) (.cells (t.enc.map .d)) (nth t.p8 i) (t.p8.take i) (by simp;omega);refine Pq.run (b:=6) [.ptr 5 0,jE t,.d (num i),.any,.any,.any,.any,.any] rfl rfl rfl rfl rfl ?_;refine gr ?_;refine tB (!G7 (nth t.p8 i).name||(!L4 (nth t.p8 i).space []&& !G7 (nth t.p8 i).space)) ?_ (fun h1=> ?_) (fun h1=> ?_)
 .repeat' (first|refine cl (Dj _) ?_|refine gx ?_|refine fk (h1:=fun hw=> ?_) (h2:=fun hw=> ?_)|refine U0 (h1:=fun hw=> ?_) (h2:=fun hw=> ?_)|refine ⟨rfl,rfl,_,rfl,?_⟩|refine ⟨rfl,rfl⟩|fail)
  all_goals exact cc
 .refine gr ?_
  exact ⟨_,_,rfl,by unfold eV;rw [h1];rfl,rfl⟩
 refine gr ?_;refine tB ((t.p8.take i).any fun y=>L4 y.name (nth t.p8 i).name) ?_ (fun h2=> ?_) (fun h2=> ?_)
 .repeat' (first|refine c1 am9 rfl ?_|refine gx ?_|refine fk (h1:=fun hw=> ?_) (h2:=fun hw=> ?_)|refine U0 (h1:=fun hw=> ?_) (h2:=fun hw=> ?_)|refine ⟨rfl,rfl,_,rfl,?_⟩|refine ⟨rfl,rfl⟩|fail)
  all_goals exact cc
 .refine gr ?_
  exact ⟨_,_,rfl,by unfold eV;rw [h1,h2];rfl,rfl⟩
 repeat' (first|refine c1 p61 rfl ?_|refine gx ?_|fail)
 refine tb (!L4 (nth t.p8 i).refs []&&F3 (J2 (nth t.p8 i).refs (ss.map (·.1)) 0) 0) (fun h3=> ?_) (fun h3=> ?_)
 .refine gr ?_
  exact ⟨_,_,rfl,by unfold eV;rw [h1,h2,h3];rfl,rfl⟩
 refine gr ?_;refine tB (!(u0 (nth t.p8 i).type 1||u0 (nth t.p8 i).type 2)||(aF 0 (J2 (nth t.p8 i).refs (ss.map (·.1)) 0)&& !u0 (nth t.p8 i).type (nth (nth ss (J2 (nth t.p8 i).refs (ss.map (·.1)) 0).toNat).2.2 0))) ?_ (fun h4=> ?_) (fun h4=> ?_)
 .repeat' (first|refine cl (ZW _) ?_|refine gx ?_|refine fk (h1:=fun hw=> ?_) (h2:=fun hw=> ?_)|refine U0 (h1:=fun hw=> ?_) (h2:=fun hw=> ?_)|refine ⟨rfl,rfl,_,rfl,?_⟩|refine ⟨rfl,rfl⟩|fail)
  all_goals exact cc
 .refine gr ?_
  exact ⟨_,_,rfl,by unfold eV;rw [h1,h2,h3,h4];rfl,rfl⟩
 refine gr ?_;refine tB ((!L4 (nth t.p8 i).space []&& !L4 (nth t.p8 i).refs [])|| !Y3 t (-1) (nth t.p8 i).F7|| !jT t (nth t.p8 i)) ?_ (fun h5=> ?_) (fun h5=> ?_)
 .repeat' (first|refine cl (an0) ?_|refine cl (an1) ?_|refine gx ?_|refine fk (h1:=fun hw=> ?_) (h2:=fun hw=> ?_)|refine U0 (h1:=fun hw=> ?_) (h2:=fun hw=> ?_)|refine ⟨rfl,rfl,_,rfl,?_⟩|refine ⟨rfl,rfl⟩|fail)
  all_goals exact cc
 .refine gr ?_
  exact ⟨_,_,rfl,by unfold eV;rw [h1,h2,h3,h4,h5];rfl,rfl⟩
 refine gr ?_;refine tb (u0 i 0&&F3 0 (nth t.p8 i).F7.length&& !u0 t.erase 1) (fun h6=> ?_) (fun h6=> ?_)
 .refine gr ?_
  exact ⟨_,_,rfl,by unfold eV;rw [h1,h2,h3,h4,h5,h6];rfl,rfl⟩
 refine gr ?_;refine tB (aF 0 (J2 (nth t.p8 i).refs (ss.map (·.1)) 0)&&F3 0 (nth (nth c.o7 (J2 (nth t.p8 i).refs (ss.map (·.1)) 0).toNat).p8 0).F7.length&& !((nth t.p8 i).F7.any fun y=>u0 y i)) ?_ (fun h7=> ?_) (fun h7=> ?_)
 .repeat' (first|refine cl (q49) ?_|refine gx ?_|refine fk (h1:=fun hw=> ?_) (h2:=fun hw=> ?_)|refine U0 (h1:=fun hw=> ?_) (h2:=fun hw=> ?_)|refine ⟨rfl,rfl,_,rfl,?_⟩|refine ⟨rfl,rfl⟩|fail)
  all_goals exact cc
 .refine gr ?_
  exact ⟨_,_,rfl,by unfold eV;rw [h1,h2,h3,h4,h5,h6,h7];rfl,rfl⟩
 refine gr ?_;exact ⟨_,_,rfl,by unfold eV;rw [h1,h2,h3,h4,h5,h6,h7];rfl,rfl⟩
end Go.Proofs.YtibjocmpkoepoaaGreat.nc
namespace Go.Proofs.YtibjocmpkoepoaaGreat.nc
open Go.Abs Go.Abs.S
attribute [local irreducible] Rx Ry Rn Ex Pf
variable [Inhabited XO]
set_option maxHeartbeats 8000000 in
def al6 (c:y4)(ds:List L0)(ss:List eU)(i:Nat)(hi:i<c.o7.length)(hc:(nth c.o7 i).p8.length<=1000)(ho:∀ j,j<(nth c.o7 i).p8.length->(nth (nth c.o7 i).p8 j).F7.length<=1000)(hss:ss.length<=c.o7.length)(ai1:ss.length<=1000)(hi2:c.o7.length<=1000)
  (ht:∀ k,k<ss.length->0<(nth ss k).2.2.length/\0<(nth c.o7 k).p8.length) (hsub:∀ s,(ds.any fun y=>L4 y s)=false->((ss.map (·.1)).any fun y=>L4 y s)=false) :
  Pm A 149 [.ptr 5 0,.d (num i)] (HH c ds ss) lW (.d (num (jb c ss ds (nth c.o7 i)))) (HH c (L8 ds (nth c.o7 i).name) (tO c ss ds (nth c.o7 i))):=by
 generalize hx:nth c.o7 i=t at *
 have LS:=Io c ds ss t.name;have ak3:∀ j,j<t.p8.length->Pm A 211 [.ptr 5 0,jE t,.d (num j)] (HH c (L8 ds t.name) ss) lR (.d (num (eV c ss t j))) (HH c (L8 ds t.name) ss):=fun j hj=>Uw c (L8 ds t.name) ss t j hj hc (ho j hj) hss ht
 have am4:=ZP t.p8 hc;have am5:=ZQ t.p8 hc;have Aj:O9 ds t.name=0->Pm A 212 [.ptr 5 0,.d (.str t.name),qu (t.p8.map aJ.name) (t.p8.map aJ.type)] (HH c (L8 ds t.name) ss) lW (.tuple []) (HH c (L8 ds t.name) (ss++[(t.name,t.p8.map aJ.name,t.p8.map aJ.type)])):=fun h=>by
  refine Am c (L8 ds t.name) ss t.name _ _ (hsub _ ?_) ai1;unfold O9 at h;cases h1:(!G7 t.name) with
  |true=>rw [h1] at h;simp at h
  |false =>
   rw [h1] at h;cases h2:ds.any fun y=>L4 y t.name with
   |false=>rfl
   |true=>rw [h2] at h;simp at h
 suffices h:Pq A 149 [.ptr 5 0,.d (num i)] (HH c ds ss) lW fun v H1=>v= .d (num (jb c ss ds t))/\H1=HH c (L8 ds t.name) (tO c ss ds t) by
  obtain ⟨v,H1,⟨rfl,rfl⟩,h⟩:=h;exact h
 have fin:∀ e:Int,u0 e 0=false->jb c ss ds t=e->tO c ss ds t=ss:=fun e h1 h2=>by unfold tO;rw [h2,h1];rfl
 unfold HH at *
 refine Pq.run (b:=6) [.ptr 5 0,.d (num i),.any,.any,.any,.any,.any,.any,.any] rfl rfl rfl rfl rfl ?_;refine gr ?_;rw [hx]
 repeat' (first|refine c0 LS rfl (h2:= ?_)|refine gx ?_|fail)
 refine tb (!u0 (O9 ds t.name) 0) (fun h1=> ?_) (fun h1=> ?_)
 .have e1:jb c ss ds t=O9 ds t.name:=by unfold jb;rw [h1];rfl
  refine gr ?_;exact ⟨_,_,rfl,by rw [e1];rfl,by rw [fin _ (by simpa using h1) e1];rfl⟩
 refine gr ?_;refine tB (fL t) ?_ (fun h2=> ?_) (fun h2=> ?_)
 .repeat' (first|refine cl (Ij _ _ _) ?_|refine gx ?_|refine fk (h1:=fun hw=> ?_) (h2:=fun hw=> ?_)|refine U0 (h1:=fun hw=> ?_) (h2:=fun hw=> ?_)|refine ⟨rfl,rfl,_,rfl,?_⟩|refine ⟨rfl,rfl⟩|fail)
  all_goals first|(simp [*,j9,fL];done)|(simp_all [j9,fL];done)|(simp_all [j9,fL,z8,y3,o9,F8];done)|(simp_all [j9,fL,z8,y3,o9,F8]<;>omega)
 .have e1:jb c ss ds t=1:=by unfold jb;rw [h1,h2];rfl
  refine gr ?_;exact ⟨_,_,rfl,by rw [e1];rfl,by rw [fin 1 (by simp [o9]) e1];rfl⟩
 refine gr ?_;refine Ex.N5 (fun k T H=>∃ (j:Nat) (w1 w2 w4 w5 w6:j3),T=[.ptr 5 0,w1,w2,.ptr 6 0,w4,w5,w6,.d (num t.p8.length),.d (num j)]/\H=[.cells (c.enc.map .d),xo,.cells (c.enc.map .d),.map (dmap (L8 ds t.name)),.map (W5 (ss.map (·.1)) 0),.cells (c.enc.map .d++[.map 3,.map 4,C9 2 L3 ss]),.cells (t.enc.map .d)]/\j+k=t.p8.length/\jb c ss ds t=vP c ss t k j) (by rintro _ _ _ ⟨_,_,_,_,_,_,_,rfl,_⟩;rfl) ?_ (k:=t.p8.length) ⟨0,_,_,_,_,_,rfl,rfl,by simp,by unfold jb;rw [h1,h2];rfl⟩;rintro k _ _ ⟨j,w1,w2,w4,w5,w6,rfl,rfl,hk,hj⟩;refine Ex.nT ?_;refine Ex.seq ?_;refine tb (F3 j t.p8.length) (fun h3=> ?_) (fun h3=> ?_)
 .have h4:=C6 h3
  obtain ⟨k,rfl⟩:∃ k',k=k' +1:=⟨k - 1,by omega⟩;have am3:=ak3 j (by omega);rw [vP] at hj
  repeat' (first|refine c1 am3 rfl ?_|refine gx ?_|fail)
  refine tb (!u0 (eV c ss t j) 0) (fun h5=> ?_) (fun h5=> ?_)
  .rw [h5,if_pos rfl] at hj
   refine gr ?_;exact ⟨_,_,rfl,by rw [hj];rfl,by rw [fin _ (by simpa using h5) hj];rfl⟩
  .rw [h5,if_neg (by simp)] at hj
   refine gr ?_;exact ⟨k,by omega,j+1,_,_,_,_,_,rfl,rfl,by omega,hj⟩
 .have h4:=C5 h3
  obtain rfl:k=0:=by omega
  have Ma:=Aj (bz (by simpa using h1));have e1:jb c ss ds t=0:=hj;have e2:tO c ss ds t=ss++[(t.name,t.p8.map aJ.name,t.p8.map aJ.type)]:=by unfold tO;rw [e1];simp [o9]
  rw [e2]
  repeat' (first|refine cl (am4) ?_|refine cl (am5) ?_|refine c0 Ma rfl (h2:= ?_)|refine gx ?_|fail)
  exact ⟨_,_,rfl,by rw [e1];rfl,rfl⟩
end Go.Proofs.YtibjocmpkoepoaaGreat.nc
namespace Go.Proofs.YtibjocmpkoepoaaGreat.nc
open Go.Abs Go.Abs.S
attribute [local irreducible] Rx Ry Rn Ex Pf
variable [Inhabited XO]
def P4 (c:y4)(q:Nat):List j3:=[.d (num (cnt c q)),.d (num (Cb q)),.func (fid q) [.ptr 5 0] []]
def U8 (c:y4):List j3:=P4 c 0++P4 c 1++P4 c 2++P4 c 3++P4 c 4++P4 c 5++P4 c 6++P4 c 7
def nU (c:y4)(q:Nat)(h:q<8)(H:q8)(hH:H[6]? =some (.cells (U8 c))):rd H 6 (0+q * 3) 3=some (P4 c q):=by
 have _x:=(default:XO);simp only [rd,hH]
 match q,h with
 |0,_=>rfl
 |1,_=>rfl
 |2,_=>rfl
 |3,_=>rfl
 |4,_=>rfl
 |5,_=>rfl
 |6,_=>rfl
 |7,_=>rfl
def yA (c:y4)(ds:List L0)(ss:List eU):R7 (HH c ds ss)<=6:=by
 have h1:=iM ds;have h2:=iW (ss.map (·.1)) 0;have e0:B8 [j3.d (num (default:XO).x)]=0:=rfl;have e1:B8 (c.enc.map j3.d)=0:=rfl;have e2:B8 (c.enc.map j3.d++[.map 3,.map 4,C9 2 L3 ss])=5:=rfl;simp only [HH,R7,x9.L7,h1,h2,e0,e1,e2]
 decide
def si (c:y4)(ds:List L0)(ss:List eU):T5 (HH c ds ss) 0=true:=by
 have h1:=iM ds;have h2:=iW (ss.map (·.1)) 0;have e0:B8 [j3.d (num (default:XO).x)]=0:=rfl;have e1:B8 (c.enc.map j3.d)=0:=rfl;have e2:B8 (c.enc.map j3.d++[.map 3,.map 4,C9 2 L3 ss])=5:=rfl;simp only [HH,T5,x9.L7,h1,h2,e0,e1,e2]
 decide
def tL {H:q8}(h:T5 ((H.take 6).drop 0) 0=true):D8 H 0 6=6:=by
 have _x:=(default:XO);unfold D8;rw [if_neg (by decide),if_pos h]
def Ei (c:y4)(ds:List L0)(ss:List eU):R7 (HH c ds ss++[.cells (U8 c)])<=7:=by
 have h1:=iM ds;have h2:=iW (ss.map (·.1)) 0;have e0:B8 [j3.d (num (default:XO).x)]=0:=rfl;have e1:B8 (c.enc.map j3.d)=0:=rfl;have e2:B8 (c.enc.map j3.d++[.map 3,.map 4,C9 2 L3 ss])=5:=rfl;have e3:B8 (U8 c)=6:=rfl;simp only [HH,B7,B9,R7,x9.L7,h1,h2,e0,e1,e2,e3]
 decide
def nR (c:y4)(q:Nat):B8 (P4 c q)<=7+1:=by
 have _x:=(default:XO);exact k9 rfl
def jm (c:y4)(fds:List L0)(Lm:List eU)(v:j3)(H1:q8):Prop :=
 (∃ R,H1= .cells (c.enc.map .d)::xo::R)/\(u0 (O5 c).2 0=false->v= .tuple [.d .br,.d (num (O5 c).1),.d (num (O5 c).2)]) /\
  (u0 (O5 c).2 0=true->v= .tuple [.ptr 5 0,.d (num 0),.d (num 0)]/\H1=HH c fds Lm++[.cells (U8 c)])
def Ew {c:y4}{fds:List L0}{Lm:List eU}{v:j3}{H1:q8}(h:jm c fds Lm v H1):2<=H1.length:=by
 obtain ⟨⟨R,rfl⟩,_⟩:=h;simp
set_option maxHeartbeats 32000000 in
def al8 (c:y4)(hf:c.qA)(ST:Nat->List L0->List eU->Prop)(ag0:ST 0 [] [])(hST:∀ g ds ss ds' ss',ST g ds ss->ST g ds' ss' ->ds=ds' /\ss=ss')(fds:List L0)(Lm:List eU)(ag1:∀ ds ss,ST c.names.length ds ss->ds=fds/\ss=Lm)
  (hstep:∀ q i ds ss,q<8->i<cnt c q->tooMany c=false->kL c (S6 c q+i)->ST (S6 c q+i) ds ss->∃ dz sz,(P9 c (S6 c q+i)=0->ST (S6 c q+i+1) dz sz)/\Pm A (fid q) [.ptr 5 0,.d (num i)] (HH c ds ss) lW (.d (num (P9 c (S6 c q+i)))) (HH c dz sz)) :
  Pq A 101 [cat c] [.cells (c.enc.map .d),xo] Y8 (jm c fds Lm):=by
 obtain ⟨f0,f1,f2,f3,f4,f5,f6,f7⟩:=id hf;have WO:∀ q,cnt c q<=1000:=fun q=>by unfold cnt;split<;>omega
 have hlm:∀ q,Cb q<=16:=fun q=>by unfold Cb;split<;>omega
 refine Pq.run (b:=2) [cat c,.any,.any,.any,.any,.any,.any,.any,.any,.any,.any,.any,.any,.any,.any,.any,.any,.any,.any,.any] rfl rfl rfl rfl rfl ?_
 repeat' (first|refine mk (h2:= ?_)|refine uw (cs:=c.enc.map .d++[.map 3,.map 4,C9 2 L3 []]) ?_|refine uw (cs:=P4 c 0) ?_|refine uw (cs:=P4 c 1) ?_|refine uw (cs:=P4 c 2) ?_|refine uw (cs:=P4 c 3) ?_|refine uw (cs:=P4 c 4) ?_|refine uw (cs:=P4 c 5) ?_|refine uw (cs:=P4 c 6) ?_|refine uw (cs:=P4 c 7) ?_|refine gx ?_|fail)
 refine bso (U8 c) rfl ⟨by decide,rfl⟩ (h2:= ?_)
 repeat' (first|refine lrT (h2:= ?_)|refine gx ?_|fail)
 refine Ex.X8 (fun k T H=>∃ (q:Nat),T=[.any,.any,.any,.any,.any,.ptr 5 0,.B6 6 3 0 8,.any,.any,.any,.any,.any,.B6 6 3 0 8,.d (num (8:Nat)),.d (num q),.any,.any,.any,.any,.any]/\H=[.cells (c.enc.map .d),xo,.cells (c.enc.map .d),.map [],.map [],.cells (c.enc.map .d++[.map 3,.map 4,C9 2 L3 []]),.cells (U8 c)]/\q+k=8/\∀ p,p<q->cnt c p<=Cb p) ?_ (k:=8) ⟨0,rfl,rfl,by simp,fun p h=>absurd h (by omega)⟩;rintro k _ _ ⟨q,rfl,rfl,hk,hq⟩;have b1:=WO q;have b2:=hlm q;have hbk:=nR c q;refine Ex.seq ?_;refine tb (F3 q (8:Nat)) (fun g1=> ?_) (fun g1=> ?_)
 .have g2:=C6 g1
  have EW:q<8:=by omega
  have hka:=nU c q EW ([.cells (c.enc.map .d),xo,.cells (c.enc.map .d),.map [],.map [],.cells (c.enc.map .d++[.map 3,.map 4,C9 2 L3 []]),.cells (U8 c)]) rfl
  repeat' (first|refine ixs (i:=q) (len:=8) EW ?_|refine WV hka rfl ?_|refine soB (cs:=P4 c q) (id:=7) hbk (h2:= ?_)|refine gx ?_|fail)
  refine tb (F3 (Cb q) (cnt c q)) (fun g3=> ?_) (fun g3=> ?_)
  .have ht:=NC EW g3
   have e1:O5 c=(0,8):=by unfold O5;rw [ht];rfl
   refine gr ?_;exact ⟨_,_,rfl,⟨_,rfl⟩,fun _=>by rw [e1];rfl,fun h=>by rw [e1] at h;simp [o9] at h⟩
  .have g4:=C5 g3
   refine gr ?_;exact ⟨k - 1,by omega,_,_,rfl,q+1,rfl,rfl,by omega,fun p hp=>by
    rcases s5 p q with h|h
    .exact hq p h
    .obtain rfl:p=q:=by omega
     omega⟩
 have g2:=C5 g1;have sR:=SQ (c:=c) (fun p hp=>hq p (by omega));clear g1 g2 hk hq b1 b2 hbk
 repeat' (first|refine lrT (h2:= ?_)|refine gx ?_|fail)
 refine Ex.X8 (fun k T H=>∃ (q g:Nat) (ds:List L0) (ss:List eU),T=[.any,.any,.any,.any,.any,.ptr 5 0,.any,.any,.d (num g),.any,.any,.any,.any,.any,.any,.B6 6 3 0 8,.d (num (8:Nat)),.d (num q),.any,.any]/\H=[.cells (c.enc.map .d),xo,.cells (c.enc.map .d),.map (dmap ds),.map (W5 (ss.map (·.1)) 0),.cells (c.enc.map .d++[.map 3,.map 4,C9 2 L3 ss]),.cells (U8 c)]/\q+k=8/\g=S6 c q/\ST g ds ss/\kL c g/\O5 c=bY c (c.names.length - g) g) ?_ (k:=8) ⟨0,0,[],[],rfl,rfl,by simp,rfl,ag0,fun m h=>absurd h (by omega),by unfold O5;rw [sR];rfl⟩;rintro k _ _ ⟨q,g,ds,ss,rfl,rfl,hk,hg,hst,hok,hch⟩;have b1:=WO q;have hbk:=nR c q;refine Ex.seq ?_;refine tb (F3 q (8:Nat)) (fun g1=> ?_) (fun g1=> ?_)
 .have g2:=C6 g1
  have EW:q<8:=by omega
  have hka:=nU c q EW ([.cells (c.enc.map .d),xo,.cells (c.enc.map .d),.map (dmap ds),.map (W5 (ss.map (·.1)) 0),.cells (c.enc.map .d++[.map 3,.map 4,C9 2 L3 ss]),.cells (U8 c)]) rfl
  repeat' (first|refine ixs (i:=q) (len:=8) EW ?_|refine WV hka rfl ?_|refine soB (cs:=P4 c q) (id:=7) hbk (h2:= ?_)|refine gx ?_|fail)
  refine Ex.N5 (fun k T H=>∃ (i g:Nat) (ds:List L0) (ss:List eU) (w0 w1 w2 w3 w4 w6 w7 oE mM Ol VI VJ:j3),T=[w0,w1,w2,w3,w4,.ptr 5 0,w6,w7,.d (num g),.ptr 7 0,oE,mM,Ol,VI,VJ,.B6 6 3 0 8,.d (num (8:Nat)),.d (num q),.d (num (cnt c q)),.d (num i)]/\H=[.cells (c.enc.map .d),xo,.cells (c.enc.map .d),.map (dmap ds),.map (W5 (ss.map (·.1)) 0),.cells (c.enc.map .d++[.map 3,.map 4,C9 2 L3 ss]),.cells (U8 c),.cells (P4 c q)]/\i+k=cnt c q/\g=S6 c q+i/\ST g ds ss/\kL c g/\O5 c=bY c (c.names.length - g) g) (by rintro _ _ _ ⟨_,_,_,_,_,_,_,_,_,_,_,_,_,_,_,_,_,rfl,_⟩;rfl) ?_ (k:=cnt c q) ⟨0,g,ds,ss,_,_,_,_,_,_,_,_,_,_,_,_,rfl,rfl,by simp,by omega,hst,hok,hch⟩;clear hst hok hch hka;rintro k2 _ _ ⟨i,g,ds,ss,w0,w1,w2,w3,w4,w6,w7,oE,mM,Ol,VI,VJ,rfl,rfl,hk2,hg2,hst,hok,hch⟩;have hol:=NI c EW;have hnl:c.names.length<=8000:=by simp [y4.names];omega
  refine Ex.nT ?_;refine Ex.seq ?_;refine tb (F3 i (cnt c q)) (fun g3=> ?_) (fun g3=> ?_)
  .have g4:=C6 g3
   have QB:=yA c ds ss;have XH:=si c ds ss;subst hg2;obtain ⟨dz,sz,hz,QH⟩:=hstep q i ds ss EW (by omega) sR hok hst;unfold HH at QH QB XH;obtain ⟨N,hN⟩:∃ N,c.names.length - (S6 c q+i)=N+1:=⟨c.names.length - (S6 c q+i) - 1,by omega⟩;rw [hN,bY] at hch;have hfp:=GS EW;refine gr ?_;have hs5:D8 ([.cells (c.enc.map .d),xo,.cells (c.enc.map .d),.map (dmap ds),.map (W5 (ss.map (·.1)) 0),.cells (c.enc.map j3.d++[.map 3,.map 4,C9 2 L3 ss]),.cells (U8 c),.cells (P4 c q)]) 0 6=6:=tL (H:=[.cells (c.enc.map .d),xo,.cells (c.enc.map .d),.map (dmap ds),.map (W5 (ss.map (·.1)) 0),.cells (c.enc.map j3.d++[.map 3,.map 4,C9 2 L3 ss]),.cells (U8 c),.cells (P4 c q)]) XH;refine cv0 (gI:=hfp.1) (hm:=hfp.2) QH rfl QB (iq QB) rfl (mK:=by show F2.mk 0 0 6 (D8 _ 0 6)=lW;rw [hs5];rfl) (h2:= ?_);refine gr ?_;refine tb (!u0 (P9 c (S6 c q+i)) 0) (fun g5=> ?_) (fun g5=> ?_)
   .have e1:O5 c=(((S6 c q+i:Nat):Int),P9 c (S6 c q+i)):=by rw [hch,g5];rfl
    have e2:u0 (P9 c (S6 c q+i)) 0=false:=by simpa using g5
    refine gr ?_;exact ⟨_,_,rfl,⟨_,rfl⟩,fun _=>by rw [e1];rfl,fun h=>by rw [e1] at h;simp only [e2] at h;cases h⟩
   .have e2:P9 c (S6 c q+i)=0:=bz (by simpa using g5)
    rw [g5,if_neg (by simp)] at hch;have ai2 :=hz e2;refine gr ?_;refine ⟨k2 - 1,by omega,i+1,S6 c q+i+1,dz,sz,_,_,_,_,_,_,_,_,_,_,_,_,rfl,rfl,by omega,by omega,ai2,fun m hm=> ?_,?_⟩
    .rcases s5 m (S6 c q+i) with h|h
     .exact hok m h
     .obtain rfl:m=S6 c q+i:=by omega
      exact e2
    .have:c.names.length - (S6 c q+i+1)=N:=by omega
     rw [this];exact hch
  .have g4:=C5 g3
   refine gr ?_;refine ⟨k - 1,by omega,_,_,R8 ?_ ?_,q+1,g,ds,ss,rfl,rfl,by omega,?_,hst,hok,hch⟩
   .exact k9 rfl
   .exact Ei c ds ss
   .simp only [S6];omega
 have g2:=C5 g1;obtain rfl:q=8:=by omega
 rw [Ag] at hg;subst hg;rw [Nat.sub_self] at hch;obtain ⟨rfl,rfl⟩:=ag1 ds ss hst;refine gr ?_;have e1:O5 c=(0,0):=hch;exact ⟨_,_,rfl,⟨_,rfl⟩,fun h=>by rw [e1] at h;simp [o9] at h,fun _=>⟨rfl,rfl⟩⟩
end Go.Proofs.YtibjocmpkoepoaaGreat.nc
namespace Go.Proofs.YtibjocmpkoepoaaGreat.nc
open Go.Abs Go.Abs.S
variable [Inhabited XO]
def lB (c:y4)(f:FuncId)(i g:Nat):Prop:=∃ dz sz,(P9 c g=0->Zl c (g+1) dz sz)/\Pm A f [.ptr 5 0,.d (num i)] (HH c (c.names.take g) (Q7 c (min g (y4.ns c)))) lW (.d (num (P9 c g))) (HH c dz sz)
def AP {c:y4}(hs:Q2 c){i:Nat}(hi:i<c.o7.length)(hok:kL c i):lB c 149 i i:=by
 have ek:i<y4.ns c:=by unfold y4.ns;omega
 have hf:=hs.sm.qA.1;have hm:min i (y4.ns c)=i:=by omega
 have p:=al6 c (c.names.take i) (Q7 c i) i hi (hs.sm.p8 i hi) (fun j hj=>hs.sm.F7 i j hi hj) (by rw [X3];omega) (by rw [X3];omega) (by omega)
  (fun k hk=>by
   rw [X3] at hk;have h1:=(gA (iw (hok k hk) (by omega))).1;rw [cr c hk];refine ⟨?_,h1⟩;show 0<(R3 c k).length
   rw [sJ c (by omega)];simpa using h1) (fun s hs' =>yo c (by omega) s hs')
 rw [FU hi hok] at p;unfold lB;rw [hm];refine ⟨_,_,fun h0=> ?_,p⟩;unfold Zl;have hnl:i<c.names.length:=by have:=bk c;omega
 rw [Od hi hok h0,<- pG c hi,oV c i hnl h0,Nat.min_eq_left (by omega)];exact ⟨rfl,rfl⟩
end Go.Proofs.YtibjocmpkoepoaaGreat.nc
namespace Go.Proofs.YtibjocmpkoepoaaGreat.nc
open Go.Abs Go.Abs.S
variable [Inhabited XO]
def vt {c:y4}(hs:Q2 c)(hn:y4.ns c<=1000){g:Nat}(h:c.o7.length<=g)(h2:g<y4.ns c)(hok:kL c g):lB c 150 (g - c.o7.length) g:=by
 have hv:g - c.o7.length<c.views.length:=by unfold y4.ns at h2;omega
 have hm:min g (y4.ns c)=g:=by omega
 have p:=al7 c (c.names.take g) (Q7 c g) (g - c.o7.length) hv (hs.on _ hv) (hs.wh _ hv) (hs.items _ hv) (hs.D2 _ hv) (fun j hj=>hs.CR _ j hv hj) (fun j hj=>hs.Qd _ j hv hj) (by rw [X3];omega)
  (fun k hk=>by
   rw [X3] at hk;have h1:=ym hs g k hk (by omega) hok;have h3:=iL hs g k hk (by omega) (tg hok (by omega));rw [cr c hk];exact ⟨h1.2.1,by show (RQ c k).length<=5000;omega,h1.1,by show (R3 c k).length<=5000;omega⟩) (fun s hs' =>yo c (by omega) s hs')
 rw [show nth c.views (g - c.o7.length)=W9 c g from rfl,Bl h h2] at p;unfold lB;rw [hm];refine ⟨_,_,fun h0=> ?_,p⟩;unfold Zl;have hnl:g<c.names.length:=by have:=bk c;omega
 rw [Jo h h2 h0,<- lY c h h2,oV c g hnl h0,Nat.min_eq_left (by omega)];exact ⟨rfl,rfl⟩
end Go.Proofs.YtibjocmpkoepoaaGreat.nc
namespace Go.Proofs.YtibjocmpkoepoaaGreat.nc
open Go.Abs Go.Abs.S
variable [Inhabited XO]
def NO (c:y4)(hs:Q2 c):Pq A 101 [cat c] [.cells (c.enc.map .d),xo] Y8 (jm c c.names (Q7 c (y4.ns c))):=by
 have hnl:=bk c;refine al8 c hs.sm.qA (Zl c) ⟨rfl,rfl⟩ (fun g ds ss ds' ss' h h' =>⟨h.1.trans h'.1.symm,h.2.trans h'.2.symm⟩) _ _ (fun ds ss h=>⟨by rw [h.1,List.take_length],by rw [h.2,Nat.min_eq_right hnl]⟩) ?_;rintro q i ds ss hq hi sR hok ⟨rfl,rfl⟩;have h20:=NB sR
 match q,hq with
 |0,_ =>
  have hi' :i<c.o7.length:=hi;have e:S6 c 0+i=i:=by simp [S6]
  rw [e] at hok ⊢;exact AP hs hi' hok
 |1,_ =>
  have hi' :i<c.views.length:=hi;have e:S6 c 1+i=c.o7.length+i:=by simp [S6,cnt]
  rw [e] at hok ⊢;have:=vt hs (by omega) (g:=c.o7.length+i) (by omega) (by unfold y4.ns;omega) hok;rw [Nat.add_sub_cancel_left] at this;exact this
 |n+2,_ =>
  obtain ⟨f0,f1,f2,f3,f4,f5,f6,f7⟩:=hs.sm.qA;exfalso;unfold cnt at hi;split at hi<;>omega
end Go.Proofs.YtibjocmpkoepoaaGreat.nc


import Derived.Test.YtibjocmpkoepoaaGreatUE2
set_option linter.all false
open Bool renaming not_eq_false' → C7, not_eq_true' → n5, or_eq_false_iff → F3
open List renaming cons_append → A5, drop_of_length_le → l5, length_append → o8, length_map → B0, nil_append → D8, take_of_length_le → B5
open Nat renaming le_of_ble_eq_true → j5, lt_or_ge → y4
namespace Go.Proofs.YtibjocmpkoepoaaGreat.nB
open Go.x9 Go.x9.S
attribute [local irreducible] Rx Ry Rn Ex Pf
structure XO where
 x:Int
abbrev xo [Inhabited XO]:u0:= .cells [.d (num (default:XO).x)]
variable [Inhabited XO]
def HH (c:y5)(ds:List L3)(ss:List eP):o9 :=
 [.cells (c.enc.map .d),xo,.cells (c.enc.map .d),.map (dmap ds),.map (X3 (ss.map (·.1)) 0),.cells (c.enc.map .d++[.map 3,.map 4,C4 2 L6 ss])]
def lW:F2:=⟨0,0,6,6⟩
def lR:F2:=⟨0,6,6,6⟩
def Jb (c:y5)(ds:List L3)(ss:List eP)(s:L3):Pm A 125 [.ptr 5 0,.d (.str s)] (HH c ds ss) lR (.d (num (J6 s (ss.map (·.1)) 0))) (HH c ds ss):=by
 have hf:=vg s (ss.map (·.1)) 0
 suffices h:Pq A 125 [.ptr 5 0,.d (.str s)] (HH c ds ss) lR fun v H1=>v= .d (num (J6 s (ss.map (·.1)) 0))/\H1=HH c ds ss by
  obtain ⟨v,H1,⟨rfl,rfl⟩,h⟩:=h;exact h
 unfold HH;refine Pq.run (b:=6) [.ptr 5 0,.d (.str s),.any,.any,.any] rfl rfl rfl rfl rfl ?_;cases h1:F0 (J6 s (ss.map (·.1)) 0) 0 with
 |true =>
  rw [h1,if_pos rfl] at hf;have h2:=A9 h1;have h3:J6 s (ss.map (·.1)) 0= -1:=by rcases fB s (ss.map (·.1)) 0 with h|h<;>omega
  repeat' (first|refine lk2 hf rfl rfl ?_|refine gx ?_|fail)
  refine tb (false) (fun h4=> ?_) (fun h4=> ?_)
  .cases h4
  refine gr ?_;exact ⟨_,_,rfl,by rw [h3];rfl,rfl⟩
 |false =>
  rw [h1,if_neg (by simp)] at hf
  repeat' (first|refine lk2 hf rfl rfl ?_|refine gx ?_|fail)
  refine tb (true) (fun h4=> ?_) (fun h4=> ?_)
  .refine gr ?_
   exact ⟨_,_,rfl,rfl,rfl⟩
  .cases h4
end Go.Proofs.YtibjocmpkoepoaaGreat.nB
namespace Go.Proofs.YtibjocmpkoepoaaGreat.nB
open Go.x9 Go.x9.S
attribute [local irreducible] Rx Ry Rn Ex Pf
variable [Inhabited XO]
def IY (c:y5)(ds:List L3)(ss:List eP)(s:L3):Pm A 209 [.ptr 5 0,.d (.str s)] (HH c ds ss) lW (.d (num (P3 ds s))) (HH c (M1 ds s) ss):=by
 have hf:=uM s ds
 suffices h:Pq A 209 [.ptr 5 0,.d (.str s)] (HH c ds ss) lW fun v H1=>v= .d (num (P3 ds s))/\H1=HH c (M1 ds s) ss by
  obtain ⟨v,H1,⟨rfl,rfl⟩,h⟩:=h;exact h
 unfold HH;refine Pq.run (b:=6) [.ptr 5 0,.d (.str s),.any] rfl rfl rfl rfl rfl ?_;have h10:s8 3 0=false:=by simp [o6]
 have h11:s8 4 0=false:=by simp [o6]
 have h12:s8 0 0=true:=by simp [o6]
 refine gr ?_;refine tB (!H6 s) ?_ (fun h1=> ?_) (fun h1=> ?_)
 .repeat' (first|refine cl (Dx _) ?_|refine gx ?_|refine fk (h1:=fun hw=> ?_) (h2:=fun hw=> ?_)|refine R8 (h1:=fun hw=> ?_) (h2:=fun hw=> ?_)|refine ⟨rfl,rfl,_,rfl,?_⟩|refine ⟨rfl,rfl⟩|fail)
  all_goals exact cc
 .refine gr ?_
  have e1:P3 ds s=3:=by unfold P3;rw [h1];rfl
  exact ⟨_,_,rfl,by rw [e1];rfl,by unfold M1;rw [e1,h10];rfl⟩
 cases h2:ds.any fun y=>M0 y s with
 |true =>
  rw [h2,if_pos rfl] at hf;have e1:P3 ds s=4:=by unfold P3;rw [h1,h2];rfl
  refine tB (true) ?_ (fun h3=> ?_) (fun h3=> ?_)
  .repeat' (first|refine lk1 hf rfl ?_|refine gx ?_|refine fk (h1:=fun hw=> ?_) (h2:=fun hw=> ?_)|refine R8 (h1:=fun hw=> ?_) (h2:=fun hw=> ?_)|refine ⟨rfl,rfl,_,rfl,?_⟩|refine ⟨rfl,rfl⟩|fail)
   all_goals exact cc
  .refine gr ?_
   exact ⟨_,_,rfl,by rw [e1];rfl,by unfold M1;rw [e1,h11];rfl⟩
  .cases h3
 |false =>
  rw [h2,if_neg (by simp)] at hf;have e1:P3 ds s=0:=by unfold P3;rw [h1,h2];rfl
  have hk:Data.aT .s (.str s) (.str s)=some true:=by simp [Data.aT]
  refine tB (false) ?_ (fun h3=> ?_) (fun h3=> ?_)
  .repeat' (first|refine lk1 hf rfl ?_|refine gx ?_|refine fk (h1:=fun hw=> ?_) (h2:=fun hw=> ?_)|refine R8 (h1:=fun hw=> ?_) (h2:=fun hw=> ?_)|refine ⟨rfl,rfl,_,rfl,?_⟩|refine ⟨rfl,rfl⟩|fail)
   all_goals exact cc
  .cases h3
  repeat' (first|refine mp (zA s ds h2) hk (h2:= ?_)|refine gx ?_|fail)
  exact ⟨_,_,rfl,by rw [e1];rfl,by unfold M1;rw [e1,h12];rfl⟩
def AH (c:y5)(ds:List L3)(ss:List eP)(s:L3)(nm:List L3)(ty:List Int)(hs:((ss.map (·.1)).any fun y=>M0 y s)=false)(hl:ss.length<=1000) :
  Pm A 212 [.ptr 5 0,.d (.str s),qu nm ty] (HH c ds ss) lW (.tuple []) (HH c ds (ss++[(s,nm,ty)])):=by
 have hput:=Av s (ss.map (·.1)) 0 hs;rw [B0,Nat.zero_add] at hput;have hk:Data.aT .s (.str s) (.str s)=some true:=by simp [Data.aT]
 have hr:roomFor (ss.length+1) 48=true:=by simp only [roomFor,decide_eq_true_eq];omega
 suffices h:Pq A 212 [.ptr 5 0,.d (.str s),qu nm ty] (HH c ds ss) lW fun v H1=>v= .tuple []/\H1=HH c ds (ss++[(s,nm,ty)]) by
  obtain ⟨v,H1,⟨rfl,rfl⟩,h⟩:=h;exact h
 unfold HH;refine Pq.run (b:=6) [.ptr 5 0,.d (.str s),qu nm ty,.any] rfl rfl rfl rfl rfl ?_
 repeat' (first|refine mp hput hk (h2:= ?_)|refine o2 ?_|refine ac2 (a:=(s,nm,ty)) (xs:=ss) (enc:=L6) hr rfl (h2:= ?_)|refine soO (h2:= ?_)|refine gx ?_|fail)
 refine ⟨_,_,rfl,rfl,?_⟩;have e:((ss++[(s,nm,ty)]).map (·.1))=ss.map (·.1)++[s]:=by simp
 rw [e];rfl
end Go.Proofs.YtibjocmpkoepoaaGreat.nB
namespace Go.Proofs.YtibjocmpkoepoaaGreat.nB
open Go.x9 Go.x9.S
attribute [local irreducible] Rx Ry Rn Ex Pf
variable [Inhabited XO]
def l9:F2:=⟨0,0,10,10⟩
def Uc:F2:=⟨0,10,10,10⟩
def US (a0 ax a1 a2 a3 a4 a5 a7:u0)(ty:List Int)(x:GL)(h0:x.expr.length<=1000)(h1:ty.length<=100000) :
  Pm A 257 [.ptr 9 0,.ptr 7 0] [a0,ax,a1,a2,a3,a4,a5,.cells [.d (ints ty)],a7,.cells (x.enc.map .d)] Uc (pair (G7 x.expr ty)) [a0,ax,a1,a2,a3,a4,a5,.cells [.d (ints ty)],a7,.cells (x.enc.map .d)]:=by
 have _x:=(default:XO);have p1:=IV x.expr ty h0 h1;unfold pair at *
 suffices h:Pq A 257 [.ptr 9 0,.ptr 7 0] [a0,ax,a1,a2,a3,a4,a5,.cells [.d (ints ty)],a7,.cells (x.enc.map .d)] Uc fun v H1=>v= .tuple [.d (num (G7 x.expr ty).1),.d (num (G7 x.expr ty).2)]/\H1=[a0,ax,a1,a2,a3,a4,a5,.cells [.d (ints ty)],a7,.cells (x.enc.map .d)] by
  obtain ⟨v,H1,⟨rfl,rfl⟩,h⟩:=h;exact h
 refine Pq.run (b:=10) [.ptr 9 0,.ptr 7 0,.any,.any] rfl rfl rfl rfl rfl ?_
 repeat' (first|refine cl (p1) ?_|refine gx ?_|fail)
 exact ⟨_,_,rfl,rfl,rfl⟩
def UT (a0 ax a1 a2 a3 a4 a5 a7:u0)(ty:List Int)(x:Ce)(h0:x.expr.length<=1000)(h1:ty.length<=100000) :
  Pm A 258 [.ptr 9 0,.ptr 7 0] [a0,ax,a1,a2,a3,a4,a5,.cells [.d (ints ty)],a7,.cells (x.enc.map .d)] Uc (pair (cD ty x)) [a0,ax,a1,a2,a3,a4,a5,.cells [.d (ints ty)],a7,.cells (x.enc.map .d)]:=by
 have _x:=(default:XO);have p1:=ae1 ty x h0 h1;unfold pair at *
 suffices h:Pq A 258 [.ptr 9 0,.ptr 7 0] [a0,ax,a1,a2,a3,a4,a5,.cells [.d (ints ty)],a7,.cells (x.enc.map .d)] Uc fun v H1=>v= .tuple [.d (num (cD ty x).1),.d (num (cD ty x).2)]/\H1=[a0,ax,a1,a2,a3,a4,a5,.cells [.d (ints ty)],a7,.cells (x.enc.map .d)] by
  obtain ⟨v,H1,⟨rfl,rfl⟩,h⟩:=h;exact h
 refine Pq.run (b:=10) [.ptr 9 0,.ptr 7 0,.any,.any] rfl rfl rfl rfl rfl ?_
 repeat' (first|refine cl (p1) ?_|refine gx ?_|fail)
 exact ⟨_,_,rfl,rfl,rfl⟩
set_option maxHeartbeats 8000000 in
def IZ (f:FuncId)(hf1:A.prom f=false)(hf2:A.mode f=1)(a0 ax a1 a2 a3 a4 a5:u0)(ty:List Int)(nm:List L3)(tys:List Int)(cs:List x9.Data)(s:L3)(r:Int×Int)(hn:nm.length<=10000)(ht:tys.length<=10000)
  (hc:∀ a7,Pm A f [.ptr 9 0,.ptr 7 0] [a0,ax,a1,a2,a3,a4,a5,.cells [.d (ints ty)],a7,.cells (cs.map .d)] Uc (pair r) [a0,ax,a1,a2,a3,a4,a5,.cells [.d (ints ty)],a7,.cells (cs.map .d)]) :
  Pm A 256 [.ptr 8 0,.d (.str s),.func f [] [.ptr 9 0,.ptr 7 0]] [a0,ax,a1,a2,a3,a4,a5,.cells [.d (ints ty)],.cells (kQ nm tys),.cells (cs.map .d)] l9 (.d (num (aD nm s r)))
   [a0,ax,a1,a2,a3,a4,a5,.cells [.d (ints ty)],.cells (kQ (kr nm s r) (ku nm tys s r)),.cells (cs.map .d)]:=by
 have _x:=(default:XO);have p1:=hc (.cells (kQ nm tys));have p2:=ad6 nm s (by omega);unfold pair at p1
 suffices h:Pq A 256 [.ptr 8 0,.d (.str s),.func f [] [.ptr 9 0,.ptr 7 0]] [a0,ax,a1,a2,a3,a4,a5,.cells [.d (ints ty)],.cells (kQ nm tys),.cells (cs.map .d)] l9 fun v H1=>v= .d (num (aD nm s r))/\H1=[a0,ax,a1,a2,a3,a4,a5,.cells [.d (ints ty)],.cells (kQ (kr nm s r) (ku nm tys s r)),.cells (cs.map .d)] by
  obtain ⟨v,H1,⟨rfl,rfl⟩,h⟩:=h;exact h
 have same:∀ e,aD nm s r=e->s8 e 0=false->kr nm s r=nm/\ku nm tys s r=tys:=fun e h1 h2=>by unfold kr ku;rw [h1,h2];exact ⟨rfl,rfl⟩
 have hr1:roomFor (nm.length+1) 16=true:=by simp only [roomFor,decide_eq_true_eq];omega
 have Xo:roomFor (tys.length+1) 8=true:=by simp only [roomFor,decide_eq_true_eq];omega
 refine Pq.run (b:=10) [.ptr 8 0,.d (.str s),.func f [] [.ptr 9 0,.ptr 7 0],.any,.any,.any] rfl rfl rfl rfl rfl ?_;refine gr ?_;refine tB (!H6 s) ?_ (fun h1=> ?_) (fun h1=> ?_)
 .repeat' (first|refine cl (Dx _) ?_|refine gx ?_|refine fk (h1:=fun hw=> ?_) (h2:=fun hw=> ?_)|refine R8 (h1:=fun hw=> ?_) (h2:=fun hw=> ?_)|refine ⟨rfl,rfl,_,rfl,?_⟩|refine ⟨rfl,rfl⟩|fail)
  all_goals exact cc
 .have e1:aD nm s r=3:=by unfold aD;rw [h1];rfl
  have e2:=same 3 e1 (by simp [o6]);refine gr ?_;exact ⟨_,_,rfl,by rw [e1];rfl,by rw [e2.1,e2.2];rfl⟩
 unfold kQ;refine gr ?_;refine tB (nm.any fun y=>M0 y s) ?_ (fun h2=> ?_) (fun h2=> ?_)
 .repeat' (first|refine cl (p2) ?_|refine gx ?_|refine fk (h1:=fun hw=> ?_) (h2:=fun hw=> ?_)|refine R8 (h1:=fun hw=> ?_) (h2:=fun hw=> ?_)|refine ⟨rfl,rfl,_,rfl,?_⟩|refine ⟨rfl,rfl⟩|fail)
  all_goals exact cc
 .have e1:aD nm s r=4:=by unfold aD;rw [h1,h2];rfl
  have e2:=same 4 e1 (by simp [o6]);refine gr ?_;exact ⟨_,_,rfl,by rw [e1];rfl,by rw [e2.1,e2.2];rfl⟩
 unfold kQ at p1
 repeat' (first|refine cv1 (gj:=hf1) (hm:=hf2) p1 rfl ?_|refine gx ?_|fail)
 refine tb (!s8 r.2 0) (fun h3=> ?_) (fun h3=> ?_)
 .have e1:aD nm s r=r.2:=by unfold aD;rw [h1,h2,h3];rfl
  have e2:=same _ e1 (by simpa using h3);refine gr ?_;exact ⟨_,_,rfl,by rw [e1];rfl,by rw [e2.1,e2.2];rfl⟩
 have e1:aD nm s r=0:=by unfold aD;rw [h1,h2,h3];rfl
 have e2:kr nm s r=nm++[s]:=by unfold kr;rw [e1];simp [o6]
 have e3:ku nm tys s r=tys++[r.1]:=by unfold ku;rw [e1];simp [o6]
 refine gr ?_;refine ac1 (a:=s) (xs:=nm) (enc:=encS) hr1 rfl (h2:= ?_);refine gr ?_;refine ac1 (a:=r.1) (xs:=tys) (enc:=fun n=>[num n]) Xo rfl (h2:= ?_)
 repeat' (first|refine soO (h2:= ?_)|refine gx ?_|fail)
 exact ⟨_,_,rfl,by rw [e1];rfl,by rw [e2,e3];rfl⟩
end Go.Proofs.YtibjocmpkoepoaaGreat.nB
namespace Go.Proofs.YtibjocmpkoepoaaGreat.nB
open Go.x9 Go.x9.S
attribute [local irreducible] Rx Ry Rn Ex Pf
variable [Inhabited XO]
set_option maxHeartbeats 32000000 in
def UP (c:y5)(ds:List L3)(ss:List eP)(v:Vw)(L R:List Int)(hL:L.length<=5000)(hR:R.length<=5000)(h0:v.on.length<=1000)(h1:v.wh.length<=1000)(h2:v.items.length<=1000)(h3:v.D4.length<=1000)(h4:∀ i,i<v.items.length->(nth v.items i).expr.length<=1000)(h5:∀ i,i<v.D4.length->(nth v.D4 i).expr.length<=1000)
  (hs:((ss.map (·.1)).any fun y=>M0 y v.name)=false) (hss:ss.length<=1000):Pm A 221 [.ptr 5 0,vw v,.d (ints L),.d (ints R)] (HH c ds ss) lW (.d (num (Z0 v L R))) (HH c ds (mZ ss v L R)):=by
 suffices h:Pq A 221 [.ptr 5 0,vw v,.d (ints L),.d (ints R)] (HH c ds ss) lW fun w H1=>w= .d (num (Z0 v L R))/\H1=HH c ds (mZ ss v L R) by
  obtain ⟨w,H1,⟨rfl,rfl⟩,h⟩:=h;exact h
 have same:∀ e,Z0 v L R=e->s8 e 0=false->mZ ss v L R=ss:=fun e g1 g2=>by unfold mZ;rw [g1,g2];rfl
 have AF:=AH c ds ss v.name ((Z3 v).map yP.name) (W9 v (L++R)) hs hss;have UD:=ae0 [L,R] (by simp) (by
  intro i hi
  match i,hi with
  |0,_=>rw [V0];omega
  |1,_=>rw [oq,V0];omega)
 have pW:=IV v.wh (L++R) h1 (by simp;omega);unfold pair at pW;have hfl:[L,R].flatten=L++R:=by simp
 rw [hfl] at UD;have hTl:(L++R).length<=100000:=by simp;omega
 unfold HH at *
 refine Pq.run (b:=6) [.ptr 5 0,vw v,.d (ints L),.d (ints R),.any,.any,.any,.any,.any,.any,.any,.any,.any,.any,.any,.any,.any,.any,.any,.any,.any,.any,.any,.any] rfl rfl rfl rfl rfl ?_;refine gr ?_;refine Ex.T7 (fun k T H=>∃ (i:Nat),T=[.ptr 5 0,.any,.d (ints L),.d (ints R),.ptr 6 0,.any,.any,.any,.any,.any,.any,.any,.any,.any,.any,.d (z8 (fun p=>[num p.1,num p.2]) v.on),.d (num v.on.length),.d (num i),.any,.any,.any,.any,.any,.any]/\H=[.cells (c.enc.map .d),xo,.cells (c.enc.map .d),.map (dmap ds),.map (X3 (ss.map (·.1)) 0),.cells (c.enc.map .d++[.map 3,.map 4,C4 2 L6 ss]),.cells (v.enc.map .d)]/\i+k=v.on.length/\I4 L R v.on=I4 L R (v.on.drop i)) ?_ (k:=v.on.length) ⟨0,rfl,rfl,by simp,by simp⟩;rintro k _ _ ⟨i,rfl,rfl,hk,hi⟩;refine Ex.seq ?_;refine tb (F0 i v.on.length) (fun g1=> ?_) (fun g1=> ?_)
 .have g2:=A9 g1
  rw [B9 (by omega)] at hi;refine gr ?_;refine tB (!y7 (nth v.on i).1 0 (L.length - 1)|| !y7 (nth v.on i).2 0 (R.length - 1)) ?_ (fun g3=> ?_) (fun g3=> ?_)
  .repeat' (first|refine cl (IU _ _ _) ?_|refine gx ?_|refine fk (h1:=fun hw=> ?_) (h2:=fun hw=> ?_)|refine R8 (h1:=fun hw=> ?_) (h2:=fun hw=> ?_)|refine ⟨rfl,rfl,_,rfl,?_⟩|refine ⟨rfl,rfl⟩|fail)
   all_goals exact cc
  .have e1:I4 L R v.on=3:=by rw [hi,I4,g3];rfl
   have e2:Z0 v L R=3:=by unfold Z0;rw [e1];simp [o6]
   refine gr ?_;exact ⟨_,_,rfl,by rw [e2];rfl,by rw [same 3 e2 (by simp [o6])];rfl⟩
  have g4:=g3;simp [y7,s9] at g4;refine gr ?_;refine tb (!s8 (nth L (nth v.on i).1.toNat) (nth R (nth v.on i).2.toNat)) (fun g5=> ?_) (fun g5=> ?_)
  .have e1:I4 L R v.on=5:=by rw [hi,I4,g3,g5];rfl
   have e2:Z0 v L R=5:=by unfold Z0;rw [e1];simp [o6]
   refine gr ?_;exact ⟨_,_,rfl,by rw [e2];rfl,by rw [same 5 e2 (by simp [o6])];rfl⟩
  .refine gr ?_
   exact ⟨k - 1,by omega,_,_,rfl,i+1,rfl,rfl,by omega,by rw [hi,I4,g3,g5];rfl⟩
 have g2:=B8 g1;rw [l5 (by omega)] at hi;have e0:(!s8 (I4 L R v.on) 0)=false:=by rw [hi];simp [I4,o6]
 clear g1 g2 hk hi
 repeat' (first|refine cl (UD) ?_|refine gx ?_|fail)
 refine Ex.OD (fun s=>∃ (w1 w2 w3 w5 w6 w8 w9 mR kW OG Wc Wd w15 w16 w17 w18 w19 ZK ZL ZM ZN:c8),s=⟨[.ptr 5 0,w1,w2,w3,.ptr 6 0,w5,w6,.ptr 7 0,w8,w9,mR,kW,OG,Wc,Wd,w15,w16,w17,w18,w19,ZK,ZL,ZM,ZN],[.cells (c.enc.map .d),xo,.cells (c.enc.map .d),.map (dmap ds),.map (X3 (ss.map (·.1)) 0),.cells (c.enc.map .d++[.map 3,.map 4,C4 2 L6 ss]),.cells (v.enc.map .d),.cells [.d (ints (L++R))]]⟩/\Z0 v L R=V7 (L++R) [] (Z3 v)) ?_ ?_
 .skip
  refine tb (F0 0 v.wh.length) (fun g6=> ?_) (fun g6=> ?_)
  .repeat' (first|refine cl (pW) ?_|refine gx ?_|fail)
   refine tb (!s8 (G7 v.wh (L++R)).2 0) (fun g7=> ?_) (fun g7=> ?_)
   .have e1:Z0 v L R=(G7 v.wh (L++R)).2:=by unfold Z0;rw [e0,g6,g7];rfl
    refine gr ?_;exact ⟨_,_,rfl,by rw [e1];rfl,by rw [same _ e1 (by simpa using g7)];rfl⟩
   refine gr ?_;refine tb (!s8 (G7 v.wh (L++R)).1 1) (fun g8=> ?_) (fun g8=> ?_)
   .have e1:Z0 v L R=5:=by unfold Z0;rw [e0,g6,g7,g8];rfl
    refine gr ?_;exact ⟨_,_,rfl,by rw [e1];rfl,by rw [same 5 e1 (by simp [o6])];rfl⟩
   .have e1:Z0 v L R=V7 (L++R) [] (Z3 v):=by unfold Z0;rw [e0,g6,g7,g8];rfl
    refine gr ?_;exact ⟨_,_,_,_,_,_,_,_,_,_,_,_,_,_,_,_,_,_,_,_,_,rfl,e1⟩
  .have e1:Z0 v L R=V7 (L++R) [] (Z3 v):=by unfold Z0;rw [e0,g6];rfl
   refine gr ?_;exact ⟨_,_,_,_,_,_,_,_,_,_,_,_,_,_,_,_,_,_,_,_,_,rfl,e1⟩
 rintro _ ⟨w1,w2,w3,w5,w6,w8,w9,mR,kW,OG,Wc,Wd,w15,w16,w17,w18,w19,ZK,ZL,ZM,ZN,rfl,hin⟩;refine gr ?_;refine Ex.T7 (fun k T H=>∃ (i:Nat) (nm:List L3) (tys:List Int),T=[.ptr 5 0,.any,.any,.any,.ptr 6 0,.any,.any,.ptr 7 0,.any,.any,.ptr 8 0,.any,.any,.any,.any,.any,.any,.any,.d (z8 GL.enc v.items),.d (num v.items.length),.d (num i),.any,.any,.any]/\H=[.cells (c.enc.map .d),xo,.cells (c.enc.map .d),.map (dmap ds),.map (X3 (ss.map (·.1)) 0),.cells (c.enc.map .d++[.map 3,.map 4,C4 2 L6 ss]),.cells (v.enc.map .d),.cells [.d (ints (L++R))],.cells (kQ nm tys)]/\i+k=v.items.length/\nm=(v.items.take i).map GL.name/\tys=(v.items.take i).map (fun x=>(G7 x.expr (L++R)).1)/\Z0 v L R=V7 (L++R) nm ((Z3 v).drop i)) ?_ (k:=v.items.length) ⟨0,[],[],rfl,rfl,by simp,by simp,by simp,by simpa using hin⟩;rintro k _ _ ⟨i,nm,tys,rfl,rfl,hk,hnm,yh,hi⟩;have NH:nm.length=i:=by rw [hnm];simp;omega
 have mY:tys.length=i:=by rw [yh];simp;omega
 refine Ex.seq ?_;refine tb (F0 i v.items.length) (fun g1=> ?_) (fun g1=> ?_)
 .have g2:=A9 g1
  have hel:=ga v;rw [B9 (by omega),pI v (by omega),nL] at hi;have MD:=IZ 257 rfl rfl (.cells (c.enc.map .d)) xo (.cells (c.enc.map .d)) (.map (dmap ds)) (.map (X3 (ss.map (·.1)) 0)) (.cells (c.enc.map .d++[.map 3,.map 4,C4 2 L6 ss])) (.cells (v.enc.map .d)) (L++R) nm tys (nth v.items i).enc (nth v.items i).name (G7 (nth v.items i).expr (L++R)) (by omega) (by omega) (fun a7=>US (.cells (c.enc.map .d)) xo (.cells (c.enc.map .d)) (.map (dmap ds)) (.map (X3 (ss.map (·.1)) 0)) (.cells (c.enc.map .d++[.map 3,.map 4,C4 2 L6 ss])) (.cells (v.enc.map .d)) a7 (L++R) (nth v.items i) (h4 i (by omega)) hTl)
  repeat' (first|refine c0 MD rfl (h2:= ?_)|refine gx ?_|fail)
  refine tb (!s8 (aD nm (nth v.items i).name (G7 (nth v.items i).expr (L++R))) 0) (fun g3=> ?_) (fun g3=> ?_)
  .rw [g3,if_pos rfl] at hi
   refine gr ?_;exact ⟨_,_,rfl,by rw [hi];rfl,by rw [same _ hi (by simpa using g3)];rfl⟩
  .rw [g3,if_neg (by simp)] at hi
   have e1:s8 (aD nm (nth v.items i).name (G7 (nth v.items i).expr (L++R))) 0=true:=by simpa using g3
   have e2:kr nm (nth v.items i).name (G7 (nth v.items i).expr (L++R))=nm++[(nth v.items i).name]:=by unfold kr;rw [e1];rfl
   have e3:ku nm tys (nth v.items i).name (G7 (nth v.items i).expr (L++R))=tys++[(G7 (nth v.items i).expr (L++R)).1]:=by unfold ku;rw [e1];rfl
   rw [e2,e3];refine gr ?_;exact ⟨k - 1,by omega,_,_,rfl,i+1,nm++[(nth v.items i).name],tys++[(G7 (nth v.items i).expr (L++R)).1],rfl,rfl,by omega,by rw [J3 (by omega),hnm];simp,by rw [J3 (by omega),yh];simp,hi⟩
 have g2:=B8 g1;rw [B5 (by omega)] at hnm yh;have hie:i=v.items.length:=by omega
 subst hie;clear g1 g2 hk;refine gr ?_;refine Ex.T7 (fun k T H=>∃ (i:Nat) (tj:List L3) (mG:List Int),T=[.ptr 5 0,.any,.any,.any,.ptr 6 0,.any,.any,.ptr 7 0,.any,.any,.ptr 8 0,.any,.any,.any,.any,.any,.any,.any,.any,.any,.any,.d (z8 Ce.enc v.D4),.d (num v.D4.length),.d (num i)]/\H=[.cells (c.enc.map .d),xo,.cells (c.enc.map .d),.map (dmap ds),.map (X3 (ss.map (·.1)) 0),.cells (c.enc.map .d++[.map 3,.map 4,C4 2 L6 ss]),.cells (v.enc.map .d),.cells [.d (ints (L++R))],.cells (kQ tj mG)]/\i+k=v.D4.length/\tj=nm++(v.D4.take i).map Ce.name/\mG=tys++(v.D4.take i).map (sr (L++R))/\Z0 v L R=V7 (L++R) tj ((Z3 v).drop (v.items.length+i))) ?_ (k:=v.D4.length) ⟨0,nm,tys,rfl,rfl,by simp,by simp,by simp,hi⟩;clear hi;rintro k _ _ ⟨i,tj,mG,rfl,rfl,hk,Ft,zZ,hi⟩;have hl3:tj.length=v.items.length+i:=by rw [Ft,o8,NH];simp;omega
 have hl4:mG.length=v.items.length+i:=by rw [zZ,o8,mY];simp;omega
 refine Ex.seq ?_;have hel:=ga v;refine tb (F0 i v.D4.length) (fun g1=> ?_) (fun g1=> ?_)
 .have g2:=A9 g1
  rw [B9 (by omega),sO v (by omega) (by omega),Nat.add_sub_cancel_left,qw] at hi;have MD:=IZ 258 rfl rfl (.cells (c.enc.map .d)) xo (.cells (c.enc.map .d)) (.map (dmap ds)) (.map (X3 (ss.map (·.1)) 0)) (.cells (c.enc.map .d++[.map 3,.map 4,C4 2 L6 ss])) (.cells (v.enc.map .d)) (L++R) tj mG (nth v.D4 i).enc (nth v.D4 i).name (cD (L++R) (nth v.D4 i)) (by omega) (by omega) (fun a7=>UT (.cells (c.enc.map .d)) xo (.cells (c.enc.map .d)) (.map (dmap ds)) (.map (X3 (ss.map (·.1)) 0)) (.cells (c.enc.map .d++[.map 3,.map 4,C4 2 L6 ss])) (.cells (v.enc.map .d)) a7 (L++R) (nth v.D4 i) (h5 i (by omega)) hTl)
  repeat' (first|refine c0 MD rfl (h2:= ?_)|refine gx ?_|fail)
  refine tb (!s8 (aD tj (nth v.D4 i).name (cD (L++R) (nth v.D4 i))) 0) (fun g3=> ?_) (fun g3=> ?_)
  .rw [g3,if_pos rfl] at hi
   refine gr ?_;exact ⟨_,_,rfl,by rw [hi];rfl,by rw [same _ hi (by simpa using g3)];rfl⟩
  .rw [g3,if_neg (by simp)] at hi
   have e1:s8 (aD tj (nth v.D4 i).name (cD (L++R) (nth v.D4 i))) 0=true:=by simpa using g3
   have e2:kr tj (nth v.D4 i).name (cD (L++R) (nth v.D4 i))=tj++[(nth v.D4 i).name]:=by unfold kr;rw [e1];rfl
   have e3:ku tj mG (nth v.D4 i).name (cD (L++R) (nth v.D4 i))=mG++[(cD (L++R) (nth v.D4 i)).1]:=by unfold ku;rw [e1];rfl
   have e4:s8 (cD (L++R) (nth v.D4 i)).2 0=true:=by
    have e5:=aQ e1;unfold aD at e5;cases c1:(!H6 (nth v.D4 i).name) with
    |true=>rw [c1] at e5;simp at e5
    |false =>
     rw [c1] at e5;cases c2:tj.any fun y=>M0 y (nth v.D4 i).name with
     |true=>rw [c2] at e5;simp at e5
     |false =>
      rw [c2] at e5;cases c3:s8 (cD (L++R) (nth v.D4 i)).2 0 with
      |true=>rfl
      |false=>rw [c3] at e5;simp at e5;rw [e5] at c3;simp [o6] at c3
   rw [e2,e3];refine gr ?_;exact ⟨k - 1,by omega,_,_,rfl,i+1,tj++[(nth v.D4 i).name],mG++[(cD (L++R) (nth v.D4 i)).1],rfl,rfl,by omega,by rw [J3 (by omega),Ft];simp,by rw [J3 (by omega),zZ,No e4];simp,hi⟩
 .have g2:=B8 g1
  rw [B5 (by omega)] at Ft zZ;rw [l5 (by omega)] at hi;have e1:Z0 v L R=0:=hi;have e2:mZ ss v L R=ss++[(v.name,(Z3 v).map yP.name,W9 v (L++R))]:=by unfold mZ;rw [e1];simp [o6]
  have e3:tj=(Z3 v).map yP.name:=by rw [Ft,hnm];simp [Z3,Function.comp_def]
  have e4:mG=W9 v (L++R):=by rw [zZ,yh];rfl
  rw [e2,e3,e4];refine gr ?_;unfold kQ
  repeat' (first|refine c0 AF rfl (h2:= ?_)|refine gx ?_|fail)
  exact ⟨_,_,rfl,by rw [e1];rfl,rfl⟩
end Go.Proofs.YtibjocmpkoepoaaGreat.nB
namespace Go.Proofs.YtibjocmpkoepoaaGreat.nB
open Go.x9 Go.x9.S
attribute [local irreducible] Rx Ry Rn Ex Pf
variable [Inhabited XO]
set_option maxHeartbeats 32000000 in
def ap9 (c:y5)(ds:List L3)(ss:List eP)(i:Nat)(hi:i<c.views.length)(h0:(nth c.views i).on.length<=1000)(h1:(nth c.views i).wh.length<=1000)(h2:(nth c.views i).items.length<=1000)(h3:(nth c.views i).D4.length<=1000)(h4:∀ j,j<(nth c.views i).items.length->(nth (nth c.views i).items j).expr.length<=1000)(h5:∀ j,j<(nth c.views i).D4.length->(nth (nth c.views i).D4 j).expr.length<=1000)
  (hss:ss.length<=1000) (ht:∀ k,k<ss.length->0<(nth ss k).2.1.length/\(nth ss k).2.1.length<=5000/\0<(nth ss k).2.2.length/\(nth ss k).2.2.length<=5000) (hsub:∀ s,(ds.any fun y=>M0 y s)=false->((ss.map (·.1)).any fun y=>M0 y s)=false) :
  Pm A 150 [.ptr 5 0,.d (num i)] (HH c ds ss) lW (.d (num (T8 ss ds (nth c.views i)))) (HH c (M1 ds (nth c.views i).name) (fe ss ds (nth c.views i))):=by
 generalize hx:nth c.views i=v at *
 have Ms:=IY c ds ss v.name;have pL:=Jb c (M1 ds v.name) ss v.left;have pR:=Jb c (M1 ds v.name) ss v.right;have bL:=uV ss v.left;have bR:=uV ss v.right;have UC:=ad2 v h2 h3;have hno:P3 ds v.name=0->((ss.map (·.1)).any fun y=>M0 y v.name)=false:=fun h=>by
  refine hsub _ ?_;unfold P3 at h;cases c1:(!H6 v.name) with
  |true=>rw [c1] at h;simp at h
  |false =>
   rw [c1] at h;cases c2:ds.any fun y=>M0 y v.name with
   |false=>rfl
   |true=>rw [c2] at h;simp at h
 suffices h:Pq A 150 [.ptr 5 0,.d (num i)] (HH c ds ss) lW fun w H1=>w= .d (num (T8 ss ds v))/\H1=HH c (M1 ds v.name) (fe ss ds v) by
  obtain ⟨w,H1,⟨rfl,rfl⟩,h⟩:=h;exact h
 have same:∀ e,T8 ss ds v=e->s8 e 0=false->fe ss ds v=ss:=fun e g1 g2=>by unfold fe;rw [g1,g2];rfl
 have ao3:∀ L R:List Int,L.length<=5000->R.length<=5000->P3 ds v.name=0->Pm A 221 [.ptr 5 0,vw v,.d (ints L),.d (ints R)] (HH c (M1 ds v.name) ss) lW (.d (num (Z0 v L R))) (HH c (M1 ds v.name) (mZ ss v L R)):=fun L R hL hR hd=>UP c (M1 ds v.name) ss v L R hL hR h0 h1 h2 h3 h4 h5 (hno hd) hss
 have AF:∀ nm ty,P3 ds v.name=0->Pm A 212 [.ptr 5 0,.d (.str v.name),qu nm ty] (HH c (M1 ds v.name) ss) lW (.tuple []) (HH c (M1 ds v.name) (ss++[(v.name,nm,ty)])):=fun nm ty hd=>AH c (M1 ds v.name) ss v.name nm ty (hno hd) hss
 unfold HH at *
 refine Pq.run (b:=6) [.ptr 5 0,.d (num i),.any,.any,.any,.any,.any] rfl rfl rfl rfl rfl ?_;refine gr ?_;rw [hx]
 repeat' (first|refine c0 Ms rfl (h2:= ?_)|refine gx ?_|fail)
 refine tb (!s8 (P3 ds v.name) 0) (fun g1=> ?_) (fun g1=> ?_)
 .have e1:T8 ss ds v=P3 ds v.name:=by unfold T8;rw [g1];rfl
  refine gr ?_;exact ⟨_,_,rfl,by rw [e1];rfl,by rw [same _ e1 (by simpa using g1)];rfl⟩
 have hd0:P3 ds v.name=0:=aQ (by simpa using g1);refine gr ?_;refine tb (!s8 v.kind 0&& !s8 v.kind 1&& !s8 v.kind 2) (fun g2=> ?_) (fun g2=> ?_)
 .have e1:T8 ss ds v=1:=by unfold T8;rw [g1,g2];rfl
  refine gr ?_;exact ⟨_,_,rfl,by rw [e1];rfl,by rw [same 1 e1 (by simp [o6])];rfl⟩
 refine gr ?_;refine tB (F0 (J6 v.left (ss.map (·.1)) 0) 0||(!M0 v.right []&&F0 (J6 v.right (ss.map (·.1)) 0) 0)) ?_ (fun g3=> ?_) (fun g3=> ?_)
 .repeat' (first|refine c1 pL rfl ?_|refine c1 pR rfl ?_|refine gx ?_|refine fk (h1:=fun hw=> ?_) (h2:=fun hw=> ?_)|refine R8 (h1:=fun hw=> ?_) (h2:=fun hw=> ?_)|refine ⟨rfl,rfl,_,rfl,?_⟩|refine ⟨rfl,rfl⟩|fail)
  all_goals exact cc
 .have e1:T8 ss ds v=7:=by unfold T8;rw [g1,g2,g3];rfl
  refine gr ?_;exact ⟨_,_,rfl,by rw [e1];rfl,by rw [same 7 e1 (by simp [o6])];rfl⟩
 have g3' :=g3;simp only [F3] at g3';have f1:=B8 g3'.1;have f2:M0 v.right []=false->0<=J6 v.right (ss.map (·.1)) 0:=fun h=>by
  have:=g3'.2;simp only [h,Bool.not_false,Bool.true_and] at this;exact B8 this
 have htL:=ht (J6 v.left (ss.map (·.1)) 0).toNat (by omega);have hsL:nth ss (J6 v.left (ss.map (·.1)) 0).toNat=S5 ss v.left:=rfl;rw [hsL] at htL;refine gr ?_;refine tB (!iW v) ?_ (fun g4=> ?_) (fun g4=> ?_)
 .repeat' (first|refine cl (UC) ?_|refine gx ?_|refine fk (h1:=fun hw=> ?_) (h2:=fun hw=> ?_)|refine R8 (h1:=fun hw=> ?_) (h2:=fun hw=> ?_)|refine ⟨rfl,rfl,_,rfl,?_⟩|refine ⟨rfl,rfl⟩|fail)
  all_goals exact cc
 .have e1:T8 ss ds v=1:=by unfold T8;rw [g1,g2,g3,g4];rfl
  refine gr ?_;exact ⟨_,_,rfl,by rw [e1];rfl,by rw [same 1 e1 (by simp [o6])];rfl⟩
 refine gr ?_;refine Ex.nH [.cells (c.enc.map .d),xo,.cells (c.enc.map .d),.map (dmap (M1 ds v.name)),.map (X3 (ss.map (·.1)) 0),.cells (c.enc.map .d++[.map 3,.map 4,C4 2 L6 ss]),.cells (v.enc.map .d)] rfl ?_;refine Ex.region (Rn.z 5 7 [.cells (c.enc.map .d),xo,.cells (c.enc.map .d),.map (dmap (M1 ds v.name)),.map (X3 (ss.map (·.1)) 0),.cells (c.enc.map .d++[.map 3,.map 4,C4 2 L6 ss]),.cells (v.enc.map .d),.dead] rfl rfl (by decide) rfl rfl ?_);refine zm ?_;refine zp (rs:=[]) (.ptr 5 0) rfl ?_;refine zp (rs:=[]) (.ptr 5 10) rfl ?_;refine zp (rs:=[5]) (.d (z8 L6 ss)) rfl ?_;refine zm ?_;refine zp (rs:=[]) (.ptr 6 2) rfl ?_;refine zp (rs:=[6]) (.d (.str v.left)) rfl ?_;refine zc pL rfl ?_ (hmn:=j5 rfl);refine zix (xs:=ss) (enc:=L6) (e:=J6 v.left (ss.map (·.1)) 0) (by omega) ?_;refine zle ?_;rw [hsL];refine za (h2:= ?_);refine zs (h2:= ?_);refine zn ?_;refine gr ?_;refine Ex.OD (fun s=>∃ (w0 w1 w2 w4 wa wb:c8),s=⟨[.ptr 5 0,w1,w2,.ptr 6 0,w4,.ptr 7 0,.ptr 8 0],[.cells (c.enc.map .d),xo,.cells (c.enc.map .d),.map (dmap (M1 ds v.name)),.map (X3 (ss.map (·.1)) 0),.cells (c.enc.map .d++[.map 3,.map 4,C4 2 L6 ss]),.cells (v.enc.map .d),.cells ((L6 (S5 ss v.left)).map .d),.cells [wa,wb]]⟩/\wa.J2= .d (z8 encS (rY ss v).2.1)/\wb.J2= .d (ints (rY ss v).2.2)/\(rY ss v).2.2.length<=5000) ?_ ?_
 .skip
  refine tb (!M0 v.right []) (fun g6=> ?_) (fun g6=> ?_)
  .simp only [n5] at g6
   have f3:=f2 g6;have htR:=ht (J6 v.right (ss.map (·.1)) 0).toNat (by omega);have QT:nth ss (J6 v.right (ss.map (·.1)) 0).toNat=rY ss v:=by unfold rY;rw [g6];rfl
   rw [QT] at htR
   repeat' (first|refine c1 pR rfl ?_|refine soD (h2:= ?_)|refine gx ?_|fail)
   rw [QT];exact ⟨.any,_,_,_,_,_,rfl,rfl,rfl,by omega⟩
  .simp only [C7] at g6
   have QT:rY ss v=([],[],[]):=by unfold rY;rw [g6];rfl
   refine gr ?_;exact ⟨.any,_,_,_,_,_,rfl,by rw [QT];rfl,by rw [QT];rfl,by rw [QT];simp⟩
 rintro _ ⟨w0,w1,w2,w4,wa,wb,rfl,ha,hb,hrl⟩;have aq9:=ad3 (S5 ss v.left).2.2 (rY ss v).2.2 (by omega);have MC:=ad4 (S5 ss v.left).2.1 (by omega) (by omega);have ar0:=ad5 (S5 ss v.left).2.2 (by omega) (by omega);have MB:=AF (S5 ss v.left).2.1 (S5 ss v.left).2.2 hd0;have ar1:=ao3 (S5 ss v.left).2.2 (rY ss v).2.2 (by omega) hrl hd0;refine gr ?_;refine tb (s8 v.kind 2) (fun g7=> ?_) (fun g7=> ?_)
 .refine gr ?_
  refine tB (!dH s8 (S5 ss v.left).2.2 (rY ss v).2.2) ?_ (fun g8=> ?_) (fun g8=> ?_)
  .repeat' (first|refine lpA hb ?_|refine cl (aq9) ?_|refine gx ?_|refine fk (h1:=fun hw=> ?_) (h2:=fun hw=> ?_)|refine R8 (h1:=fun hw=> ?_) (h2:=fun hw=> ?_)|refine ⟨rfl,rfl,_,rfl,?_⟩|refine ⟨rfl,rfl⟩|fail)
   all_goals exact cc
  .have e1:T8 ss ds v=5:=by unfold T8;rw [g1,g2,g3,g4,g7,g8];rfl
   refine gr ?_;exact ⟨_,_,rfl,by rw [e1];rfl,by rw [same 5 e1 (by simp [o6])];rfl⟩
  have e1:T8 ss ds v=0:=by unfold T8;rw [g1,g2,g3,g4,g7,g8];rfl
  have e2:fe ss ds v=ss++[(v.name,(S5 ss v.left).2.1,(S5 ss v.left).2.2)]:=by unfold fe;rw [e1,g7];simp [o6]
  rw [e2]
  repeat' (first|refine cl (MC) ?_|refine cl (ar0) ?_|refine c0 MB rfl (h2:= ?_)|refine gx ?_|fail)
  exact ⟨_,_,rfl,by rw [e1];rfl,rfl⟩
 .have e1:T8 ss ds v=Z0 v (S5 ss v.left).2.2 (rY ss v).2.2:=by unfold T8;rw [g1,g2,g3,g4,g7];rfl
  have e2:fe ss ds v=mZ ss v (S5 ss v.left).2.2 (rY ss v).2.2:=by unfold fe mZ;rw [e1,g7];rfl
  rw [e2]
  repeat' (first|refine lpA hb ?_|refine c0 ar1 rfl (h2:= ?_)|refine gx ?_|fail)
  exact ⟨_,_,rfl,by rw [e1];rfl,rfl⟩
end Go.Proofs.YtibjocmpkoepoaaGreat.nB
namespace Go.Proofs.YtibjocmpkoepoaaGreat.nB
open Go.x9 Go.x9.S
attribute [local irreducible] Rx Ry Rn Ex Pf
variable [Inhabited XO]
def l7:F2:=⟨0,8,8,8⟩
def UR (a0 ax a1 a2 a3 a4 a5:u0)(x y:aG):Pm A 249 [xP y,.ptr 7 0] [a0,ax,a1,a2,a3,a4,a5,.cells (x.enc.map .d)] l7 (.d (.bool (M0 y.name x.name))) [a0,ax,a1,a2,a3,a4,a5,.cells (x.enc.map .d)]:=by
 have _x:=(default:XO)
 suffices h:Pq A 249 [xP y,.ptr 7 0] [a0,ax,a1,a2,a3,a4,a5,.cells (x.enc.map .d)] l7 fun v H1=>v= .d (.bool (M0 y.name x.name))/\H1=[a0,ax,a1,a2,a3,a4,a5,.cells (x.enc.map .d)] by
  obtain ⟨v,H1,⟨rfl,rfl⟩,h⟩:=h;exact h
 refine Pq.run (b:=8) [xP y,.ptr 7 0,.any,.any] rfl rfl rfl rfl rfl ?_;refine gr ?_;exact ⟨_,_,rfl,rfl,rfl⟩
set_option maxHeartbeats 2000000 in
def UU (a0 ax a1 a2 a3 a4 a5:u0)(x:aG)(ys:List aG)(hy:ys.length<=1000):Pm A 277 [.d (z8 aG.enc ys),.func 249 [] [.ptr 7 0]] [a0,ax,a1,a2,a3,a4,a5,.cells (x.enc.map .d)] l7 (.d (num (GF x ys 0))) [a0,ax,a1,a2,a3,a4,a5,.cells (x.enc.map .d)]:=by
 suffices h:Pq A 277 [.d (z8 aG.enc ys),.func 249 [] [.ptr 7 0]] [a0,ax,a1,a2,a3,a4,a5,.cells (x.enc.map .d)] l7 fun v H1=>v= .d (num (GF x ys 0))/\H1=[a0,ax,a1,a2,a3,a4,a5,.cells (x.enc.map .d)] by
  obtain ⟨v,H1,⟨rfl,rfl⟩,h⟩:=h;exact h
 refine Pq.run (b:=8) [.d (z8 aG.enc ys),.func 249 [] [.ptr 7 0],.any,.any,.any,.any] rfl rfl rfl rfl rfl ?_;refine gr ?_;refine Ex.M5 (fun k T H=>∃ (i:Nat) (v w:c8),T=[.d (z8 aG.enc ys),.func 249 [] [.ptr 7 0],v,w,.d (num ys.length),.d (num i)]/\H=[a0,ax,a1,a2,a3,a4,a5,.cells (x.enc.map .d)]/\i+k=ys.length/\GF x ys 0=GF x (ys.drop i) i) (by rintro _ _ _ ⟨_,_,_,_,rfl,_⟩;rfl) ?_ (k:=ys.length) ⟨0,_,_,rfl,rfl,by simp,by simp⟩;rintro k _ _ ⟨i,v,w,rfl,rfl,hk,hi⟩;refine Ex.nT ?_;refine Ex.seq ?_;refine tb (F0 i ys.length) (fun h1=> ?_) (fun h1=> ?_)
 .have h2:=A9 h1
  rw [B9 (by omega)] at hi;have p1:=UR a0 ax a1 a2 a3 a4 a5 x (nth ys i);refine gr ?_;refine tB (M0 (nth ys i).name x.name) ?_ (fun h3=> ?_) (fun h3=> ?_)
  .repeat' (first|refine cv1 p1 rfl ?_|refine gx ?_|refine fk (h1:=fun hw=> ?_) (h2:=fun hw=> ?_)|refine R8 (h1:=fun hw=> ?_) (h2:=fun hw=> ?_)|refine ⟨rfl,rfl,_,rfl,?_⟩|refine ⟨rfl,rfl⟩|fail)
   all_goals exact cc
  .refine gr ?_
   exact ⟨_,_,rfl,by rw [hi,GF,h3];rfl,rfl⟩
  .refine gr ?_
   exact ⟨k - 1,by omega,i+1,_,_,rfl,rfl,by omega,by rw [hi,GF,h3];rfl⟩
 .have h2:=B8 h1
  rw [l5 (by omega)] at hi;refine gr ?_;exact ⟨_,_,rfl,by rw [hi];rfl,rfl⟩
def UQ (a0 ax a1 a2 a3 a4 a5:u0)(x:aG)(ys:List aG)(hy:ys.length<=1000):Pm A 248 [.d (z8 aG.enc ys),.func 249 [] [.ptr 7 0]] [a0,ax,a1,a2,a3,a4,a5,.cells (x.enc.map .d)] l7 (.d (.bool (ys.any fun y=>M0 y.name x.name))) [a0,ax,a1,a2,a3,a4,a5,.cells (x.enc.map .d)]:=by
 have p1:=UU a0 ax a1 a2 a3 a4 a5 x ys hy;rw [<- Fj x ys 0]
 suffices h:Pq A 248 [.d (z8 aG.enc ys),.func 249 [] [.ptr 7 0]] [a0,ax,a1,a2,a3,a4,a5,.cells (x.enc.map .d)] l7 fun v H1=>v= .d (.bool (ah 0 (GF x ys 0)))/\H1=[a0,ax,a1,a2,a3,a4,a5,.cells (x.enc.map .d)] by
  obtain ⟨v,H1,⟨rfl,rfl⟩,h⟩:=h;exact h
 refine Pq.run (b:=8) [.d (z8 aG.enc ys),.func 249 [] [.ptr 7 0],.any] rfl rfl rfl rfl rfl ?_
 repeat' (first|refine c1 p1 rfl ?_|refine gx ?_|fail)
 exact ⟨_,_,rfl,rfl,rfl⟩
end Go.Proofs.YtibjocmpkoepoaaGreat.nB
namespace Go.Proofs.YtibjocmpkoepoaaGreat.nB
open Go.x9 Go.x9.S
attribute [local irreducible] Rx Ry Rn Ex Pf
variable [Inhabited XO]
set_option maxHeartbeats 8000000 in
def UO (c:y5)(ds:List L3)(ss:List eP)(t:mO)(i:Nat)(hi:i<t.p8.length)(hc:t.p8.length<=1000)(ho:(nth t.p8 i).F8.length<=1000)(hss:ss.length<=c.k9.length)(ht:∀ k,k<ss.length->0<(nth ss k).2.2.length/\0<(nth c.k9 k).p8.length) :
  Pm A 211 [.ptr 5 0,jG t,.d (num i)] (HH c ds ss) lR (.d (num (eU c ss t i))) (HH c ds ss):=by
 have Rj:=Jb c ds ss (nth t.p8 i).refs;have b1:=uV ss (nth t.p8 i).refs;have b2:(J6 (nth t.p8 i).refs (ss.map (·.1)) 0)= -1\/(0<=(J6 (nth t.p8 i).refs (ss.map (·.1)) 0)/\(J6 (nth t.p8 i).refs (ss.map (·.1)) 0)<ss.length/\0<(nth ss (J6 (nth t.p8 i).refs (ss.map (·.1)) 0).toNat).2.2.length/\0<(nth c.k9 (J6 (nth t.p8 i).refs (ss.map (·.1)) 0).toNat).p8.length):=by
  rcases b1 with h|h
  .exact Or.inl h
  .have:=ht (J6 (nth t.p8 i).refs (ss.map (·.1)) 0).toNat (by omega)
   exact Or.inr ⟨h.1,h.2,this.1,this.2⟩
 have ar3:=ad8 t (nth t.p8 i).F8 ho hc;have ar4:=ad9 t (nth t.p8 i);have q49:=aI6 (nth t.p8 i).F8 i (by omega)
 suffices h:Pq A 211 [.ptr 5 0,jG t,.d (num i)] (HH c ds ss) lR fun v H1=>v= .d (num (eU c ss t i))/\H1=HH c ds ss by
  obtain ⟨v,H1,⟨rfl,rfl⟩,h⟩:=h;exact h
 unfold HH at *
 have ar2:=UQ (.cells (c.enc.map .d)) xo (.cells (c.enc.map .d)) (.map (dmap ds)) (.map (X3 (ss.map (·.1)) 0)) (.cells (c.enc.map .d++[.map 3,.map 4,C4 2 L6 ss])) (.cells (t.enc.map .d)) (nth t.p8 i) (t.p8.take i) (by simp;omega);refine Pq.run (b:=6) [.ptr 5 0,jG t,.d (num i),.any,.any,.any,.any,.any] rfl rfl rfl rfl rfl ?_;refine gr ?_;refine tB (!H6 (nth t.p8 i).name||(!M0 (nth t.p8 i).space []&& !H6 (nth t.p8 i).space)) ?_ (fun h1=> ?_) (fun h1=> ?_)
 .repeat' (first|refine cl (Dx _) ?_|refine gx ?_|refine fk (h1:=fun hw=> ?_) (h2:=fun hw=> ?_)|refine R8 (h1:=fun hw=> ?_) (h2:=fun hw=> ?_)|refine ⟨rfl,rfl,_,rfl,?_⟩|refine ⟨rfl,rfl⟩|fail)
  all_goals exact cc
 .refine gr ?_
  exact ⟨_,_,rfl,by unfold eU;rw [h1];rfl,rfl⟩
 refine gr ?_;refine tB ((t.p8.take i).any fun y=>M0 y.name (nth t.p8 i).name) ?_ (fun h2=> ?_) (fun h2=> ?_)
 .repeat' (first|refine c1 ar2 rfl ?_|refine gx ?_|refine fk (h1:=fun hw=> ?_) (h2:=fun hw=> ?_)|refine R8 (h1:=fun hw=> ?_) (h2:=fun hw=> ?_)|refine ⟨rfl,rfl,_,rfl,?_⟩|refine ⟨rfl,rfl⟩|fail)
  all_goals exact cc
 .refine gr ?_
  exact ⟨_,_,rfl,by unfold eU;rw [h1,h2];rfl,rfl⟩
 repeat' (first|refine c1 Rj rfl ?_|refine gx ?_|fail)
 refine tb (!M0 (nth t.p8 i).refs []&&F0 (J6 (nth t.p8 i).refs (ss.map (·.1)) 0) 0) (fun h3=> ?_) (fun h3=> ?_)
 .refine gr ?_
  exact ⟨_,_,rfl,by unfold eU;rw [h1,h2,h3];rfl,rfl⟩
 refine gr ?_;refine tB (!(s8 (nth t.p8 i).type 1||s8 (nth t.p8 i).type 2)||(ah 0 (J6 (nth t.p8 i).refs (ss.map (·.1)) 0)&& !s8 (nth t.p8 i).type (nth (nth ss (J6 (nth t.p8 i).refs (ss.map (·.1)) 0).toNat).2.2 0))) ?_ (fun h4=> ?_) (fun h4=> ?_)
 .repeat' (first|refine cl (ad7 _) ?_|refine gx ?_|refine fk (h1:=fun hw=> ?_) (h2:=fun hw=> ?_)|refine R8 (h1:=fun hw=> ?_) (h2:=fun hw=> ?_)|refine ⟨rfl,rfl,_,rfl,?_⟩|refine ⟨rfl,rfl⟩|fail)
  all_goals exact cc
 .refine gr ?_
  exact ⟨_,_,rfl,by unfold eU;rw [h1,h2,h3,h4];rfl,rfl⟩
 refine gr ?_;refine tB ((!M0 (nth t.p8 i).space []&& !M0 (nth t.p8 i).refs [])|| !Y5 t (-1) (nth t.p8 i).F8|| !jV t (nth t.p8 i)) ?_ (fun h5=> ?_) (fun h5=> ?_)
 .repeat' (first|refine cl (ar3) ?_|refine cl (ar4) ?_|refine gx ?_|refine fk (h1:=fun hw=> ?_) (h2:=fun hw=> ?_)|refine R8 (h1:=fun hw=> ?_) (h2:=fun hw=> ?_)|refine ⟨rfl,rfl,_,rfl,?_⟩|refine ⟨rfl,rfl⟩|fail)
  all_goals exact cc
 .refine gr ?_
  exact ⟨_,_,rfl,by unfold eU;rw [h1,h2,h3,h4,h5];rfl,rfl⟩
 refine gr ?_;refine tb (s8 i 0&&F0 0 (nth t.p8 i).F8.length&& !s8 t.erase 1) (fun h6=> ?_) (fun h6=> ?_)
 .refine gr ?_
  exact ⟨_,_,rfl,by unfold eU;rw [h1,h2,h3,h4,h5,h6];rfl,rfl⟩
 refine gr ?_;refine tB (ah 0 (J6 (nth t.p8 i).refs (ss.map (·.1)) 0)&&F0 0 (nth (nth c.k9 (J6 (nth t.p8 i).refs (ss.map (·.1)) 0).toNat).p8 0).F8.length&& !((nth t.p8 i).F8.any fun y=>s8 y i)) ?_ (fun h7=> ?_) (fun h7=> ?_)
 .repeat' (first|refine cl (q49) ?_|refine gx ?_|refine fk (h1:=fun hw=> ?_) (h2:=fun hw=> ?_)|refine R8 (h1:=fun hw=> ?_) (h2:=fun hw=> ?_)|refine ⟨rfl,rfl,_,rfl,?_⟩|refine ⟨rfl,rfl⟩|fail)
  all_goals exact cc
 .refine gr ?_
  exact ⟨_,_,rfl,by unfold eU;rw [h1,h2,h3,h4,h5,h6,h7];rfl,rfl⟩
 refine gr ?_;exact ⟨_,_,rfl,by unfold eU;rw [h1,h2,h3,h4,h5,h6,h7];rfl,rfl⟩
end Go.Proofs.YtibjocmpkoepoaaGreat.nB
namespace Go.Proofs.YtibjocmpkoepoaaGreat.nB
open Go.x9 Go.x9.S
attribute [local irreducible] Rx Ry Rn Ex Pf
variable [Inhabited XO]
set_option maxHeartbeats 8000000 in
def ap8 (c:y5)(ds:List L3)(ss:List eP)(i:Nat)(hi:i<c.k9.length)(hc:(nth c.k9 i).p8.length<=1000)(ho:∀ j,j<(nth c.k9 i).p8.length->(nth (nth c.k9 i).p8 j).F8.length<=1000)(hss:ss.length<=c.k9.length)(al9:ss.length<=1000)(hi2:c.k9.length<=1000)
  (ht:∀ k,k<ss.length->0<(nth ss k).2.2.length/\0<(nth c.k9 k).p8.length) (hsub:∀ s,(ds.any fun y=>M0 y s)=false->((ss.map (·.1)).any fun y=>M0 y s)=false) :
  Pm A 149 [.ptr 5 0,.d (num i)] (HH c ds ss) lW (.d (num (ja c ss ds (nth c.k9 i)))) (HH c (M1 ds (nth c.k9 i).name) (tS c ss ds (nth c.k9 i))):=by
 generalize hx:nth c.k9 i=t at *
 have Ms:=IY c ds ss t.name;have ao1:∀ j,j<t.p8.length->Pm A 211 [.ptr 5 0,jG t,.d (num j)] (HH c (M1 ds t.name) ss) lR (.d (num (eU c ss t j))) (HH c (M1 ds t.name) ss):=fun j hj=>UO c (M1 ds t.name) ss t j hj hc (ho j hj) hss ht
 have aq7:=ad0 t.p8 hc;have aq8:=ad1 t.p8 hc;have AF:P3 ds t.name=0->Pm A 212 [.ptr 5 0,.d (.str t.name),qu (t.p8.map aG.name) (t.p8.map aG.type)] (HH c (M1 ds t.name) ss) lW (.tuple []) (HH c (M1 ds t.name) (ss++[(t.name,t.p8.map aG.name,t.p8.map aG.type)])):=fun h=>by
  refine AH c (M1 ds t.name) ss t.name _ _ (hsub _ ?_) al9;unfold P3 at h;cases h1:(!H6 t.name) with
  |true=>rw [h1] at h;simp at h
  |false =>
   rw [h1] at h;cases h2:ds.any fun y=>M0 y t.name with
   |false=>rfl
   |true=>rw [h2] at h;simp at h
 suffices h:Pq A 149 [.ptr 5 0,.d (num i)] (HH c ds ss) lW fun v H1=>v= .d (num (ja c ss ds t))/\H1=HH c (M1 ds t.name) (tS c ss ds t) by
  obtain ⟨v,H1,⟨rfl,rfl⟩,h⟩:=h;exact h
 have fin:∀ e:Int,s8 e 0=false->ja c ss ds t=e->tS c ss ds t=ss:=fun e h1 h2=>by unfold tS;rw [h2,h1];rfl
 unfold HH at *
 refine Pq.run (b:=6) [.ptr 5 0,.d (num i),.any,.any,.any,.any,.any,.any,.any] rfl rfl rfl rfl rfl ?_;refine gr ?_;rw [hx]
 repeat' (first|refine c0 Ms rfl (h2:= ?_)|refine gx ?_|fail)
 refine tb (!s8 (P3 ds t.name) 0) (fun h1=> ?_) (fun h1=> ?_)
 .have e1:ja c ss ds t=P3 ds t.name:=by unfold ja;rw [h1];rfl
  refine gr ?_;exact ⟨_,_,rfl,by rw [e1];rfl,by rw [fin _ (by simpa using h1) e1];rfl⟩
 refine gr ?_;refine tB (fG t) ?_ (fun h2=> ?_) (fun h2=> ?_)
 .repeat' (first|refine cl (IU _ _ _) ?_|refine gx ?_|refine fk (h1:=fun hw=> ?_) (h2:=fun hw=> ?_)|refine R8 (h1:=fun hw=> ?_) (h2:=fun hw=> ?_)|refine ⟨rfl,rfl,_,rfl,?_⟩|refine ⟨rfl,rfl⟩|fail)
  all_goals first|(simp [*,j7,fG];done)|(simp_all [j7,fG];done)|(simp_all [j7,fG,y3,s9,o6,H7];done)|(simp_all [j7,fG,y3,s9,o6,H7]<;>omega)
 .have e1:ja c ss ds t=1:=by unfold ja;rw [h1,h2];rfl
  refine gr ?_;exact ⟨_,_,rfl,by rw [e1];rfl,by rw [fin 1 (by simp [o6]) e1];rfl⟩
 refine gr ?_;refine Ex.M5 (fun k T H=>∃ (j:Nat) (w1 w2 w4 w5 w6:c8),T=[.ptr 5 0,w1,w2,.ptr 6 0,w4,w5,w6,.d (num t.p8.length),.d (num j)]/\H=[.cells (c.enc.map .d),xo,.cells (c.enc.map .d),.map (dmap (M1 ds t.name)),.map (X3 (ss.map (·.1)) 0),.cells (c.enc.map .d++[.map 3,.map 4,C4 2 L6 ss]),.cells (t.enc.map .d)]/\j+k=t.p8.length/\ja c ss ds t=wC c ss t k j) (by rintro _ _ _ ⟨_,_,_,_,_,_,_,rfl,_⟩;rfl) ?_ (k:=t.p8.length) ⟨0,_,_,_,_,_,rfl,rfl,by simp,by unfold ja;rw [h1,h2];rfl⟩;rintro k _ _ ⟨j,w1,w2,w4,w5,w6,rfl,rfl,hk,hj⟩;refine Ex.nT ?_;refine Ex.seq ?_;refine tb (F0 j t.p8.length) (fun h3=> ?_) (fun h3=> ?_)
 .have h4:=A9 h3
  obtain ⟨k,rfl⟩:∃ k',k=k' +1:=⟨k - 1,by omega⟩;have aq6:=ao1 j (by omega);rw [wC] at hj
  repeat' (first|refine c1 aq6 rfl ?_|refine gx ?_|fail)
  refine tb (!s8 (eU c ss t j) 0) (fun h5=> ?_) (fun h5=> ?_)
  .rw [h5,if_pos rfl] at hj
   refine gr ?_;exact ⟨_,_,rfl,by rw [hj];rfl,by rw [fin _ (by simpa using h5) hj];rfl⟩
  .rw [h5,if_neg (by simp)] at hj
   refine gr ?_;exact ⟨k,by omega,j+1,_,_,_,_,_,rfl,rfl,by omega,hj⟩
 .have h4:=B8 h3
  obtain rfl:k=0:=by omega
  have MB:=AF (aQ (by simpa using h1));have e1:ja c ss ds t=0:=hj;have e2:tS c ss ds t=ss++[(t.name,t.p8.map aG.name,t.p8.map aG.type)]:=by unfold tS;rw [e1];simp [o6]
  rw [e2]
  repeat' (first|refine cl (aq7) ?_|refine cl (aq8) ?_|refine c0 MB rfl (h2:= ?_)|refine gx ?_|fail)
  exact ⟨_,_,rfl,by rw [e1];rfl,rfl⟩
end Go.Proofs.YtibjocmpkoepoaaGreat.nB
namespace Go.Proofs.YtibjocmpkoepoaaGreat.nB
open Go.x9 Go.x9.S
attribute [local irreducible] Rx Ry Rn Ex Pf
variable [Inhabited XO]
def P9 (c:y5)(q:Nat):List c8:=[.d (num (cnt c q)),.d (num (Cr q)),.func (fid q) [.ptr 5 0] []]
def U8 (c:y5):List c8:=P9 c 0++P9 c 1++P9 c 2++P9 c 3++P9 c 4++P9 c 5++P9 c 6++P9 c 7
def oc (c:y5)(q:Nat)(h:q<8)(H:o9)(hH:H[6]? =some (.cells (U8 c))):rd H 6 (0+q * 3) 3=some (P9 c q):=by
 have _x:=(default:XO);simp only [rd,hH]
 match q,h with
 |0,_=>rfl
 |1,_=>rfl
 |2,_=>rfl
 |3,_=>rfl
 |4,_=>rfl
 |5,_=>rfl
 |6,_=>rfl
 |7,_=>rfl
def yR (c:y5)(ds:List L3)(ss:List eP):L8 (HH c ds ss)<=6:=by
 have h1:=iH ds;have h2:=iQ (ss.map (·.1)) 0;have e0:A4 [c8.d (num (default:XO).x)]=0:=rfl;have e1:A4 (c.enc.map c8.d)=0:=rfl;have e2:A4 (c.enc.map c8.d++[.map 3,.map 4,C4 2 L6 ss])=5:=rfl;simp only [HH,L8,u0.K5,h1,h2,e0,e1,e2]
 decide
def sg (c:y5)(ds:List L3)(ss:List eP):T6 (HH c ds ss) 0=true:=by
 have h1:=iH ds;have h2:=iQ (ss.map (·.1)) 0;have e0:A4 [c8.d (num (default:XO).x)]=0:=rfl;have e1:A4 (c.enc.map c8.d)=0:=rfl;have e2:A4 (c.enc.map c8.d++[.map 3,.map 4,C4 2 L6 ss])=5:=rfl;simp only [HH,T6,u0.K5,h1,h2,e0,e1,e2]
 decide
def tP {H:o9}(h:T6 ((H.take 6).drop 0) 0=true):C9 H 0 6=6:=by
 have _x:=(default:XO);unfold C9;rw [if_neg (by decide),if_pos h]
def EF (c:y5)(ds:List L3)(ss:List eP):L8 (HH c ds ss++[.cells (U8 c)])<=7:=by
 have h1:=iH ds;have h2:=iQ (ss.map (·.1)) 0;have e0:A4 [c8.d (num (default:XO).x)]=0:=rfl;have e1:A4 (c.enc.map c8.d)=0:=rfl;have e2:A4 (c.enc.map c8.d++[.map 3,.map 4,C4 2 L6 ss])=5:=rfl;have e3:A4 (U8 c)=6:=rfl;simp only [HH,A5,D8,L8,u0.K5,h1,h2,e0,e1,e2,e3]
 decide
def oa (c:y5)(q:Nat):A4 (P9 c q)<=7+1:=by
 have _x:=(default:XO);exact j5 rfl
def jt (c:y5)(fds:List L3)(LU:List eP)(v:c8)(H1:o9):Prop :=
 (∃ R,H1= .cells (c.enc.map .d)::xo::R)/\(s8 (O5 c).2 0=false->v= .tuple [.d .br,.d (num (O5 c).1),.d (num (O5 c).2)]) /\
  (s8 (O5 c).2 0=true->v= .tuple [.ptr 5 0,.d (num 0),.d (num 0)]/\H1=HH c fds LU++[.cells (U8 c)])
def EV {c:y5}{fds:List L3}{LU:List eP}{v:c8}{H1:o9}(h:jt c fds LU v H1):2<=H1.length:=by
 obtain ⟨⟨R,rfl⟩,_⟩:=h;simp
set_option maxHeartbeats 32000000 in
def aq0 (c:y5)(hf:c.qy)(ST:Nat->List L3->List eP->Prop)(aj6:ST 0 [] [])(hST:∀ g ds ss ds' ss',ST g ds ss->ST g ds' ss' ->ds=ds' /\ss=ss')(fds:List L3)(LU:List eP)(aj7:∀ ds ss,ST c.names.length ds ss->ds=fds/\ss=LU)
  (hstep:∀ q i ds ss,q<8->i<cnt c q->tooMany c=false->kO c (S9 c q+i)->ST (S9 c q+i) ds ss->∃ dz sz,(Q2 c (S9 c q+i)=0->ST (S9 c q+i+1) dz sz)/\Pm A (fid q) [.ptr 5 0,.d (num i)] (HH c ds ss) lW (.d (num (Q2 c (S9 c q+i)))) (HH c dz sz)) :
  Pq A 101 [cat c] [.cells (c.enc.map .d),xo] S8 (jt c fds LU):=by
 obtain ⟨f0,f1,f2,f3,f4,f5,f6,f7⟩:=id hf;have Xn:∀ q,cnt c q<=1000:=fun q=>by unfold cnt;split<;>omega
 have hlm:∀ q,Cr q<=16:=fun q=>by unfold Cr;split<;>omega
 refine Pq.run (b:=2) [cat c,.any,.any,.any,.any,.any,.any,.any,.any,.any,.any,.any,.any,.any,.any,.any,.any,.any,.any,.any] rfl rfl rfl rfl rfl ?_
 repeat' (first|refine mk (h2:= ?_)|refine rV (cs:=c.enc.map .d++[.map 3,.map 4,C4 2 L6 []]) ?_|refine rV (cs:=P9 c 0) ?_|refine rV (cs:=P9 c 1) ?_|refine rV (cs:=P9 c 2) ?_|refine rV (cs:=P9 c 3) ?_|refine rV (cs:=P9 c 4) ?_|refine rV (cs:=P9 c 5) ?_|refine rV (cs:=P9 c 6) ?_|refine rV (cs:=P9 c 7) ?_|refine gx ?_|fail)
 refine bso (U8 c) rfl ⟨by decide,rfl⟩ (h2:= ?_)
 repeat' (first|refine lrT (h2:= ?_)|refine gx ?_|fail)
 refine Ex.T7 (fun k T H=>∃ (q:Nat),T=[.any,.any,.any,.any,.any,.ptr 5 0,.A8 6 3 0 8,.any,.any,.any,.any,.any,.A8 6 3 0 8,.d (num (8:Nat)),.d (num q),.any,.any,.any,.any,.any]/\H=[.cells (c.enc.map .d),xo,.cells (c.enc.map .d),.map [],.map [],.cells (c.enc.map .d++[.map 3,.map 4,C4 2 L6 []]),.cells (U8 c)]/\q+k=8/\∀ p,p<q->cnt c p<=Cr p) ?_ (k:=8) ⟨0,rfl,rfl,by simp,fun p h=>absurd h (by omega)⟩;rintro k _ _ ⟨q,rfl,rfl,hk,hq⟩;have b1:=Xn q;have b2:=hlm q;have hbk:=oa c q;refine Ex.seq ?_;refine tb (F0 q (8:Nat)) (fun g1=> ?_) (fun g1=> ?_)
 .have g2:=A9 g1
  have Fu:q<8:=by omega
  have hka:=oc c q Fu ([.cells (c.enc.map .d),xo,.cells (c.enc.map .d),.map [],.map [],.cells (c.enc.map .d++[.map 3,.map 4,C4 2 L6 []]),.cells (U8 c)]) rfl
  repeat' (first|refine ixs (i:=q) (len:=8) Fu ?_|refine Sc hka rfl ?_|refine soB (cs:=P9 c q) (id:=7) hbk (h2:= ?_)|refine gx ?_|fail)
  refine tb (F0 (Cr q) (cnt c q)) (fun g3=> ?_) (fun g3=> ?_)
  .have ht:=NT Fu g3
   have e1:O5 c=(0,8):=by unfold O5;rw [ht];rfl
   refine gr ?_;exact ⟨_,_,rfl,⟨_,rfl⟩,fun _=>by rw [e1];rfl,fun h=>by rw [e1] at h;simp [o6] at h⟩
  .have g4:=B8 g3
   refine gr ?_;exact ⟨k - 1,by omega,_,_,rfl,q+1,rfl,rfl,by omega,fun p hp=>by
    rcases y4 p q with h|h
    .exact hq p h
    .obtain rfl:p=q:=by omega
     omega⟩
 have g2:=B8 g1;have sV:=Tg (c:=c) (fun p hp=>hq p (by omega));clear g1 g2 hk hq b1 b2 hbk
 repeat' (first|refine lrT (h2:= ?_)|refine gx ?_|fail)
 refine Ex.T7 (fun k T H=>∃ (q g:Nat) (ds:List L3) (ss:List eP),T=[.any,.any,.any,.any,.any,.ptr 5 0,.any,.any,.d (num g),.any,.any,.any,.any,.any,.any,.A8 6 3 0 8,.d (num (8:Nat)),.d (num q),.any,.any]/\H=[.cells (c.enc.map .d),xo,.cells (c.enc.map .d),.map (dmap ds),.map (X3 (ss.map (·.1)) 0),.cells (c.enc.map .d++[.map 3,.map 4,C4 2 L6 ss]),.cells (U8 c)]/\q+k=8/\g=S9 c q/\ST g ds ss/\kO c g/\O5 c=bQ c (c.names.length - g) g) ?_ (k:=8) ⟨0,0,[],[],rfl,rfl,by simp,rfl,aj6,fun m h=>absurd h (by omega),by unfold O5;rw [sV];rfl⟩;rintro k _ _ ⟨q,g,ds,ss,rfl,rfl,hk,hg,hst,hok,hch⟩;have b1:=Xn q;have hbk:=oa c q;refine Ex.seq ?_;refine tb (F0 q (8:Nat)) (fun g1=> ?_) (fun g1=> ?_)
 .have g2:=A9 g1
  have Fu:q<8:=by omega
  have hka:=oc c q Fu ([.cells (c.enc.map .d),xo,.cells (c.enc.map .d),.map (dmap ds),.map (X3 (ss.map (·.1)) 0),.cells (c.enc.map .d++[.map 3,.map 4,C4 2 L6 ss]),.cells (U8 c)]) rfl
  repeat' (first|refine ixs (i:=q) (len:=8) Fu ?_|refine Sc hka rfl ?_|refine soB (cs:=P9 c q) (id:=7) hbk (h2:= ?_)|refine gx ?_|fail)
  refine Ex.M5 (fun k T H=>∃ (i g:Nat) (ds:List L3) (ss:List eP) (w0 w1 w2 w3 w4 w6 w7 mR kW OG Wc Wd:c8),T=[w0,w1,w2,w3,w4,.ptr 5 0,w6,w7,.d (num g),.ptr 7 0,mR,kW,OG,Wc,Wd,.A8 6 3 0 8,.d (num (8:Nat)),.d (num q),.d (num (cnt c q)),.d (num i)]/\H=[.cells (c.enc.map .d),xo,.cells (c.enc.map .d),.map (dmap ds),.map (X3 (ss.map (·.1)) 0),.cells (c.enc.map .d++[.map 3,.map 4,C4 2 L6 ss]),.cells (U8 c),.cells (P9 c q)]/\i+k=cnt c q/\g=S9 c q+i/\ST g ds ss/\kO c g/\O5 c=bQ c (c.names.length - g) g) (by rintro _ _ _ ⟨_,_,_,_,_,_,_,_,_,_,_,_,_,_,_,_,_,rfl,_⟩;rfl) ?_ (k:=cnt c q) ⟨0,g,ds,ss,_,_,_,_,_,_,_,_,_,_,_,_,rfl,rfl,by simp,by omega,hst,hok,hch⟩;clear hst hok hch hka;rintro k2 _ _ ⟨i,g,ds,ss,w0,w1,w2,w3,w4,w6,w7,mR,kW,OG,Wc,Wd,rfl,rfl,hk2,hg2,hst,hok,hch⟩;have hol:=NZ c Fu;have hnl:c.names.length<=8000:=by simp [y5.names];omega
  refine Ex.nT ?_;refine Ex.seq ?_;refine tb (F0 i (cnt c q)) (fun g3=> ?_) (fun g3=> ?_)
  .have g4:=A9 g3
   have Fq:=yR c ds ss;have Yk:=sg c ds ss;subst hg2;obtain ⟨dz,sz,hz,QS⟩:=hstep q i ds ss Fu (by omega) sV hok hst;unfold HH at QS Fq Yk;obtain ⟨N,hN⟩:∃ N,c.names.length - (S9 c q+i)=N+1:=⟨c.names.length - (S9 c q+i) - 1,by omega⟩;rw [hN,bQ] at hch;have hfp:=Hy Fu;refine gr ?_;have hs5:C9 ([.cells (c.enc.map .d),xo,.cells (c.enc.map .d),.map (dmap ds),.map (X3 (ss.map (·.1)) 0),.cells (c.enc.map c8.d++[.map 3,.map 4,C4 2 L6 ss]),.cells (U8 c),.cells (P9 c q)]) 0 6=6:=tP (H:=[.cells (c.enc.map .d),xo,.cells (c.enc.map .d),.map (dmap ds),.map (X3 (ss.map (·.1)) 0),.cells (c.enc.map c8.d++[.map 3,.map 4,C4 2 L6 ss]),.cells (U8 c),.cells (P9 c q)]) Yk;refine cv0 (gj:=hfp.1) (hm:=hfp.2) QS rfl Fq (bS Fq) rfl (mY:=by show F2.mk 0 0 6 (C9 _ 0 6)=lW;rw [hs5];rfl) (h2:= ?_);refine gr ?_;refine tb (!s8 (Q2 c (S9 c q+i)) 0) (fun g5=> ?_) (fun g5=> ?_)
   .have e1:O5 c=(((S9 c q+i:Nat):Int),Q2 c (S9 c q+i)):=by rw [hch,g5];rfl
    have e2:s8 (Q2 c (S9 c q+i)) 0=false:=by simpa using g5
    refine gr ?_;exact ⟨_,_,rfl,⟨_,rfl⟩,fun _=>by rw [e1];rfl,fun h=>by rw [e1] at h;simp only [e2] at h;cases h⟩
   .have e2:Q2 c (S9 c q+i)=0:=aQ (by simpa using g5)
    rw [g5,if_neg (by simp)] at hch;have am0 :=hz e2;refine gr ?_;refine ⟨k2 - 1,by omega,i+1,S9 c q+i+1,dz,sz,_,_,_,_,_,_,_,_,_,_,_,_,rfl,rfl,by omega,by omega,am0,fun m hm=> ?_,?_⟩
    .rcases y4 m (S9 c q+i) with h|h
     .exact hok m h
     .obtain rfl:m=S9 c q+i:=by omega
      exact e2
    .have:c.names.length - (S9 c q+i+1)=N:=by omega
     rw [this];exact hch
  .have g4:=B8 g3
   refine gr ?_;refine ⟨k - 1,by omega,_,_,L5 ?_ ?_,q+1,g,ds,ss,rfl,rfl,by omega,?_,hst,hok,hch⟩
   .exact j5 rfl
   .exact EF c ds ss
   .simp only [S9];omega
 have g2:=B8 g1;obtain rfl:q=8:=by omega
 rw [AB] at hg;subst hg;rw [Nat.sub_self] at hch;obtain ⟨rfl,rfl⟩:=aj7 ds ss hst;refine gr ?_;have e1:O5 c=(0,0):=hch;exact ⟨_,_,rfl,⟨_,rfl⟩,fun h=>by rw [e1] at h;simp [o6] at h,fun _=>⟨rfl,rfl⟩⟩
end Go.Proofs.YtibjocmpkoepoaaGreat.nB
namespace Go.Proofs.YtibjocmpkoepoaaGreat.nB
open Go.x9 Go.x9.S
variable [Inhabited XO]
def lJ (c:y5)(f:FuncId)(i g:Nat):Prop:=∃ dz sz,(Q2 c g=0->ZW c (g+1) dz sz)/\Pm A f [.ptr 5 0,.d (num i)] (HH c (c.names.take g) (Q9 c (min g (y5.ns c)))) lW (.d (num (Q2 c g))) (HH c dz sz)
def Bh {c:y5}(hs:O4 c){i:Nat}(hi:i<c.k9.length)(hok:kO c i):lJ c 149 i i:=by
 have eV:i<y5.ns c:=by unfold y5.ns;omega
 have hf:=hs.sm.qy.1;have hm:min i (y5.ns c)=i:=by omega
 have p:=ap8 c (c.names.take i) (Q9 c i) i hi (hs.sm.p8 i hi) (fun j hj=>hs.sm.F8 i j hi hj) (by rw [X4];omega) (by rw [X4];omega) (by omega)
  (fun k hk=>by
   rw [X4] at hk;have h1:=(gu (ia (hok k hk) (by omega))).1;rw [bW c hk];refine ⟨?_,h1⟩;show 0<(P4 c k).length
   rw [sJ c (by omega)];simpa using h1) (fun s hs' =>yH c (by omega) s hs')
 rw [Gr hi hok] at p;unfold lJ;rw [hm];refine ⟨_,_,fun h0=> ?_,p⟩;unfold ZW;have hnl:i<c.names.length:=by have:=bg c;omega
 rw [Oz hi hok h0,<- pV c hi,pH c i hnl h0,Nat.min_eq_left (by omega)];exact ⟨rfl,rfl⟩
end Go.Proofs.YtibjocmpkoepoaaGreat.nB
namespace Go.Proofs.YtibjocmpkoepoaaGreat.nB
open Go.x9 Go.x9.S
variable [Inhabited XO]
def vN {c:y5}(hs:O4 c)(hn:y5.ns c<=1000){g:Nat}(h:c.k9.length<=g)(h2:g<y5.ns c)(hok:kO c g):lJ c 150 (g - c.k9.length) g:=by
 have hv:g - c.k9.length<c.views.length:=by unfold y5.ns at h2;omega
 have hm:min g (y5.ns c)=g:=by omega
 have p:=ap9 c (c.names.take g) (Q9 c g) (g - c.k9.length) hv (hs.on _ hv) (hs.wh _ hv) (hs.items _ hv) (hs.D4 _ hv) (fun j hj=>hs.Dg _ j hv hj) (fun j hj=>hs.Ql _ j hv hj) (by rw [X4];omega)
  (fun k hk=>by
   rw [X4] at hk;have h1:=yG hs g k hk (by omega) hok;have h3:=iG hs g k hk (by omega) (tq hok (by omega));rw [bW c hk];exact ⟨h1.2.1,by show (RW c k).length<=5000;omega,h1.1,by show (P4 c k).length<=5000;omega⟩) (fun s hs' =>yH c (by omega) s hs')
 rw [show nth c.views (g - c.k9.length)=X0 c g from rfl,BD h h2] at p;unfold lJ;rw [hm];refine ⟨_,_,fun h0=> ?_,p⟩;unfold ZW;have hnl:g<c.names.length:=by have:=bg c;omega
 rw [JS h h2 h0,<- mj c h h2,pH c g hnl h0,Nat.min_eq_left (by omega)];exact ⟨rfl,rfl⟩
end Go.Proofs.YtibjocmpkoepoaaGreat.nB
namespace Go.Proofs.YtibjocmpkoepoaaGreat.nB
open Go.x9 Go.x9.S
variable [Inhabited XO]
def Oe (c:y5)(hs:O4 c):Pq A 101 [cat c] [.cells (c.enc.map .d),xo] S8 (jt c c.names (Q9 c (y5.ns c))):=by
 have hnl:=bg c;refine aq0 c hs.sm.qy (ZW c) ⟨rfl,rfl⟩ (fun g ds ss ds' ss' h h' =>⟨h.1.trans h'.1.symm,h.2.trans h'.2.symm⟩) _ _ (fun ds ss h=>⟨by rw [h.1,List.take_length],by rw [h.2,Nat.min_eq_right hnl]⟩) ?_;rintro q i ds ss hq hi sV hok ⟨rfl,rfl⟩;have h20:=NS sV
 match q,hq with
 |0,_ =>
  have hi' :i<c.k9.length:=hi;have e:S9 c 0+i=i:=by simp [S9]
  rw [e] at hok ⊢;exact Bh hs hi' hok
 |1,_ =>
  have hi' :i<c.views.length:=hi;have e:S9 c 1+i=c.k9.length+i:=by simp [S9,cnt]
  rw [e] at hok ⊢;have:=vN hs (by omega) (g:=c.k9.length+i) (by omega) (by unfold y5.ns;omega) hok;rw [Nat.add_sub_cancel_left] at this;exact this
 |n+2,_ =>
  obtain ⟨f0,f1,f2,f3,f4,f5,f6,f7⟩:=hs.sm.qy;exfalso;unfold cnt at hi;split at hi<;>omega
end Go.Proofs.YtibjocmpkoepoaaGreat.nB


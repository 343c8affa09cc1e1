/- Texts D6 D7 (made short by a program) -/
import Derived.Test.YtkmclibmmlgogaaGreatD0
set_option linter.unusedVariables false
set_option linter.unusedSimpArgs false
open Bool renaming and_eq_true → b5, not_eq_false' → B4, not_eq_true' → j9
open List renaming drop_of_length_le → m7, length_append → C1
open Nat renaming lt_or_ge → p7
namespace Go.Proofs.YtkmclibmmlgogaaGreat
open Go.u7 Go.u7.S
attribute [local irreducible] Rx Ry Rn Ex Pf
def val (k n:Int)(s:C7):b6:= .agg [.d (num k),.d (num n),.d (.str s)]
def VU (t:Z2):b6:= .agg (t.enc.map .d)
set_option maxHeartbeats 2000000 in
theorem YL (k n:Int)(s:C7):Pf A 187 [val k n s] (.d (.bool (fc k n s))):=by
 refine Pf.run [val k n s,.any,.any,.any] rfl rfl rfl rfl ?_
 repeat' (first|refine gx ?_|refine fk (h1:=fun hw=> ?_) (h2:=fun hw=> ?_)|refine M8 (h1:=fun hw=> ?_) (h2:=fun hw=> ?_)|refine Ex.J6 ?_|refine Ex.J8 ?_|refine Ex.cond rfl (fun ht=> ?_) (fun ht=> ?_)|refine Ex.test (Rn.text ?_)|refine Ex.test (Rn.draw ?_)|refine ⟨_,rfl,fun ht=> ?_,fun ht=> ?_⟩|refine ⟨_,rfl,?_⟩|fail)
 all_goals first|(simp [*,b9,fc];done)|(simp_all [b9,fc];done)|(simp_all [b9,fc,o9,o5,j5,A3];done)|(simp_all [b9,fc,o9,o5,j5,A3]<;>omega)
set_option maxHeartbeats 2000000 in
theorem YM (k n:Int)(s:C7):Pf A 189 [val k n s] (.d (.bool (fc k n s))):=by
 refine Pf.run [val k n s,.any,.any,.any] rfl rfl rfl rfl ?_
 repeat' (first|refine gx ?_|refine fk (h1:=fun hw=> ?_) (h2:=fun hw=> ?_)|refine M8 (h1:=fun hw=> ?_) (h2:=fun hw=> ?_)|refine Ex.J6 ?_|refine Ex.J8 ?_|refine Ex.cond rfl (fun ht=> ?_) (fun ht=> ?_)|refine Ex.test (Rn.text ?_)|refine Ex.test (Rn.draw ?_)|refine ⟨_,rfl,fun ht=> ?_,fun ht=> ?_⟩|refine ⟨_,rfl,?_⟩|fail)
 all_goals first|(simp [*,b9,fc];done)|(simp_all [b9,fc];done)|(simp_all [b9,fc,o9,o5,j5,A3];done)|(simp_all [b9,fc,o9,o5,j5,A3]<;>omega)
set_option maxHeartbeats 2000000 in
theorem Sz (t:Z2):Pf A 179 [VU t] (.d (.bool (cM t))):=by
 refine Pf.run [VU t,.any,.any,.any] rfl rfl rfl rfl ?_
 repeat' (first|refine cl (YL _ _ _) ?_|refine gx ?_|refine fk (h1:=fun hw=> ?_) (h2:=fun hw=> ?_)|refine M8 (h1:=fun hw=> ?_) (h2:=fun hw=> ?_)|refine Ex.J6 ?_|refine Ex.J8 ?_|refine Ex.cond rfl (fun ht=> ?_) (fun ht=> ?_)|refine Ex.test (Rn.text ?_)|refine Ex.test (Rn.draw ?_)|refine ⟨_,rfl,fun ht=> ?_,fun ht=> ?_⟩|refine ⟨_,rfl,?_⟩|fail)
 all_goals first|(simp [*,b9,cM,zeroV];done)|(simp_all [b9,cM,zeroV];done)|(simp_all [b9,cM,zeroV,o9,o5,j5,A3];done)|(simp_all [b9,cM,zeroV,o9,o5,j5,A3]<;>omega)
set_option maxHeartbeats 2000000 in
theorem Nf (op:Int):Pf A 141 [.d (num op)] (.d (num (kJ op))):=by
 refine Pf.run [.d (num op),.any,.any,.any,.any] rfl rfl rfl rfl ?_
 repeat' (first|refine gx ?_|refine fk (h1:=fun hw=> ?_) (h2:=fun hw=> ?_)|refine M8 (h1:=fun hw=> ?_) (h2:=fun hw=> ?_)|refine Ex.J6 ?_|refine Ex.J8 ?_|refine Ex.cond rfl (fun ht=> ?_) (fun ht=> ?_)|refine Ex.test (Rn.text ?_)|refine Ex.test (Rn.draw ?_)|refine ⟨_,rfl,fun ht=> ?_,fun ht=> ?_⟩|refine ⟨_,rfl,?_⟩|fail)
 all_goals first|(simp [*,b9,kJ,num];done)|(simp_all [b9,kJ,num];done)|(simp_all [b9,kJ,num,o9,o5,j5,A3];done)|(simp_all [b9,kJ,num,o9,o5,j5,A3]<;>omega)
set_option maxHeartbeats 8000000 in
theorem Ng (op:Int):Pf A 184 [.d (num op)] (.d (num (kJ op))):=by
 refine Pf.run [.d (num op),.any,.any,.any,.any,.any] rfl rfl rfl rfl ?_
 repeat' (first|refine gx ?_|refine fk (h1:=fun hw=> ?_) (h2:=fun hw=> ?_)|refine M8 (h1:=fun hw=> ?_) (h2:=fun hw=> ?_)|refine Ex.J6 ?_|refine Ex.J8 ?_|refine Ex.cond rfl (fun ht=> ?_) (fun ht=> ?_)|refine Ex.test (Rn.text ?_)|refine Ex.test (Rn.draw ?_)|refine ⟨_,rfl,fun ht=> ?_,fun ht=> ?_⟩|refine ⟨_,rfl,?_⟩|fail)
 all_goals first|(simp [*,b9,kJ,num];done)|(simp_all [b9,kJ,num];done)|(simp_all [b9,kJ,num,o9,o5,j5,A3];done)|(simp_all [b9,kJ,num,o9,o5,j5,A3]<;>omega)
def ee (e:List Z2):b6:= .d (y7 Z2.enc e)
def og (e:List Z2)(d p:Nat):Int:=match K3 d (e.drop p) with
 |none=> -1
 |some (_,r)=>((e.length - r.length:Nat):Int)
def AQ (e:List Z2)(d k p:Nat):Int:=match cq (K3 d) k (e.drop p) with
 |none=> -1
 |some (_,r)=>((e.length - r.length:Nat):Int)
theorem Kp {e:List Z2}{d p:Nat}(hp:p<e.length)(h:vS (nth e p)=true):og e (d+1) p=AQ e d (kJ (nth e p).op).toNat (p+1):=by
 simp only [og,AQ];rw [A4 hp,K3,h,if_pos rfl];cases cq (K3 d) (kJ (nth e p).op).toNat (e.drop (p+1)) with
 |none=>rfl
 |some x=>rfl
theorem yN {e:List Z2}{d p:Nat}(h:e.length<=p\/d=0\/vS (nth e p)=false):og e d p= -1:=by
 simp only [og]
 rcases h with h|h|h
 ·rw [m7 h]
  cases d<;>rfl
 ·subst h;rfl
 ·rcases p7 p e.length with hp|hp
  ·rw [A4 hp]
   cases d with
   |zero=>rfl
   |succ d=>rw [K3,h,if_neg (by simp)]
  ·rw [m7 hp]
   cases d<;>rfl
theorem oh (e:List Z2)(d p:Nat):(og e d p= -1/\K3 d (e.drop p)=none)\/∃ q:Nat,og e d p=q/\q<=e.length/\p<=q/\∃ a,K3 d (e.drop p)=some (a,e.drop q):=by
 simp only [og];cases h:K3 d (e.drop p) with
 |none=>exact Or.inl ⟨rfl,rfl⟩
 |some x =>
  obtain ⟨a,r⟩:=x;right;obtain ⟨h1,_,_⟩:=Q5 d _ a r h;have h2:r.length<=e.length - p:=by
   have:=congrArg List.length h1;simp at this;omega
  have h4:p<=e.length:=by
   rcases p7 e.length p with hp|hp
   ·rw [m7 (by omega)] at h1
    have:=congrArg List.length h1;have:=fT a;simp at *
    omega
   ·exact hp
  refine ⟨e.length - r.length,rfl,by omega,by omega,a,?_⟩;have h3:e.drop (e.length - r.length)=r:=by
   have h5:e=(e.take p++a.flat)++r:=by rw [List.append_assoc,<- h1,List.take_append_drop]
   conv=>lhs;rw [h5]
   rw [List.drop_append_of_le_length (by simp;omega),m7 (by simp;omega)];rfl
  rw [h3]
theorem Ko {e:List Z2}{d k p:Nat}:AQ e d (k+1) p=if C2 (og e d p) 0 then -1 else AQ e d k (og e d p).toNat:=by
 rcases oh e d p with ⟨h1,h2⟩|⟨q,h1,_,_,a,h2⟩
 ·rw [h1,if_pos (by simp [o9])]
  simp only [AQ,cq,h2]
 ·rw [h1,if_neg (by simp [o9])]
  simp only [AQ,cq,h2,Int.toNat_natCast];cases cq (K3 d) k (e.drop q) with
  |none=>rfl
  |some x=>rfl
set_option maxHeartbeats 2000000 in
theorem Sy (e:List Z2)(he:e.length<=1000):∀ d p:Nat,d<=100->p<=2000->Pf A 167 [ee e,.d (num p),.d (num d)] (.d (num (og e d p))):=by
 intro d
 induction d with
 |zero =>
  intro p _ hp;refine Pf.run [ee e,.d (num p),.d (num (0:Nat)),.any,.any,.any] rfl rfl rfl rfl ?_;refine gr ?_;refine tB (true) ?_ (fun h1=> ?_) (fun h1=> ?_)
  ·repeat' (first|refine cl (Nf _) ?_|refine cl (Sz _) ?_|refine gx ?_|refine fk (h1:=fun hw=> ?_) (h2:=fun hw=> ?_)|refine M8 (h1:=fun hw=> ?_) (h2:=fun hw=> ?_)|refine ⟨rfl,rfl,_,rfl,?_⟩|refine ⟨rfl,rfl⟩|fail)
   all_goals exact cc
  ·refine gr ?_
   exact ⟨_,rfl,by rw [yN (Or.inr (Or.inl rfl))];rfl⟩
  ·cases h1
 |succ d ih =>
  intro p hd hp;refine Pf.run [ee e,.d (num p),.d (num (d+1:Nat)),.any,.any,.any] rfl rfl rfl rfl ?_;refine gr ?_;refine tB (X4 e.length p|| !vS (nth e p)) ?_ (fun h1=> ?_) (fun h1=> ?_)
  ·repeat' (first|refine cl (Nf _) ?_|refine cl (Sz _) ?_|refine gx ?_|refine fk (h1:=fun hw=> ?_) (h2:=fun hw=> ?_)|refine M8 (h1:=fun hw=> ?_) (h2:=fun hw=> ?_)|refine ⟨rfl,rfl,_,rfl,?_⟩|refine ⟨rfl,rfl⟩|fail)
   all_goals first|(simp [*,b9,vS];done)|(simp_all [b9,vS];done)|(simp_all [b9,vS,o9,o5,j5,A3];done)|(simp_all [b9,vS,o9,o5,j5,A3]<;>omega)
  ·refine gr ?_
   refine ⟨_,rfl,?_⟩;rw [yN]
   ·rfl
   ·simp only [Bool.or_eq_true,j9] at h1
    rcases h1 with h|h
    ·have:=pO h;left;omega
    ·exact Or.inr (Or.inr h)
  simp only [Bool.or_eq_false_iff,B4] at h1;have h2:=zd h1.1;have h3:=mM (nth e p).op;have h4:0<=kJ (nth e p).op:=by
   have:=h1.2;simp only [vS,b5,j9] at this;exact z8 this.1
  repeat' (first|refine cl (Nf _) ?_|refine gx ?_|fail)
  refine Ex.I7 (fun k T H=>∃ (i q:Nat) (v:b6),T=[ee e,.d (num q),.d (num (d+1:Nat)),v,.d (num (kJ (nth e p).op)),.d (num i)]/\H=[]/\(i:Int)+k=kJ (nth e p).op/\q<=e.length/\og e (d+1) p=AQ e d k q) (by rintro _ _ _ ⟨_,_,_,_,rfl,_⟩;rfl) ?_ (k:=(kJ (nth e p).op).toNat) ⟨0,p+1,_,rfl,rfl,by omega,by omega,Kp (by omega) h1.2⟩;rintro k _ _ ⟨i,q,v,rfl,rfl,hk,hq,hi⟩;refine Ex.nT ?_;refine Ex.seq ?_;refine tb (C2 i (kJ (nth e p).op)) (fun h5=> ?_) (fun h5=> ?_)
  ·have h6:=z6 h5
   obtain ⟨k,rfl⟩:∃ k',k=k' +1:=⟨k - 1,by omega⟩;refine gr ?_;refine cl (ih q (by omega) (by omega)) ?_ (ha:=by rw [show (d:Int)=((d+1:Nat):Int) - 1 by omega];rfl);rw [Ko] at hi
   rcases oh e d q with ⟨e1,_⟩|⟨q',e1,e2,_,_,_⟩
   ·rw [e1] at hi ⊢
    have e3:C2 (-1) 0=true:=by simp [o9]
    rw [e3,if_pos rfl] at hi;refine gr ?_;refine tb (true) (fun h7=> ?_) (fun h7=> ?_)
    ·refine gr ?_
     exact ⟨_,rfl,by rw [hi];rfl⟩
    ·cases h7
   ·rw [e1] at hi ⊢
    have e3:C2 (q' :Int) 0=false:=by simp [o9]
    rw [e3,if_neg (by simp)] at hi;refine gr ?_;refine tb (false) (fun h7=> ?_) (fun h7=> ?_)
    ·cases h7
    refine gr ?_;exact ⟨k,by omega,i+1,q',_,rfl,rfl,by omega,by omega,hi⟩
  ·have h6:=z8 h5
   obtain rfl:k=0:=by omega
   refine gr ?_;refine ⟨_,rfl,?_⟩;have h8:AQ e d 0 q=q:=by simp only [AQ,cq,List.length_drop];omega
   rw [hi,h8];rfl
def ek (e:List Z2):Bool:=X4 1 e.length&&X4 e.length 64&&o8 (og e 16 0) e.length
theorem Yv (e:List Z2)(he:e.length<=1000):Pf A 144 [ee e] (.d (.bool (ek e))):=by
 refine Pf.run [ee e,.any] rfl rfl rfl rfl ?_
 repeat' (first|refine cl (Sy e he 16 0 (by omega) (by omega)) ?_|refine gx ?_|refine fk (h1:=fun hw=> ?_) (h2:=fun hw=> ?_)|refine M8 (h1:=fun hw=> ?_) (h2:=fun hw=> ?_)|refine Ex.J6 ?_|refine Ex.J8 ?_|refine Ex.cond rfl (fun ht=> ?_) (fun ht=> ?_)|refine Ex.test (Rn.text ?_)|refine Ex.test (Rn.draw ?_)|refine ⟨_,rfl,fun ht=> ?_,fun ht=> ?_⟩|refine ⟨_,rfl,?_⟩|fail)
 all_goals first|(simp [*,b9,ek];done)|(simp_all [b9,ek];done)|(simp_all [b9,ek,o9,o5,j5,A3];done)|(simp_all [b9,ek,o9,o5,j5,A3]<;>omega)
theorem gl (e:List Z2):ek e=(eo e).isSome:=by
 unfold ek eo;cases h:(X4 1 e.length&&X4 e.length 64) with
 |false=>rfl
 |true =>
  simp only [if_true,Bool.true_and];simp only [b5] at h;have hl:=pO h.1;simp only [og,List.drop_zero];cases h1:K3 16 e with
  |none =>
   simp only [Option.isSome_none,j5];simp
  |some x =>
   obtain ⟨a,r⟩:=x;obtain ⟨h2,_,_⟩:=Q5 16 e a r h1;have h3:a.flat.length+r.length=e.length:=by rw [h2];simp
   have h4:=fT a;cases r with
   |nil=>simp [j5]
   |cons t r=>simp [j5] at *;omega
def Vf (l:List Z7):b6:= .d (y7 (fun x=>[y7 Z2.enc x]) (l.map Z7.flat))
theorem Ga {e:List Z2}{p:Nat}{a:Z7}{l:List Z7}(h:e.drop p=K1 (a::l)):e.drop (p+a.flat.length)=K1 l/\(e.take (p+a.flat.length)).drop p=a.flat:=by
 constructor
 ·rw [<- List.drop_drop,h,K1,List.drop_left]
 ·rw [List.drop_take,h,Nat.add_sub_cancel_left,K1,List.take_left]
set_option maxHeartbeats 2000000 in
theorem YA (t:Z2)(l:List Z7)(he:(t::K1 l).length<=1000)(hw:RC l)(hd:jF l<=16):Pf A 168 [ee (t::K1 l)] (Vf l):=by
 refine Pf.run [ee (t::K1 l),.any,.any,.any,.any] rfl rfl rfl rfl ?_;refine gr ?_;refine Ex.I7 (fun k T H=>∃ (p:Nat) (l1 l2:List Z7) (v w:b6),T=[ee (t::K1 l),v,A5 1 (fun x=>[y7 Z2.enc x]) (l1.map Z7.flat),.d (num p),w]/\H=[]/\k=l2.length/\l=l1++l2/\p<=(t::K1 l).length/\(t::K1 l).drop p=K1 l2/\RC l2/\jF l2<=16) (by rintro _ _ _ ⟨_,_,_,_,_,_,rfl,_⟩;rfl) ?_ (k:=l.length) ⟨1,[],l,_,_,rfl,rfl,rfl,rfl,by simp,rfl,hw,hd⟩;rintro k _ _ ⟨p,l1,l2,v,w,rfl,rfl,hk,hl,hp,hp2,HV,hd2⟩;have hlen:=rH l;have VJ:l1.length<=1000:=by
  have:=congrArg List.length hl;simp at this he;omega
 have Gr:(K1 l2).length+p=(t::K1 l).length:=by rw [<- hp2];simp at hp ⊢;omega
 refine Ex.nT ?_;refine Ex.seq ?_;refine tb (C2 p (t::K1 l).length) (fun h1=> ?_) (fun h1=> ?_)
 ·have h2:=z6 h1
  cases l2 with
  |nil=>simp [K1] at Gr h2;omega
  |cons a l2 =>
  have h3:=Ga hp2;have h4:og (t::K1 l) 16 p=((p+a.flat.length:Nat):Int):=by
   simp only [jF] at hd2;simp only [og,hp2,K1];rw [U9 a 16 (K1 l2) HV.1 (by omega)];simp only [K1,C1] at Gr;simp only;omega
  have h5:=Sy (t::K1 l) he 16 p (by omega) (by omega);rw [h4] at h5;simp only [K1,C1] at Gr
  repeat' (first|refine cl (h5) ?_|refine gx ?_|fail)
  refine ⟨l2.length,by simp at hk;omega,p+a.flat.length,l1++[a],l2,.any,.d (num (p+a.flat.length:Nat)),by rw [h3.2];simp [A5],rfl,rfl,by simp [hl],by omega,h3.1,HV.2,by simp only [jF] at hd2;omega⟩
 ·have h2:=z8 h1
  cases l2 with
  |cons a l2 =>
   have:=fT a;simp only [K1,C1] at Gr;omega
  |nil =>
  refine gr ?_;refine ⟨_,rfl,?_⟩;simp at hl;subst hl;rfl
end Go.Proofs.YtkmclibmmlgogaaGreat


/- Texts D6 D7 (made short by a program) -/
import Derived.Test.YtkmclibmmlgogaaGreatD0
set_option linter.unusedVariables false
set_option linter.unusedSimpArgs false
open Bool renaming and_eq_true → b5, not_eq_false' → A7, not_eq_true' → j5, or_eq_false_iff → L6
open List renaming drop_of_length_le → m6, length_append → C1
open Nat renaming lt_or_ge → p9
namespace Go.Proofs.YtkmclibmmlgogaaGreat
open Go.z7 Go.z7.S
attribute [local irreducible] Rx Ry Rn Ex Pf
def val (k n:Int)(s:D6):b6:= .agg [.d (num k),.d (num n),.d (.str s)]
def Xm (t:aG):b6:= .agg (t.enc.map .d)
set_option maxHeartbeats 2000000 in
theorem ZW (k n:Int)(s:D6):Pf A 187 [val k n s] (.d (.bool (fE k n s))):=by
 refine Pf.run [val k n s,.any,.any,.any] rfl rfl rfl rfl ?_
 repeat' (first|refine gx ?_|refine fk (h1:=fun hw=> ?_) (h2:=fun hw=> ?_)|refine L3 (h1:=fun hw=> ?_) (h2:=fun hw=> ?_)|refine Ex.I4 ?_|refine Ex.I6 ?_|refine Ex.cond rfl (fun ht=> ?_) (fun ht=> ?_)|refine Ex.test (Rn.text ?_)|refine Ex.test (Rn.draw ?_)|refine ⟨_,rfl,fun ht=> ?_,fun ht=> ?_⟩|refine ⟨_,rfl,?_⟩|fail)
 all_goals first|(simp [*,b9,fE];done)|(simp_all [b9,fE];done)|(simp_all [b9,fE,p8,p5,j9,B7];done)|(simp_all [b9,fE,p8,p5,j9,B7]<;>omega)
set_option maxHeartbeats 2000000 in
theorem ZX (k n:Int)(s:D6):Pf A 189 [val k n s] (.d (.bool (fE k n s))):=by
 refine Pf.run [val k n s,.any,.any,.any] rfl rfl rfl rfl ?_
 repeat' (first|refine gx ?_|refine fk (h1:=fun hw=> ?_) (h2:=fun hw=> ?_)|refine L3 (h1:=fun hw=> ?_) (h2:=fun hw=> ?_)|refine Ex.I4 ?_|refine Ex.I6 ?_|refine Ex.cond rfl (fun ht=> ?_) (fun ht=> ?_)|refine Ex.test (Rn.text ?_)|refine Ex.test (Rn.draw ?_)|refine ⟨_,rfl,fun ht=> ?_,fun ht=> ?_⟩|refine ⟨_,rfl,?_⟩|fail)
 all_goals first|(simp [*,b9,fE];done)|(simp_all [b9,fE];done)|(simp_all [b9,fE,p8,p5,j9,B7];done)|(simp_all [b9,fE,p8,p5,j9,B7]<;>omega)
set_option maxHeartbeats 2000000 in
theorem TH (t:aG):Pf A 179 [Xm t] (.d (.bool (de t))):=by
 refine Pf.run [Xm t,.any,.any,.any] rfl rfl rfl rfl ?_
 repeat' (first|refine cl (ZW _ _ _) ?_|refine gx ?_|refine fk (h1:=fun hw=> ?_) (h2:=fun hw=> ?_)|refine L3 (h1:=fun hw=> ?_) (h2:=fun hw=> ?_)|refine Ex.I4 ?_|refine Ex.I6 ?_|refine Ex.cond rfl (fun ht=> ?_) (fun ht=> ?_)|refine Ex.test (Rn.text ?_)|refine Ex.test (Rn.draw ?_)|refine ⟨_,rfl,fun ht=> ?_,fun ht=> ?_⟩|refine ⟨_,rfl,?_⟩|fail)
 all_goals first|(simp [*,b9,de,zeroV];done)|(simp_all [b9,de,zeroV];done)|(simp_all [b9,de,zeroV,p8,p5,j9,B7];done)|(simp_all [b9,de,zeroV,p8,p5,j9,B7]<;>omega)
set_option maxHeartbeats 2000000 in
theorem NO (op:Int):Pf A 141 [.d (num op)] (.d (num (lE op))):=by
 refine Pf.run [.d (num op),.any,.any,.any,.any] rfl rfl rfl rfl ?_
 repeat' (first|refine gx ?_|refine fk (h1:=fun hw=> ?_) (h2:=fun hw=> ?_)|refine L3 (h1:=fun hw=> ?_) (h2:=fun hw=> ?_)|refine Ex.I4 ?_|refine Ex.I6 ?_|refine Ex.cond rfl (fun ht=> ?_) (fun ht=> ?_)|refine Ex.test (Rn.text ?_)|refine Ex.test (Rn.draw ?_)|refine ⟨_,rfl,fun ht=> ?_,fun ht=> ?_⟩|refine ⟨_,rfl,?_⟩|fail)
 all_goals first|(simp [*,b9,lE,num];done)|(simp_all [b9,lE,num];done)|(simp_all [b9,lE,num,p8,p5,j9,B7];done)|(simp_all [b9,lE,num,p8,p5,j9,B7]<;>omega)
set_option maxHeartbeats 8000000 in
theorem NP (op:Int):Pf A 184 [.d (num op)] (.d (num (lE op))):=by
 refine Pf.run [.d (num op),.any,.any,.any,.any,.any] rfl rfl rfl rfl ?_
 repeat' (first|refine gx ?_|refine fk (h1:=fun hw=> ?_) (h2:=fun hw=> ?_)|refine L3 (h1:=fun hw=> ?_) (h2:=fun hw=> ?_)|refine Ex.I4 ?_|refine Ex.I6 ?_|refine Ex.cond rfl (fun ht=> ?_) (fun ht=> ?_)|refine Ex.test (Rn.text ?_)|refine Ex.test (Rn.draw ?_)|refine ⟨_,rfl,fun ht=> ?_,fun ht=> ?_⟩|refine ⟨_,rfl,?_⟩|fail)
 all_goals first|(simp [*,b9,lE,num];done)|(simp_all [b9,lE,num];done)|(simp_all [b9,lE,num,p8,p5,j9,B7];done)|(simp_all [b9,lE,num,p8,p5,j9,B7]<;>omega)
def eA (e:List aG):b6:= .d (A5 aG.enc e)
def oQ (e:List aG)(d p:Nat):Int:=match L4 d (e.drop p) with
 |none=> -1
 |some (_,r)=>((e.length - r.length:Nat):Int)
def By (e:List aG)(d k p:Nat):Int:=match cI (L4 d) k (e.drop p) with
 |none=> -1
 |some (_,r)=>((e.length - r.length:Nat):Int)
theorem KY {e:List aG}{d p:Nat}(hp:p<e.length)(h:wR (nth e p)=true):oQ e (d+1) p=By e d (lE (nth e p).op).toNat (p+1):=by
 simp only [oQ,By];rw [A8 hp,L4,h,if_pos rfl];cases cI (L4 d) (lE (nth e p).op).toNat (e.drop (p+1)) with
 |none=>rfl
 |some x=>rfl
theorem zF {e:List aG}{d p:Nat}(h:e.length<=p\/d=0\/wR (nth e p)=false):oQ e d p= -1:=by
 simp only [oQ]
 rcases h with h|h|h
 ·rw [m6 h]
  cases d<;>rfl
 ·subst h;rfl
 ·rcases p9 p e.length with hp|hp
  ·rw [A8 hp]
   cases d with
   |zero=>rfl
   |succ d=>rw [L4,h,if_neg (by simp)]
  ·rw [m6 hp]
   cases d<;>rfl
theorem oR (e:List aG)(d p:Nat):(oQ e d p= -1/\L4 d (e.drop p)=none)\/∃ q:Nat,oQ e d p=q/\q<=e.length/\p<=q/\∃ a,L4 d (e.drop p)=some (a,e.drop q):=by
 simp only [oQ];cases h:L4 d (e.drop p) with
 |none=>exact Or.inl ⟨rfl,rfl⟩
 |some x =>
  obtain ⟨a,r⟩:=x;right;obtain ⟨h1,_,_⟩:=R9 d _ a r h;have h2:r.length<=e.length - p:=by
   have:=congrArg List.length h1;simp at this;omega
  have h4:p<=e.length:=by
   rcases p9 e.length p with hp|hp
   ·rw [m6 (by omega)] at h1
    have:=congrArg List.length h1;have:=gn a;simp at *
    omega
   ·exact hp
  refine ⟨e.length - r.length,rfl,by omega,by omega,a,?_⟩;have h3:e.drop (e.length - r.length)=r:=by
   have h5:e=(e.take p++a.flat)++r:=by rw [List.append_assoc,<- h1,List.take_append_drop]
   conv=>lhs;rw [h5]
   rw [List.drop_append_of_le_length (by simp;omega),m6 (by simp;omega)];rfl
  rw [h3]
theorem KX {e:List aG}{d k p:Nat}:By e d (k+1) p=if C7 (oQ e d p) 0 then -1 else By e d k (oQ e d p).toNat:=by
 rcases oR e d p with ⟨h1,h2⟩|⟨q,h1,_,_,a,h2⟩
 ·rw [h1,if_pos (by simp [p8])]
  simp only [By,cI,h2]
 ·rw [h1,if_neg (by simp [p8])]
  simp only [By,cI,h2,Int.toNat_natCast];cases cI (L4 d) k (e.drop q) with
  |none=>rfl
  |some x=>rfl
set_option maxHeartbeats 2000000 in
theorem TF (e:List aG)(he:e.length<=1000):∀ d p:Nat,d<=100->p<=2000->Pf A 167 [eA e,.d (num p),.d (num d)] (.d (num (oQ e d p))):=by
 intro d
 induction d with
 |zero =>
  intro p _ hp;refine Pf.run [eA e,.d (num p),.d (num (0:Nat)),.any,.any,.any] rfl rfl rfl rfl ?_;refine gr ?_;refine tB (true) ?_ (fun h1=> ?_) (fun h1=> ?_)
  ·repeat' (first|refine cl (NO _) ?_|refine cl (TH _) ?_|refine gx ?_|refine fk (h1:=fun hw=> ?_) (h2:=fun hw=> ?_)|refine L3 (h1:=fun hw=> ?_) (h2:=fun hw=> ?_)|refine ⟨rfl,rfl,_,rfl,?_⟩|refine ⟨rfl,rfl⟩|fail)
   all_goals exact cc
  ·refine gr ?_
   exact ⟨_,rfl,by rw [zF (Or.inr (Or.inl rfl))];rfl⟩
  ·cases h1
 |succ d ih =>
  intro p hd hp;refine Pf.run [eA e,.d (num p),.d (num (d+1:Nat)),.any,.any,.any] rfl rfl rfl rfl ?_;refine gr ?_;refine tB (W6 e.length p|| !wR (nth e p)) ?_ (fun h1=> ?_) (fun h1=> ?_)
  ·repeat' (first|refine cl (NO _) ?_|refine cl (TH _) ?_|refine gx ?_|refine fk (h1:=fun hw=> ?_) (h2:=fun hw=> ?_)|refine L3 (h1:=fun hw=> ?_) (h2:=fun hw=> ?_)|refine ⟨rfl,rfl,_,rfl,?_⟩|refine ⟨rfl,rfl⟩|fail)
   all_goals first|(simp [*,b9,wR];done)|(simp_all [b9,wR];done)|(simp_all [b9,wR,p8,p5,j9,B7];done)|(simp_all [b9,wR,p8,p5,j9,B7]<;>omega)
  ·refine gr ?_
   refine ⟨_,rfl,?_⟩;rw [zF]
   ·rfl
   ·simp only [Bool.or_eq_true,j5] at h1
    rcases h1 with h|h
    ·have:=qD h;left;omega
    ·exact Or.inr (Or.inr h)
  simp only [L6,A7] at h1;have h2:=zS h1.1;have h3:=nr (nth e p).op;have h4:0<=lE (nth e p).op:=by
   have:=h1.2;simp only [wR,b5,j5] at this;exact z8 this.1
  repeat' (first|refine cl (NO _) ?_|refine gx ?_|fail)
  refine Ex.J1 (fun k T H=>∃ (i q:Nat) (v:b6),T=[eA e,.d (num q),.d (num (d+1:Nat)),v,.d (num (lE (nth e p).op)),.d (num i)]/\H=[]/\(i:Int)+k=lE (nth e p).op/\q<=e.length/\oQ e (d+1) p=By e d k q) (by rintro _ _ _ ⟨_,_,_,_,rfl,_⟩;rfl) ?_ (k:=(lE (nth e p).op).toNat) ⟨0,p+1,_,rfl,rfl,by omega,by omega,KY (by omega) h1.2⟩;rintro k _ _ ⟨i,q,v,rfl,rfl,hk,hq,hi⟩;refine Ex.nT ?_;refine Ex.seq ?_;refine tb (C7 i (lE (nth e p).op)) (fun h5=> ?_) (fun h5=> ?_)
  ·have h6:=A4 h5
   obtain ⟨k,rfl⟩:∃ k',k=k' +1:=⟨k - 1,by omega⟩;refine gr ?_;refine cl (ih q (by omega) (by omega)) ?_ (ha:=by rw [show (d:Int)=((d+1:Nat):Int) - 1 by omega];rfl);rw [KX] at hi
   rcases oR e d q with ⟨e1,_⟩|⟨q',e1,e2,_,_,_⟩
   ·rw [e1] at hi ⊢
    have e3:C7 (-1) 0=true:=by simp [p8]
    rw [e3,if_pos rfl] at hi;refine gr ?_;refine tb (true) (fun h7=> ?_) (fun h7=> ?_)
    ·refine gr ?_
     exact ⟨_,rfl,by rw [hi];rfl⟩
    ·cases h7
   ·rw [e1] at hi ⊢
    have e3:C7 (q' :Int) 0=false:=by simp [p8]
    rw [e3,if_neg (by simp)] at hi;refine gr ?_;refine tb (false) (fun h7=> ?_) (fun h7=> ?_)
    ·cases h7
    refine gr ?_;exact ⟨k,by omega,i+1,q',_,rfl,rfl,by omega,by omega,hi⟩
  ·have h6:=z8 h5
   obtain rfl:k=0:=by omega
   refine gr ?_;refine ⟨_,rfl,?_⟩;have h8:By e d 0 q=q:=by simp only [By,cI,List.length_drop];omega
   rw [hi,h8];rfl
def eC (e:List aG):Bool:=W6 1 e.length&&W6 e.length 64&&o9 (oQ e 16 0) e.length
theorem ZG (e:List aG)(he:e.length<=1000):Pf A 144 [eA e] (.d (.bool (eC e))):=by
 refine Pf.run [eA e,.any] rfl rfl rfl rfl ?_
 repeat' (first|refine cl (TF e he 16 0 (by omega) (by omega)) ?_|refine gx ?_|refine fk (h1:=fun hw=> ?_) (h2:=fun hw=> ?_)|refine L3 (h1:=fun hw=> ?_) (h2:=fun hw=> ?_)|refine Ex.I4 ?_|refine Ex.I6 ?_|refine Ex.cond rfl (fun ht=> ?_) (fun ht=> ?_)|refine Ex.test (Rn.text ?_)|refine Ex.test (Rn.draw ?_)|refine ⟨_,rfl,fun ht=> ?_,fun ht=> ?_⟩|refine ⟨_,rfl,?_⟩|fail)
 all_goals first|(simp [*,b9,eC];done)|(simp_all [b9,eC];done)|(simp_all [b9,eC,p8,p5,j9,B7];done)|(simp_all [b9,eC,p8,p5,j9,B7]<;>omega)
theorem gF (e:List aG):eC e=(eD e).isSome:=by
 unfold eC eD;cases h:(W6 1 e.length&&W6 e.length 64) with
 |false=>rfl
 |true =>
  simp only [if_true,Bool.true_and];simp only [b5] at h;have hl:=qD h.1;simp only [oQ,List.drop_zero];cases h1:L4 16 e with
  |none =>
   simp only [Option.isSome_none,j9];simp
  |some x =>
   obtain ⟨a,r⟩:=x;obtain ⟨h2,_,_⟩:=R9 16 e a r h1;have h3:a.flat.length+r.length=e.length:=by rw [h2];simp
   have h4:=gn a;cases r with
   |nil=>simp [j9]
   |cons t r=>simp [j9] at *;omega
def Ws (l:List aD):b6:= .d (A5 (fun x=>[A5 aG.enc x]) (l.map aD.flat))
theorem GB {e:List aG}{p:Nat}{a:aD}{l:List aD}(h:e.drop p=L0 (a::l)):e.drop (p+a.flat.length)=L0 l/\(e.take (p+a.flat.length)).drop p=a.flat:=by
 constructor
 ·rw [<- List.drop_drop,h,L0,List.drop_left]
 ·rw [List.drop_take,h,Nat.add_sub_cancel_left,L0,List.take_left]
set_option maxHeartbeats 2000000 in
theorem ZL (t:aG)(l:List aD)(he:(t::L0 l).length<=1000)(hw:Sz l)(hd:jZ l<=16):Pf A 168 [eA (t::L0 l)] (Ws l):=by
 refine Pf.run [eA (t::L0 l),.any,.any,.any,.any] rfl rfl rfl rfl ?_;refine gr ?_;refine Ex.J1 (fun k T H=>∃ (p:Nat) (l1 l2:List aD) (v w:b6),T=[eA (t::L0 l),v,B4 1 (fun x=>[A5 aG.enc x]) (l1.map aD.flat),.d (num p),w]/\H=[]/\k=l2.length/\l=l1++l2/\p<=(t::L0 l).length/\(t::L0 l).drop p=L0 l2/\Sz l2/\jZ l2<=16) (by rintro _ _ _ ⟨_,_,_,_,_,_,rfl,_⟩;rfl) ?_ (k:=l.length) ⟨1,[],l,_,_,rfl,rfl,rfl,rfl,by simp,rfl,hw,hd⟩;rintro k _ _ ⟨p,l1,l2,v,w,rfl,rfl,hk,hl,hp,hp2,IA,hd2⟩;have hlen:=sG l;have WX:l1.length<=1000:=by
  have:=congrArg List.length hl;simp at this he;omega
 have Gd:(L0 l2).length+p=(t::L0 l).length:=by rw [<- hp2];simp at hp ⊢;omega
 refine Ex.nT ?_;refine Ex.seq ?_;refine tb (C7 p (t::L0 l).length) (fun h1=> ?_) (fun h1=> ?_)
 ·have h2:=A4 h1
  cases l2 with
  |nil=>simp [L0] at Gd h2;omega
  |cons a l2 =>
  have h3:=GB hp2;have h4:oQ (t::L0 l) 16 p=((p+a.flat.length:Nat):Int):=by
   simp only [jZ] at hd2;simp only [oQ,hp2,L0];rw [V9 a 16 (L0 l2) IA.1 (by omega)];simp only [L0,C1] at Gd;simp only;omega
  have h5:=TF (t::L0 l) he 16 p (by omega) (by omega);rw [h4] at h5;simp only [L0,C1] at Gd
  repeat' (first|refine cl (h5) ?_|refine gx ?_|fail)
  refine ⟨l2.length,by simp at hk;omega,p+a.flat.length,l1++[a],l2,.any,.d (num (p+a.flat.length:Nat)),by rw [h3.2];simp [B4],rfl,rfl,by simp [hl],by omega,h3.1,IA.2,by simp only [jZ] at hd2;omega⟩
 ·have h2:=z8 h1
  cases l2 with
  |cons a l2 =>
   have:=gn a;simp only [L0,C1] at Gd;omega
  |nil =>
  refine gr ?_;refine ⟨_,rfl,?_⟩;simp at hl;subst hl;rfl
end Go.Proofs.YtkmclibmmlgogaaGreat


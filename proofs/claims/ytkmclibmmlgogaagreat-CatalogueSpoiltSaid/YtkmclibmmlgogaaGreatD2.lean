/- Texts D6 D7 (made short by a program) -/
import Derived.Test.YtkmclibmmlgogaaGreatD0
set_option linter.unusedVariables false
set_option linter.unusedSimpArgs false
open Bool renaming and_eq_true → b5, not_eq_false' → A9, not_eq_true' → j5
open List renaming drop_of_length_le → k9, length_append → E0
open Nat renaming lt_or_ge → u9
namespace Go.Proofs.YtkmclibmmlgogaaGreat
open Go.y3 Go.y3.S
attribute [local irreducible] Rx Ry Rn Ex Pf
def val (k n:Int)(s:D8):b6:= .agg [.d (num k),.d (num n),.d (.str s)]
def ZF (t:aE):b6:= .agg (t.enc.map .d)
set_option maxHeartbeats 2000000 in
theorem al9 (k n:Int)(s:D8):Pf A 187 [val k n s] (.d (.bool (fO k n s))):=by
 refine Pf.run [val k n s,.any,.any,.any] rfl rfl rfl rfl ?_
 repeat' (first|refine gx ?_|refine fk (h1:=fun hw=> ?_) (h2:=fun hw=> ?_)|refine L7 (h1:=fun hw=> ?_) (h2:=fun hw=> ?_)|refine Ex.H7 ?_|refine Ex.H8 ?_|refine Ex.cond rfl (fun ht=> ?_) (fun ht=> ?_)|refine Ex.test (Rn.text ?_)|refine Ex.test (Rn.draw ?_)|refine ⟨_,rfl,fun ht=> ?_,fun ht=> ?_⟩|refine ⟨_,rfl,?_⟩|fail)
 all_goals first|(simp [*,b8,fO];done)|(simp_all [b8,fO];done)|(simp_all [b8,fO,p5,p4,j9,B8];done)|(simp_all [b8,fO,p5,p4,j9,B8]<;>omega)
set_option maxHeartbeats 2000000 in
theorem am0 (k n:Int)(s:D8):Pf A 189 [val k n s] (.d (.bool (fO k n s))):=by
 refine Pf.run [val k n s,.any,.any,.any] rfl rfl rfl rfl ?_
 repeat' (first|refine gx ?_|refine fk (h1:=fun hw=> ?_) (h2:=fun hw=> ?_)|refine L7 (h1:=fun hw=> ?_) (h2:=fun hw=> ?_)|refine Ex.H7 ?_|refine Ex.H8 ?_|refine Ex.cond rfl (fun ht=> ?_) (fun ht=> ?_)|refine Ex.test (Rn.text ?_)|refine Ex.test (Rn.draw ?_)|refine ⟨_,rfl,fun ht=> ?_,fun ht=> ?_⟩|refine ⟨_,rfl,?_⟩|fail)
 all_goals first|(simp [*,b8,fO];done)|(simp_all [b8,fO];done)|(simp_all [b8,fO,p5,p4,j9,B8];done)|(simp_all [b8,fO,p5,p4,j9,B8]<;>omega)
set_option maxHeartbeats 2000000 in
theorem VD (t:aE):Pf A 179 [ZF t] (.d (.bool (dn t))):=by
 refine Pf.run [ZF t,.any,.any,.any] rfl rfl rfl rfl ?_
 repeat' (first|refine cl (al9 _ _ _) ?_|refine gx ?_|refine fk (h1:=fun hw=> ?_) (h2:=fun hw=> ?_)|refine L7 (h1:=fun hw=> ?_) (h2:=fun hw=> ?_)|refine Ex.H7 ?_|refine Ex.H8 ?_|refine Ex.cond rfl (fun ht=> ?_) (fun ht=> ?_)|refine Ex.test (Rn.text ?_)|refine Ex.test (Rn.draw ?_)|refine ⟨_,rfl,fun ht=> ?_,fun ht=> ?_⟩|refine ⟨_,rfl,?_⟩|fail)
 all_goals first|(simp [*,b8,dn,zeroV];done)|(simp_all [b8,dn,zeroV];done)|(simp_all [b8,dn,zeroV,p5,p4,j9,B8];done)|(simp_all [b8,dn,zeroV,p5,p4,j9,B8]<;>omega)
set_option maxHeartbeats 2000000 in
theorem Qa (op:Int):Pf A 141 [.d (num op)] (.d (num (lU op))):=by
 refine Pf.run [.d (num op),.any,.any,.any,.any] rfl rfl rfl rfl ?_
 repeat' (first|refine gx ?_|refine fk (h1:=fun hw=> ?_) (h2:=fun hw=> ?_)|refine L7 (h1:=fun hw=> ?_) (h2:=fun hw=> ?_)|refine Ex.H7 ?_|refine Ex.H8 ?_|refine Ex.cond rfl (fun ht=> ?_) (fun ht=> ?_)|refine Ex.test (Rn.text ?_)|refine Ex.test (Rn.draw ?_)|refine ⟨_,rfl,fun ht=> ?_,fun ht=> ?_⟩|refine ⟨_,rfl,?_⟩|fail)
 all_goals first|(simp [*,b8,lU,num];done)|(simp_all [b8,lU,num];done)|(simp_all [b8,lU,num,p5,p4,j9,B8];done)|(simp_all [b8,lU,num,p5,p4,j9,B8]<;>omega)
set_option maxHeartbeats 8000000 in
theorem Qc (op:Int):Pf A 184 [.d (num op)] (.d (num (lU op))):=by
 refine Pf.run [.d (num op),.any,.any,.any,.any,.any] rfl rfl rfl rfl ?_
 repeat' (first|refine gx ?_|refine fk (h1:=fun hw=> ?_) (h2:=fun hw=> ?_)|refine L7 (h1:=fun hw=> ?_) (h2:=fun hw=> ?_)|refine Ex.H7 ?_|refine Ex.H8 ?_|refine Ex.cond rfl (fun ht=> ?_) (fun ht=> ?_)|refine Ex.test (Rn.text ?_)|refine Ex.test (Rn.draw ?_)|refine ⟨_,rfl,fun ht=> ?_,fun ht=> ?_⟩|refine ⟨_,rfl,?_⟩|fail)
 all_goals first|(simp [*,b8,lU,num];done)|(simp_all [b8,lU,num];done)|(simp_all [b8,lU,num,p5,p4,j9,B8];done)|(simp_all [b8,lU,num,p5,p4,j9,B8]<;>omega)
def eH (e:List aE):b6:= .d (z6 aE.enc e)
def pK (e:List aE)(d p:Nat):Int:=match M1 d (e.drop p) with
 |none=> -1
 |some (_,r)=>((e.length - r.length:Nat):Int)
def Cy (e:List aE)(d k p:Nat):Int:=match cO (M1 d) k (e.drop p) with
 |none=> -1
 |some (_,r)=>((e.length - r.length:Nat):Int)
theorem ME {e:List aE}{d p:Nat}(hp:p<e.length)(h:xR (nth e p)=true):pK e (d+1) p=Cy e d (lU (nth e p).op).toNat (p+1):=by
 simp only [pK,Cy];rw [A2 hp,M1,h,if_pos rfl];cases cO (M1 d) (lU (nth e p).op).toNat (e.drop (p+1)) with
 |none=>rfl
 |some x=>rfl
theorem AG {e:List aE}{d p:Nat}(h:e.length<=p\/d=0\/xR (nth e p)=false):pK e d p= -1:=by
 simp only [pK]
 rcases h with h|h|h
 ·rw [k9 h]
  cases d<;>rfl
 ·subst h;rfl
 ·rcases u9 p e.length with hp|hp
  ·rw [A2 hp]
   cases d with
   |zero=>rfl
   |succ d=>rw [M1,h,if_neg (by simp)]
  ·rw [k9 hp]
   cases d<;>rfl
theorem pM (e:List aE)(d p:Nat):(pK e d p= -1/\M1 d (e.drop p)=none)\/∃ q:Nat,pK e d p=q/\q<=e.length/\p<=q/\∃ a,M1 d (e.drop p)=some (a,e.drop q):=by
 simp only [pK];cases h:M1 d (e.drop p) with
 |none=>exact Or.inl ⟨rfl,rfl⟩
 |some x =>
  obtain ⟨a,r⟩:=x;right;obtain ⟨h1,_,_⟩:=S5 d _ a r h;have h2:r.length<=e.length - p:=by
   have:=congrArg List.length h1;simp at this;omega
  have h4:p<=e.length:=by
   rcases u9 e.length p with hp|hp
   ·rw [k9 (by omega)] at h1
    have:=congrArg List.length h1;have:=gK a;simp at *
    omega
   ·exact hp
  refine ⟨e.length - r.length,rfl,by omega,by omega,a,?_⟩;have h3:e.drop (e.length - r.length)=r:=by
   have h5:e=(e.take p++a.flat)++r:=by rw [List.append_assoc,<- h1,List.take_append_drop]
   conv=>lhs;rw [h5]
   rw [List.drop_append_of_le_length (by simp;omega),k9 (by simp;omega)];rfl
  rw [h3]
theorem MD {e:List aE}{d k p:Nat}:Cy e d (k+1) p=if C9 (pK e d p) 0 then -1 else Cy e d k (pK e d p).toNat:=by
 rcases pM e d p with ⟨h1,h2⟩|⟨q,h1,_,_,a,h2⟩
 ·rw [h1,if_pos (by simp [p5])]
  simp only [Cy,cO,h2]
 ·rw [h1,if_neg (by simp [p5])]
  simp only [Cy,cO,h2,Int.toNat_natCast];cases cO (M1 d) k (e.drop q) with
  |none=>rfl
  |some x=>rfl
set_option maxHeartbeats 2000000 in
theorem VB (e:List aE)(he:e.length<=1000):∀ d p:Nat,d<=100->p<=2000->Pf A 167 [eH e,.d (num p),.d (num d)] (.d (num (pK e d p))):=by
 intro d
 induction d with
 |zero =>
  intro p _ hp;refine Pf.run [eH e,.d (num p),.d (num (0:Nat)),.any,.any,.any] rfl rfl rfl rfl ?_;refine gr ?_;refine tB (true) ?_ (fun h1=> ?_) (fun h1=> ?_)
  ·repeat' (first|refine cl (Qa _) ?_|refine cl (VD _) ?_|refine gx ?_|refine fk (h1:=fun hw=> ?_) (h2:=fun hw=> ?_)|refine L7 (h1:=fun hw=> ?_) (h2:=fun hw=> ?_)|refine ⟨rfl,rfl,_,rfl,?_⟩|refine ⟨rfl,rfl⟩|fail)
   all_goals exact cc
  ·refine gr ?_
   exact ⟨_,rfl,by rw [AG (Or.inr (Or.inl rfl))];rfl⟩
  ·cases h1
 |succ d ih =>
  intro p hd hp;refine Pf.run [eH e,.d (num p),.d (num (d+1:Nat)),.any,.any,.any] rfl rfl rfl rfl ?_;refine gr ?_;refine tB (W8 e.length p|| !xR (nth e p)) ?_ (fun h1=> ?_) (fun h1=> ?_)
  ·repeat' (first|refine cl (Qa _) ?_|refine cl (VD _) ?_|refine gx ?_|refine fk (h1:=fun hw=> ?_) (h2:=fun hw=> ?_)|refine L7 (h1:=fun hw=> ?_) (h2:=fun hw=> ?_)|refine ⟨rfl,rfl,_,rfl,?_⟩|refine ⟨rfl,rfl⟩|fail)
   all_goals first|(simp [*,b8,xR];done)|(simp_all [b8,xR];done)|(simp_all [b8,xR,p5,p4,j9,B8];done)|(simp_all [b8,xR,p5,p4,j9,B8]<;>omega)
  ·refine gr ?_
   refine ⟨_,rfl,?_⟩;rw [AG]
   ·rfl
   ·simp only [Bool.or_eq_true,j5] at h1
    rcases h1 with h|h
    ·have:=qV h;left;omega
    ·exact Or.inr (Or.inr h)
  simp only [Bool.or_eq_false_iff,A9] at h1;have h2:=AR h1.1;have h3:=nP (nth e p).op;have h4:0<=lU (nth e p).op:=by
   have:=h1.2;simp only [xR,b5,j5] at this;exact y8 this.1
  repeat' (first|refine cl (Qa _) ?_|refine gx ?_|fail)
  refine Ex.J0 (fun k T H=>∃ (i q:Nat) (v:b6),T=[eH e,.d (num q),.d (num (d+1:Nat)),v,.d (num (lU (nth e p).op)),.d (num i)]/\H=[]/\(i:Int)+k=lU (nth e p).op/\q<=e.length/\pK e (d+1) p=Cy e d k q) (by rintro _ _ _ ⟨_,_,_,_,rfl,_⟩;rfl) ?_ (k:=(lU (nth e p).op).toNat) ⟨0,p+1,_,rfl,rfl,by omega,by omega,ME (by omega) h1.2⟩;rintro k _ _ ⟨i,q,v,rfl,rfl,hk,hq,hi⟩;refine Ex.nT ?_;refine Ex.seq ?_;refine tb (C9 i (lU (nth e p).op)) (fun h5=> ?_) (fun h5=> ?_)
  ·have h6:=y9 h5
   obtain ⟨k,rfl⟩:∃ k',k=k' +1:=⟨k - 1,by omega⟩;refine gr ?_;refine cl (ih q (by omega) (by omega)) ?_ (ha:=by rw [show (d:Int)=((d+1:Nat):Int) - 1 by omega];rfl);rw [MD] at hi
   rcases pM e d q with ⟨e1,_⟩|⟨q',e1,e2,_,_,_⟩
   ·rw [e1] at hi ⊢
    have e3:C9 (-1) 0=true:=by simp [p5]
    rw [e3,if_pos rfl] at hi;refine gr ?_;refine tb (true) (fun h7=> ?_) (fun h7=> ?_)
    ·refine gr ?_
     exact ⟨_,rfl,by rw [hi];rfl⟩
    ·cases h7
   ·rw [e1] at hi ⊢
    have e3:C9 (q' :Int) 0=false:=by simp [p5]
    rw [e3,if_neg (by simp)] at hi;refine gr ?_;refine tb (false) (fun h7=> ?_) (fun h7=> ?_)
    ·cases h7
    refine gr ?_;exact ⟨k,by omega,i+1,q',_,rfl,rfl,by omega,by omega,hi⟩
  ·have h6:=y8 h5
   obtain rfl:k=0:=by omega
   refine gr ?_;refine ⟨_,rfl,?_⟩;have h8:Cy e d 0 q=q:=by simp only [Cy,cO,List.length_drop];omega
   rw [hi,h8];rfl
def eN (e:List aE):Bool:=W8 1 e.length&&W8 e.length 64&&o9 (pK e 16 0) e.length
theorem ak4 (e:List aE)(he:e.length<=1000):Pf A 144 [eH e] (.d (.bool (eN e))):=by
 refine Pf.run [eH e,.any] rfl rfl rfl rfl ?_
 repeat' (first|refine cl (VB e he 16 0 (by omega) (by omega)) ?_|refine gx ?_|refine fk (h1:=fun hw=> ?_) (h2:=fun hw=> ?_)|refine L7 (h1:=fun hw=> ?_) (h2:=fun hw=> ?_)|refine Ex.H7 ?_|refine Ex.H8 ?_|refine Ex.cond rfl (fun ht=> ?_) (fun ht=> ?_)|refine Ex.test (Rn.text ?_)|refine Ex.test (Rn.draw ?_)|refine ⟨_,rfl,fun ht=> ?_,fun ht=> ?_⟩|refine ⟨_,rfl,?_⟩|fail)
 all_goals first|(simp [*,b8,eN];done)|(simp_all [b8,eN];done)|(simp_all [b8,eN,p5,p4,j9,B8];done)|(simp_all [b8,eN,p5,p4,j9,B8]<;>omega)
theorem gZ (e:List aE):eN e=(eO e).isSome:=by
 unfold eN eO;cases h:(W8 1 e.length&&W8 e.length 64) with
 |false=>rfl
 |true =>
  simp only [if_true,Bool.true_and];simp only [b5] at h;have hl:=qV h.1;simp only [pK,List.drop_zero];cases h1:M1 16 e with
  |none =>
   simp only [Option.isSome_none,j9];simp
  |some x =>
   obtain ⟨a,r⟩:=x;obtain ⟨h2,_,_⟩:=S5 16 e a r h1;have h3:a.flat.length+r.length=e.length:=by rw [h2];simp
   have h4:=gK a;cases r with
   |nil=>simp [j9]
   |cons t r=>simp [j9] at *;omega
def YN (l:List aI):b6:= .d (z6 (fun x=>[z6 aE.enc x]) (l.map aI.flat))
theorem HU {e:List aE}{p:Nat}{a:aI}{l:List aI}(h:e.drop p=L8 (a::l)):e.drop (p+a.flat.length)=L8 l/\(e.take (p+a.flat.length)).drop p=a.flat:=by
 constructor
 ·rw [<- List.drop_drop,h,L8,List.drop_left]
 ·rw [List.drop_take,h,Nat.add_sub_cancel_left,L8,List.take_left]
set_option maxHeartbeats 2000000 in
theorem ak7 (t:aE)(l:List aI)(he:(t::L8 l).length<=1000)(hw:Uz l)(hd:kC l<=16):Pf A 168 [eH (t::L8 l)] (YN l):=by
 refine Pf.run [eH (t::L8 l),.any,.any,.any,.any] rfl rfl rfl rfl ?_;refine gr ?_;refine Ex.J0 (fun k T H=>∃ (p:Nat) (l1 l2:List aI) (v w:b6),T=[eH (t::L8 l),v,B3 1 (fun x=>[z6 aE.enc x]) (l1.map aI.flat),.d (num p),w]/\H=[]/\k=l2.length/\l=l1++l2/\p<=(t::L8 l).length/\(t::L8 l).drop p=L8 l2/\Uz l2/\kC l2<=16) (by rintro _ _ _ ⟨_,_,_,_,_,_,rfl,_⟩;rfl) ?_ (k:=l.length) ⟨1,[],l,_,_,rfl,rfl,rfl,rfl,by simp,rfl,hw,hd⟩;rintro k _ _ ⟨p,l1,l2,v,w,rfl,rfl,hk,hl,hp,hp2,MR,hd2⟩;have hlen:=tq l;have Zp:l1.length<=1000:=by
  have:=congrArg List.length hl;simp at this he;omega
 have DM:(L8 l2).length+p=(t::L8 l).length:=by rw [<- hp2];simp at hp ⊢;omega
 refine Ex.nT ?_;refine Ex.seq ?_;refine tb (C9 p (t::L8 l).length) (fun h1=> ?_) (fun h1=> ?_)
 ·have h2:=y9 h1
  cases l2 with
  |nil=>simp [L8] at DM h2;omega
  |cons a l2 =>
  have h3:=HU hp2;have h4:pK (t::L8 l) 16 p=((p+a.flat.length:Nat):Int):=by
   simp only [kC] at hd2;simp only [pK,hp2,L8];rw [W2 a 16 (L8 l2) MR.1 (by omega)];simp only [L8,E0] at DM;simp only;omega
  have h5:=VB (t::L8 l) he 16 p (by omega) (by omega);rw [h4] at h5;simp only [L8,E0] at DM
  repeat' (first|refine cl (h5) ?_|refine gx ?_|fail)
  refine ⟨l2.length,by simp at hk;omega,p+a.flat.length,l1++[a],l2,.any,.d (num (p+a.flat.length:Nat)),by rw [h3.2];simp [B3],rfl,rfl,by simp [hl],by omega,h3.1,MR.2,by simp only [kC] at hd2;omega⟩
 ·have h2:=y8 h1
  cases l2 with
  |cons a l2 =>
   have:=gK a;simp only [L8,E0] at DM;omega
  |nil =>
  refine gr ?_;refine ⟨_,rfl,?_⟩;simp at hl;subst hl;rfl
end Go.Proofs.YtkmclibmmlgogaaGreat


/- Texts D8 D8b (made short by a program) -/
import Derived.Test.YtkmclibmmlgogaaGreatD2
set_option linter.unusedVariables false
set_option linter.unusedSimpArgs false
open Bool renaming and_eq_true → b5, false_eq_true → b7, not_eq_false' → A9, not_eq_true' → j5
open List renaming drop_of_length_le → k9, length_append → E0, mem_cons → C6
namespace Go.Proofs.YtkmclibmmlgogaaGreat
open Go.y3 Go.y3.S
attribute [local irreducible] Rx Ry Rn Ex Pf
def Fc (op:Int)(k:Nat):Prop:=(op=3\/op=9\/op=13\/op=16)/\k=1\/op=18/\k=3\/4<=op/\op<=17/\op≠9/\op≠13/\op≠16/\k=2
theorem PN {t:aE}{k:Nat}(h:xR t=true)(hk:(lU t.op).toNat=k)(h1:o9 t.op 1=false)(h2:o9 t.op 2=false):Fc t.op k:=by
 simp only [xR,b5,j5] at h;have h3:=y8 h.1;simp only [lU,h1,h2,Bool.or_self,b7,if_false,Bool.or_eq_true,b5] at h3 hk;unfold Fc;split at h3
 ·rename_i h4
  rw [if_pos h4] at hk;simp [j9] at h4 hk;left;omega
 ·rename_i h4
  rw [if_neg h4] at hk;simp [j9] at h4 h1 h2;split at h3
  ·rename_i h5
   rw [if_pos h5] at hk;simp [j9] at h5 hk;right;left;omega
  ·rename_i h5
   rw [if_neg h5] at hk;simp [j9] at h5;split at h3
   ·rename_i h6
    rw [if_pos h6] at hk;simp [p4] at h6 hk;right;right;omega
   ·omega
set_option maxHeartbeats 16000000 in
theorem ak8 (op:Int)(t:List Int)(h:Fc op t.length):Pf A 169 [.d (num op),.d (ints t)] (.d (num (fN op t))):=by
 unfold Fc at h;refine Pf.run [.d (num op),.d (ints t),.any,.any,.any,.any,.any,.any,.any] rfl rfl rfl rfl ?_
 repeat' (first|refine gx ?_|refine fk (h1:=fun hw=> ?_) (h2:=fun hw=> ?_)|refine L7 (h1:=fun hw=> ?_) (h2:=fun hw=> ?_)|refine Ex.H7 ?_|refine Ex.H8 ?_|refine Ex.cond rfl (fun ht=> ?_) (fun ht=> ?_)|refine Ex.test (Rn.text ?_)|refine Ex.test (Rn.draw ?_)|refine ⟨_,rfl,fun ht=> ?_,fun ht=> ?_⟩|refine ⟨_,rfl,?_⟩|fail)
 all_goals first|(simp [*,b8,fN,num];done)|(simp_all [b8,fN,num];done)|(simp_all [b8,fN,num,p5,p4,j9,B8];done)|(simp_all [b8,fN,num,p5,p4,j9,B8]<;>omega)
theorem TF {α:Type} [Inhabited α] (l1:List α)(a:α)(l2:List α):nth (l1++a::l2) l1.length=a:=by
 rw [K0 (by simp)];simp
theorem xj {a:aI}:∀ {l:List aI},a ∈ l->a.flat.length<=(L8 l).length
 |b::l,h=>by
  simp only [L8,E0]
  rcases C6.1 h with rfl|h
  ·omega
  ·have:=xj h;omega
theorem Jg {a:aI}:∀ {l:List aI},Uz l->a ∈ l->a.wf
 |b::l,hw,h=>by
  rcases C6.1 h with rfl|h
  ·exact hw.1
  ·exact Jg hw.2 h
theorem JC {a:aI}:∀ {l:List aI},a ∈ l->a.dep<=kC l
 |b::l,h=>by
  simp only [kC]
  rcases C6.1 h with rfl|h
  ·omega
  ·have:=JC h;omega
set_option maxHeartbeats 4000000 in
theorem ak5 (ty:List Int):∀ (n:Nat) (a:aI),a.flat.length<=n->n<=1000->a.wf->a.dep<=16->Pf A 145 [eH a.flat,.d (ints ty)] (.tuple [.d (num (a.typ ty).1),.d (num (a.typ ty).2)]):=by
 intro n
 induction n with
 |zero=>intro a h;have:=gK a;omega
 |succ n ih =>
 rintro ⟨t,l⟩ hn hn2 hw hd;simp only [aI.flat] at hn ⊢;simp only [aI.dep] at hd;have hle:(t::L8 l).length<=1000:=by omega
 have hpos:0<(t::L8 l).length:=by simp
 have h0:nth (t::L8 l) 0=t:=U0 _ _;obtain ⟨hok,har,Xc⟩:=hw;have hll:=tq l;have hl3:l.length<=3:=by have:=nP t.op;omega
 refine Pf.run [eH (t::L8 l),.d (ints ty),.any,.any,.any,.any,.any,.any,.any,.any,.any] rfl rfl rfl rfl ?_;refine gr ?_;rw [h0];have aG8:o9 t.op 2=true->o9 t.op 1=false->0<=t.col:=fun h h' =>by
  simp only [xR,dn,h,h',if_true,b7,if_false,b5] at hok;exact qV hok.2.2
 have hl0:(o9 t.op 1||o9 t.op 2)=true->l=[]:=fun h=>by
  have:lU t.op=0:=by unfold lU;rw [h,if_pos rfl]
  rw [this] at har;cases l with
  |nil=>rfl
  |cons a l=>simp at har
 refine tb (o9 t.op 1) (fun h1=> ?_) (fun h1=> ?_)
 ·refine gr ?_
  refine ⟨_,rfl,?_⟩;rw [hl0 (by simp [h1])];simp [b8,aI.typ,gm,Al,h1,j9,num,b6.G4,U0]
 refine gr ?_;refine tb (o9 t.op 2) (fun h2=> ?_) (fun h2=> ?_)
 ·have hc:=aG8 h2 h1
  have hll:=hl0 (by simp [h2]);refine gr ?_;refine tB (W8 ty.length t.col) ?_ (fun h3=> ?_) (fun h3=> ?_)
  ·repeat' (first|refine gx ?_|refine fk (h1:=fun hw=> ?_) (h2:=fun hw=> ?_)|refine L7 (h1:=fun hw=> ?_) (h2:=fun hw=> ?_)|refine ⟨rfl,rfl,_,rfl,?_⟩|refine ⟨rfl,rfl⟩|fail)
   all_goals first|(simp [*,b8,U0];done)|(simp_all [b8,U0];done)|(simp_all [b8,U0,p5,p4,j9,B8];done)|(simp_all [b8,U0,p5,p4,j9,B8]<;>omega)
  ·refine gr ?_
   refine ⟨_,rfl,?_⟩;rw [hll];simp [b8,aI.typ,gm,Al,h1,h2,h3,j9,num,b6.G4]
  ·have h4:=AR h3
   refine gr ?_;rw [h0];refine gr ?_;refine ⟨_,rfl,?_⟩;rw [hll];simp [b8,aI.typ,gm,Al,h1,h2,h3,j9,num,b6.G4]
 have hfit:=PN hok har h1 h2
 repeat' (first|refine cl (ak7 t l hle Xc (by omega)) ?_|refine gx ?_|fail)
 refine Ex.J0 (fun k T H=>∃ (i:Nat) (l1 l2:List aI) (ts:List Int) (v2 v3 v7 v8 v9 v10:b6),T=[eH (t::L8 l),.d (ints ty),v2,v3,B3 1 (fun n=>[num n]) ts,YN l,.d (num i),v7,v8,v9,v10]/\H=[]/\i=l1.length/\k=l2.length/\l=l1++l2/\ts.length=l1.length/\(gm ty l).1=ts++(gm ty l2).1/\(gm ty l).2=(gm ty l2).2) (by rintro _ _ _ ⟨_,_,_,_,_,_,_,_,_,_,_,rfl,_⟩;rfl) ?_ (k:=l.length) ⟨0,[],l,[],_,_,_,_,_,_,rfl,rfl,rfl,rfl,rfl,rfl,rfl,rfl⟩;rintro k _ _ ⟨i,l1,l2,ts,v2,v3,v7,v8,v9,v10,rfl,rfl,Ac,hk,hl,hts,e1,e2⟩;have hlen:l.length=l1.length+l2.length:=by rw [hl];simp
 refine Ex.nT ?_;refine Ex.seq ?_;unfold YN;refine tb (C9 i l.length) (fun h3=> ?_) (fun h3=> ?_)
 ·have h4:=y9 h3
  cases l2 with
  |nil=>simp at hlen;omega
  |cons a l2 =>
  have hm:nth (l.map aI.flat) i=a.flat:=by
   have:=TF (l1.map aI.flat) a.flat (l2.map aI.flat);rw [hl,Ac];simpa using this
  have ha:a ∈ l:=by rw [hl];simp
  have hp:=ih a (by have:=xj ha;simp at hn;omega) (by omega) (Jg Xc ha) (by have:=JC ha;omega);have hlm:i<(l.map aI.flat).length:=by simp;omega
  refine gr ?_;rw [hm];simp only [gm] at e1 e2
  repeat' (first|refine cl (hp) ?_|refine gx ?_|fail)
  refine tb (!o9 (a.typ ty).2 0) (fun h5=> ?_) (fun h5=> ?_)
  ·simp only [j5] at h5
   simp only [h5,b7,if_false] at e1 e2;refine gr ?_;refine ⟨_,rfl,?_⟩;simp [b8,aI.typ,e2,h5,b6.G4,num]
  ·simp only [A9] at h5
   simp only [h5,if_true] at e1 e2;refine gr ?_;exact ⟨l2.length,by simp at hk;omega,i+1,l1++[a],l2,ts++[(a.typ ty).1],_,_,_,_,_,_,rfl,rfl,by simp [Ac],rfl,by simp [hl],by simp [hts],by simp [e1],e2⟩
 ·have h4:=y8 h3
  cases l2 with
  |cons a l2=>simp at hlen;omega
  |nil =>
  simp only [gm,List.append_nil] at e1 e2;refine gr ?_;rw [h0];have af7:Fc t.op ts.length:=by rw [hts];simpa [hl] using hfit
  repeat' (first|refine cl (ak8 t.op ts af7) ?_|refine gx ?_|fail)
  refine tb (o9 (fN t.op ts) 0) (fun h5=> ?_) (fun h5=> ?_)
  ·refine gr ?_
   refine ⟨_,rfl,?_⟩;simp [b8,aI.typ,e1,e2,h1,h2,h5,Al,b6.G4,num,j9]
  ·refine gr ?_
   refine ⟨_,rfl,?_⟩;simp [b8,aI.typ,e1,e2,h1,h2,h5,Al,b6.G4,num,j9]
def pair (p:Int×Int):b6:= .tuple [.d (num p.1),.d (num p.2)]
set_option maxHeartbeats 2000000 in
theorem Kc (e:List aE)(ty:List Int)(he:e.length<=1000)(ht:ty.length<=100000):Pf A 101 [eH e,.d (ints ty)] (pair (F8 e ty)):=by
 refine Pf.run [eH e,.d (ints ty),.any,.any,.any] rfl rfl rfl rfl ?_;refine gr ?_;refine tB (!eN e) ?_ (fun h1=> ?_) (fun h1=> ?_)
 ·repeat' (first|refine cl (ak4 e he) ?_|refine gx ?_|refine fk (h1:=fun hw=> ?_) (h2:=fun hw=> ?_)|refine L7 (h1:=fun hw=> ?_) (h2:=fun hw=> ?_)|refine ⟨rfl,rfl,_,rfl,?_⟩|refine ⟨rfl,rfl⟩|fail)
  all_goals exact cc
 ·refine gr ?_
  refine ⟨_,rfl,?_⟩;rw [gZ] at h1;cases h2:eO e with
  |none=>simp [F8,h2,b8,pair,num,b6.G4]
  |some a=>simp [h2] at h1
 rw [gZ] at h1;cases h2:eO e with
 |none=>simp [h2] at h1
 |some a =>
 have h3:e=a.flat/\a.wf/\a.dep<=16:=by
  unfold eO at h2;split at h2
  ·split at h2
   ·rename_i b h4
    obtain ⟨e1,e2,e3⟩:=S5 16 e b [] h4;cases h2;exact ⟨by simpa using e1,e2,e3⟩
   ·cases h2
  ·cases h2
 refine gr ?_;refine Ex.J0 (fun k T H=>∃ (i:Nat) (v w:b6),T=[eH e,.d (ints ty),v,w,.d (num i)]/\H=[]/\i+k=ty.length/\aU ty=aU (ty.drop i)) (by rintro _ _ _ ⟨_,_,_,_,rfl,_⟩;rfl) ?_ (k:=ty.length) ⟨0,_,_,rfl,rfl,by simp,by simp⟩;rintro k _ _ ⟨i,v,w,rfl,rfl,hk,hi⟩;refine Ex.nT ?_;refine Ex.seq ?_;refine tb (C9 i ty.length) (fun h4=> ?_) (fun h4=> ?_)
 ·have h5:=y9 h4
  rw [A2 (by omega)] at hi;refine gr ?_;refine tb (!o9 (nth ty i) 1&& !o9 (nth ty i) 2) (fun h6=> ?_) (fun h6=> ?_)
  ·refine gr ?_
   refine ⟨_,rfl,?_⟩;have h7:aU ty=false:=by
    rw [hi];simp only [b5,j5] at h6;simp [aU,h6]
   simp [F8,h2,h7,b8,pair,num,b6.G4]
  ·refine gr ?_
   refine ⟨k - 1,by omega,i+1,_,_,rfl,rfl,by omega,?_⟩;rw [hi];simp only [aU,List.all_cons];cases h7:o9 (nth ty i) 1<;>cases h8:o9 (nth ty i) 2<;>simp_all
 ·have h5:=y8 h4
  rw [k9 (by omega)] at hi;have h6:=ak5 ty e.length a (by rw [h3.1];omega) he h3.2.1 h3.2.2;rw [<- h3.1] at h6
  repeat' (first|refine cl (h6) ?_|refine gx ?_|fail)
  refine ⟨_,rfl,?_⟩;have hg:aU ty=true:=by rw [hi];rfl
  simp [F8,h2,hg,b8,pair,b6.G4]
end Go.Proofs.YtkmclibmmlgogaaGreat


/- Texts D8 D8b (made short by a program) -/
import Derived.Test.YtkmclibmmlgogaaGreatD2
set_option linter.unusedVariables false
set_option linter.unusedSimpArgs false
open Bool renaming and_eq_true → b5, false_eq_true → b7, not_eq_false' → B4, not_eq_true' → j9
open List renaming drop_of_length_le → m7, length_append → C1, mem_cons → B8
namespace Go.Proofs.YtkmclibmmlgogaaGreat
open Go.u7 Go.u7.S
attribute [local irreducible] Rx Ry Rn Ex Pf
def Dx (op:Int)(k:Nat):Prop:=(op=3\/op=9\/op=13\/op=16)/\k=1\/op=18/\k=3\/4<=op/\op<=17/\op≠9/\op≠13/\op≠16/\k=2
theorem MX {t:Z2}{k:Nat}(h:vS t=true)(hk:(kJ t.op).toNat=k)(h1:o8 t.op 1=false)(h2:o8 t.op 2=false):Dx t.op k:=by
 simp only [vS,b5,j9] at h;have h3:=z8 h.1;simp only [kJ,h1,h2,Bool.or_self,b7,if_false,Bool.or_eq_true,b5] at h3 hk;unfold Dx;split at h3
 ·rename_i h4
  rw [if_pos h4] at hk;simp [j5] at h4 hk;left;omega
 ·rename_i h4
  rw [if_neg h4] at hk;simp [j5] at h4 h1 h2;split at h3
  ·rename_i h5
   rw [if_pos h5] at hk;simp [j5] at h5 hk;right;left;omega
  ·rename_i h5
   rw [if_neg h5] at hk;simp [j5] at h5;split at h3
   ·rename_i h6
    rw [if_pos h6] at hk;simp [o5] at h6 hk;right;right;omega
   ·omega
set_option maxHeartbeats 16000000 in
theorem YB (op:Int)(t:List Int)(h:Dx op t.length):Pf A 169 [.d (num op),.d (ints t)] (.d (num (eZ op t))):=by
 unfold Dx at h;refine Pf.run [.d (num op),.d (ints t),.any,.any,.any,.any,.any,.any,.any] rfl rfl rfl rfl ?_
 repeat' (first|refine gx ?_|refine fk (h1:=fun hw=> ?_) (h2:=fun hw=> ?_)|refine M8 (h1:=fun hw=> ?_) (h2:=fun hw=> ?_)|refine Ex.J6 ?_|refine Ex.J8 ?_|refine Ex.cond rfl (fun ht=> ?_) (fun ht=> ?_)|refine Ex.test (Rn.text ?_)|refine Ex.test (Rn.draw ?_)|refine ⟨_,rfl,fun ht=> ?_,fun ht=> ?_⟩|refine ⟨_,rfl,?_⟩|fail)
 all_goals first|(simp [*,b9,eZ,num];done)|(simp_all [b9,eZ,num];done)|(simp_all [b9,eZ,num,o9,o5,j5,A3];done)|(simp_all [b9,eZ,num,o9,o5,j5,A3]<;>omega)
theorem QB {α:Type} [Inhabited α] (l1:List α)(a:α)(l2:List α):nth (l1++a::l2) l1.length=a:=by
 rw [N6 (by simp)];simp
theorem vp {a:Z7}:∀ {l:List Z7},a ∈ l->a.flat.length<=(K1 l).length
 |b::l,h=>by
  simp only [K1,C1]
  rcases B8.1 h with rfl|h
  ·omega
  ·have:=vp h;omega
theorem Hs {a:Z7}:∀ {l:List Z7},RC l->a ∈ l->a.wf
 |b::l,hw,h=>by
  rcases B8.1 h with rfl|h
  ·exact hw.1
  ·exact Hs hw.2 h
theorem HL {a:Z7}:∀ {l:List Z7},a ∈ l->a.dep<=jF l
 |b::l,h=>by
  simp only [jF]
  rcases B8.1 h with rfl|h
  ·omega
  ·have:=HL h;omega
set_option maxHeartbeats 4000000 in
theorem Yw (ty:List Int):∀ (n:Nat) (a:Z7),a.flat.length<=n->n<=1000->a.wf->a.dep<=16->Pf A 145 [ee a.flat,.d (ints ty)] (.tuple [.d (num (a.typ ty).1),.d (num (a.typ ty).2)]):=by
 intro n
 induction n with
 |zero=>intro a h;have:=fT a;omega
 |succ n ih =>
 rintro ⟨t,l⟩ hn hn2 hw hd;simp only [Z7.flat] at hn ⊢;simp only [Z7.dep] at hd;have hle:(t::K1 l).length<=1000:=by omega
 have hpos:0<(t::K1 l).length:=by simp
 have h0:nth (t::K1 l) 0=t:=S7 _ _;obtain ⟨hok,Xj,TV⟩:=hw;have XE:=rH l;have hl3:l.length<=3:=by have:=mM t.op;omega
 refine Pf.run [ee (t::K1 l),.d (ints ty),.any,.any,.any,.any,.any,.any,.any,.any,.any] rfl rfl rfl rfl ?_;refine gr ?_;rw [h0];have am0:o8 t.op 2=true->o8 t.op 1=false->0<=t.col:=fun h h' =>by
  simp only [vS,cM,h,h',if_true,b7,if_false,b5] at hok;exact pO hok.2.2
 have hl0:(o8 t.op 1||o8 t.op 2)=true->l=[]:=fun h=>by
  have:kJ t.op=0:=by unfold kJ;rw [h,if_pos rfl]
  rw [this] at Xj;cases l with
  |nil=>rfl
  |cons a l=>simp at Xj
 refine tb (o8 t.op 1) (fun h1=> ?_) (fun h1=> ?_)
 ·refine gr ?_
  refine ⟨_,rfl,?_⟩;rw [hl0 (by simp [h1])];simp [b9,Z7.typ,fA,yu,h1,j5,num,b6.F2,S7]
 refine gr ?_;refine tb (o8 t.op 2) (fun h2=> ?_) (fun h2=> ?_)
 ·have hc:=am0 h2 h1
  have XE:=hl0 (by simp [h2]);refine gr ?_;refine tB (X4 ty.length t.col) ?_ (fun h3=> ?_) (fun h3=> ?_)
  ·repeat' (first|refine gx ?_|refine fk (h1:=fun hw=> ?_) (h2:=fun hw=> ?_)|refine M8 (h1:=fun hw=> ?_) (h2:=fun hw=> ?_)|refine ⟨rfl,rfl,_,rfl,?_⟩|refine ⟨rfl,rfl⟩|fail)
   all_goals first|(simp [*,b9,S7];done)|(simp_all [b9,S7];done)|(simp_all [b9,S7,o9,o5,j5,A3];done)|(simp_all [b9,S7,o9,o5,j5,A3]<;>omega)
  ·refine gr ?_
   refine ⟨_,rfl,?_⟩;rw [XE];simp [b9,Z7.typ,fA,yu,h1,h2,h3,j5,num,b6.F2]
  ·have h4:=zd h3
   refine gr ?_;rw [h0];refine gr ?_;refine ⟨_,rfl,?_⟩;rw [XE];simp [b9,Z7.typ,fA,yu,h1,h2,h3,j5,num,b6.F2]
 have hfit:=MX hok Xj h1 h2
 repeat' (first|refine cl (YA t l hle TV (by omega)) ?_|refine gx ?_|fail)
 refine Ex.I7 (fun k T H=>∃ (i:Nat) (l1 l2:List Z7) (ts:List Int) (v2 v3 v7 v8 v9 v10:b6),T=[ee (t::K1 l),.d (ints ty),v2,v3,A5 1 (fun n=>[num n]) ts,Vf l,.d (num i),v7,v8,v9,v10]/\H=[]/\i=l1.length/\k=l2.length/\l=l1++l2/\ts.length=l1.length/\(fA ty l).1=ts++(fA ty l2).1/\(fA ty l).2=(fA ty l2).2) (by rintro _ _ _ ⟨_,_,_,_,_,_,_,_,_,_,_,rfl,_⟩;rfl) ?_ (k:=l.length) ⟨0,[],l,[],_,_,_,_,_,_,rfl,rfl,rfl,rfl,rfl,rfl,rfl,rfl⟩;rintro k _ _ ⟨i,l1,l2,ts,v2,v3,v7,v8,v9,v10,rfl,rfl,yh,hk,hl,hts,e1,e2⟩;have hlen:l.length=l1.length+l2.length:=by rw [hl];simp
 refine Ex.nT ?_;refine Ex.seq ?_;unfold Vf;refine tb (C2 i l.length) (fun h3=> ?_) (fun h3=> ?_)
 ·have h4:=z6 h3
  cases l2 with
  |nil=>simp at hlen;omega
  |cons a l2 =>
  have hm:nth (l.map Z7.flat) i=a.flat:=by
   have:=QB (l1.map Z7.flat) a.flat (l2.map Z7.flat);rw [hl,yh];simpa using this
  have ha:a ∈ l:=by rw [hl];simp
  have hp:=ih a (by have:=vp ha;simp at hn;omega) (by omega) (Hs TV ha) (by have:=HL ha;omega);have ZY:i<(l.map Z7.flat).length:=by simp;omega
  refine gr ?_;rw [hm];simp only [fA] at e1 e2
  repeat' (first|refine cl (hp) ?_|refine gx ?_|fail)
  refine tb (!o8 (a.typ ty).2 0) (fun h5=> ?_) (fun h5=> ?_)
  ·simp only [j9] at h5
   simp only [h5,b7,if_false] at e1 e2;refine gr ?_;refine ⟨_,rfl,?_⟩;simp [b9,Z7.typ,e2,h5,b6.F2,num]
  ·simp only [B4] at h5
   simp only [h5,if_true] at e1 e2;refine gr ?_;exact ⟨l2.length,by simp at hk;omega,i+1,l1++[a],l2,ts++[(a.typ ty).1],_,_,_,_,_,_,rfl,rfl,by simp [yh],rfl,by simp [hl],by simp [hts],by simp [e1],e2⟩
 ·have h4:=z8 h3
  cases l2 with
  |cons a l2=>simp at hlen;omega
  |nil =>
  simp only [fA,List.append_nil] at e1 e2;refine gr ?_;rw [h0];have Xt:Dx t.op ts.length:=by rw [hts];simpa [hl] using hfit
  repeat' (first|refine cl (YB t.op ts Xt) ?_|refine gx ?_|fail)
  refine tb (o8 (eZ t.op ts) 0) (fun h5=> ?_) (fun h5=> ?_)
  ·refine gr ?_
   refine ⟨_,rfl,?_⟩;simp [b9,Z7.typ,e1,e2,h1,h2,h5,yu,b6.F2,num,j5]
  ·refine gr ?_
   refine ⟨_,rfl,?_⟩;simp [b9,Z7.typ,e1,e2,h1,h2,h5,yu,b6.F2,num,j5]
def pair (p:Int×Int):b6:= .tuple [.d (num p.1),.d (num p.2)]
set_option maxHeartbeats 2000000 in
theorem Iq (e:List Z2)(ty:List Int)(he:e.length<=1000)(ht:ty.length<=100000):Pf A 101 [ee e,.d (ints ty)] (pair (E4 e ty)):=by
 refine Pf.run [ee e,.d (ints ty),.any,.any,.any] rfl rfl rfl rfl ?_;refine gr ?_;refine tB (!ek e) ?_ (fun h1=> ?_) (fun h1=> ?_)
 ·repeat' (first|refine cl (Yv e he) ?_|refine gx ?_|refine fk (h1:=fun hw=> ?_) (h2:=fun hw=> ?_)|refine M8 (h1:=fun hw=> ?_) (h2:=fun hw=> ?_)|refine ⟨rfl,rfl,_,rfl,?_⟩|refine ⟨rfl,rfl⟩|fail)
  all_goals exact cc
 ·refine gr ?_
  refine ⟨_,rfl,?_⟩;rw [gl] at h1;cases h2:eo e with
  |none=>simp [E4,h2,b9,pair,num,b6.F2]
  |some a=>simp [h2] at h1
 rw [gl] at h1;cases h2:eo e with
 |none=>simp [h2] at h1
 |some a =>
 have h3:e=a.flat/\a.wf/\a.dep<=16:=by
  unfold eo at h2;split at h2
  ·split at h2
   ·rename_i b h4
    obtain ⟨e1,e2,e3⟩:=Q5 16 e b [] h4;cases h2;exact ⟨by simpa using e1,e2,e3⟩
   ·cases h2
  ·cases h2
 refine gr ?_;refine Ex.I7 (fun k T H=>∃ (i:Nat) (v w:b6),T=[ee e,.d (ints ty),v,w,.d (num i)]/\H=[]/\i+k=ty.length/\aC ty=aC (ty.drop i)) (by rintro _ _ _ ⟨_,_,_,_,rfl,_⟩;rfl) ?_ (k:=ty.length) ⟨0,_,_,rfl,rfl,by simp,by simp⟩;rintro k _ _ ⟨i,v,w,rfl,rfl,hk,hi⟩;refine Ex.nT ?_;refine Ex.seq ?_;refine tb (C2 i ty.length) (fun h4=> ?_) (fun h4=> ?_)
 ·have h5:=z6 h4
  rw [A4 (by omega)] at hi;refine gr ?_;refine tb (!o8 (nth ty i) 1&& !o8 (nth ty i) 2) (fun h6=> ?_) (fun h6=> ?_)
  ·refine gr ?_
   refine ⟨_,rfl,?_⟩;have h7:aC ty=false:=by
    rw [hi];simp only [b5,j9] at h6;simp [aC,h6]
   simp [E4,h2,h7,b9,pair,num,b6.F2]
  ·refine gr ?_
   refine ⟨k - 1,by omega,i+1,_,_,rfl,rfl,by omega,?_⟩;rw [hi];simp only [aC,List.all_cons];cases h7:o8 (nth ty i) 1<;>cases h8:o8 (nth ty i) 2<;>simp_all
 ·have h5:=z8 h4
  rw [m7 (by omega)] at hi;have h6:=Yw ty e.length a (by rw [h3.1];omega) he h3.2.1 h3.2.2;rw [<- h3.1] at h6
  repeat' (first|refine cl (h6) ?_|refine gx ?_|fail)
  refine ⟨_,rfl,?_⟩;have hg:aC ty=true:=by rw [hi];rfl
  simp [E4,h2,hg,b9,pair,b6.F2]
end Go.Proofs.YtkmclibmmlgogaaGreat


/- Texts D8 D8b (made short by a program) -/
import Derived.Test.YtkmclibmmlgogaaGreatD2
set_option linter.unusedVariables false
set_option linter.unusedSimpArgs false
open Bool renaming and_eq_true → b5, false_eq_true → b7, not_eq_false' → A7, not_eq_true' → j5
open List renaming drop_of_length_le → m6, length_append → C1, mem_cons → x9
namespace Go.Proofs.YtkmclibmmlgogaaGreat
open Go.z7 Go.z7.S
attribute [local irreducible] Rx Ry Rn Ex Pf
def Ea (op:Int)(k:Nat):Prop:=(op=3\/op=9\/op=13\/op=16)/\k=1\/op=18/\k=3\/4<=op/\op<=17/\op≠9/\op≠13/\op≠16/\k=2
theorem ND {t:aG}{k:Nat}(h:wR t=true)(hk:(lE t.op).toNat=k)(h1:o9 t.op 1=false)(h2:o9 t.op 2=false):Ea t.op k:=by
 simp only [wR,b5,j5] at h;have h3:=z8 h.1;simp only [lE,h1,h2,Bool.or_self,b7,if_false,Bool.or_eq_true,b5] at h3 hk;unfold Ea;split at h3
 ·rename_i h4
  rw [if_pos h4] at hk;simp [j9] at h4 hk;left;omega
 ·rename_i h4
  rw [if_neg h4] at hk;simp [j9] at h4 h1 h2;split at h3
  ·rename_i h5
   rw [if_pos h5] at hk;simp [j9] at h5 hk;right;left;omega
  ·rename_i h5
   rw [if_neg h5] at hk;simp [j9] at h5;split at h3
   ·rename_i h6
    rw [if_pos h6] at hk;simp [p5] at h6 hk;right;right;omega
   ·omega
set_option maxHeartbeats 16000000 in
theorem ZM (op:Int)(t:List Int)(h:Ea op t.length):Pf A 169 [.d (num op),.d (ints t)] (.d (num (fD op t))):=by
 unfold Ea at h;refine Pf.run [.d (num op),.d (ints t),.any,.any,.any,.any,.any,.any,.any] rfl rfl rfl rfl ?_
 repeat' (first|refine gx ?_|refine fk (h1:=fun hw=> ?_) (h2:=fun hw=> ?_)|refine L3 (h1:=fun hw=> ?_) (h2:=fun hw=> ?_)|refine Ex.I4 ?_|refine Ex.I6 ?_|refine Ex.cond rfl (fun ht=> ?_) (fun ht=> ?_)|refine Ex.test (Rn.text ?_)|refine Ex.test (Rn.draw ?_)|refine ⟨_,rfl,fun ht=> ?_,fun ht=> ?_⟩|refine ⟨_,rfl,?_⟩|fail)
 all_goals first|(simp [*,b9,fD,num];done)|(simp_all [b9,fD,num];done)|(simp_all [b9,fD,num,p8,p5,j9,B7];done)|(simp_all [b9,fD,num,p8,p5,j9,B7]<;>omega)
theorem Rs {α:Type} [Inhabited α] (l1:List α)(a:α)(l2:List α):nth (l1++a::l2) l1.length=a:=by
 rw [K0 (by simp)];simp
theorem we {a:aD}:∀ {l:List aD},a ∈ l->a.flat.length<=(L0 l).length
 |b::l,h=>by
  simp only [L0,C1]
  rcases x9.1 h with rfl|h
  ·omega
  ·have:=we h;omega
theorem HT {a:aD}:∀ {l:List aD},Sz l->a ∈ l->a.wf
 |b::l,hw,h=>by
  rcases x9.1 h with rfl|h
  ·exact hw.1
  ·exact HT hw.2 h
theorem Ir {a:aD}:∀ {l:List aD},a ∈ l->a.dep<=jZ l
 |b::l,h=>by
  simp only [jZ]
  rcases x9.1 h with rfl|h
  ·omega
  ·have:=Ir h;omega
set_option maxHeartbeats 4000000 in
theorem ZH (ty:List Int):∀ (n:Nat) (a:aD),a.flat.length<=n->n<=1000->a.wf->a.dep<=16->Pf A 145 [eA a.flat,.d (ints ty)] (.tuple [.d (num (a.typ ty).1),.d (num (a.typ ty).2)]):=by
 intro n
 induction n with
 |zero=>intro a h;have:=gn a;omega
 |succ n ih =>
 rintro ⟨t,l⟩ hn hn2 hw hd;simp only [aD.flat] at hn ⊢;simp only [aD.dep] at hd;have hle:(t::L0 l).length<=1000:=by omega
 have hpos:0<(t::L0 l).length:=by simp
 have h0:nth (t::L0 l) 0=t:=T9 _ _;obtain ⟨hok,Yz,Vc⟩:=hw;have YU:=sG l;have hl3:l.length<=3:=by have:=nr t.op;omega
 refine Pf.run [eA (t::L0 l),.d (ints ty),.any,.any,.any,.any,.any,.any,.any,.any,.any] rfl rfl rfl rfl ?_;refine gr ?_;rw [h0];have at8:o9 t.op 2=true->o9 t.op 1=false->0<=t.col:=fun h h' =>by
  simp only [wR,de,h,h',if_true,b7,if_false,b5] at hok;exact qD hok.2.2
 have hl0:(o9 t.op 1||o9 t.op 2)=true->l=[]:=fun h=>by
  have:lE t.op=0:=by unfold lE;rw [h,if_pos rfl]
  rw [this] at Yz;cases l with
  |nil=>rfl
  |cons a l=>simp at Yz
 refine tb (o9 t.op 1) (fun h1=> ?_) (fun h1=> ?_)
 ·refine gr ?_
  refine ⟨_,rfl,?_⟩;rw [hl0 (by simp [h1])];simp [b9,aD.typ,fP,zg,h1,j9,num,b6.G9,T9]
 refine gr ?_;refine tb (o9 t.op 2) (fun h2=> ?_) (fun h2=> ?_)
 ·have hc:=at8 h2 h1
  have YU:=hl0 (by simp [h2]);refine gr ?_;refine tB (W6 ty.length t.col) ?_ (fun h3=> ?_) (fun h3=> ?_)
  ·repeat' (first|refine gx ?_|refine fk (h1:=fun hw=> ?_) (h2:=fun hw=> ?_)|refine L3 (h1:=fun hw=> ?_) (h2:=fun hw=> ?_)|refine ⟨rfl,rfl,_,rfl,?_⟩|refine ⟨rfl,rfl⟩|fail)
   all_goals first|(simp [*,b9,T9];done)|(simp_all [b9,T9];done)|(simp_all [b9,T9,p8,p5,j9,B7];done)|(simp_all [b9,T9,p8,p5,j9,B7]<;>omega)
  ·refine gr ?_
   refine ⟨_,rfl,?_⟩;rw [YU];simp [b9,aD.typ,fP,zg,h1,h2,h3,j9,num,b6.G9]
  ·have h4:=zS h3
   refine gr ?_;rw [h0];refine gr ?_;refine ⟨_,rfl,?_⟩;rw [YU];simp [b9,aD.typ,fP,zg,h1,h2,h3,j9,num,b6.G9]
 have hfit:=ND hok Yz h1 h2
 repeat' (first|refine cl (ZL t l hle Vc (by omega)) ?_|refine gx ?_|fail)
 refine Ex.J1 (fun k T H=>∃ (i:Nat) (l1 l2:List aD) (ts:List Int) (v2 v3 v7 v8 v9 v10:b6),T=[eA (t::L0 l),.d (ints ty),v2,v3,B4 1 (fun n=>[num n]) ts,Ws l,.d (num i),v7,v8,v9,v10]/\H=[]/\i=l1.length/\k=l2.length/\l=l1++l2/\ts.length=l1.length/\(fP ty l).1=ts++(fP ty l2).1/\(fP ty l).2=(fP ty l2).2) (by rintro _ _ _ ⟨_,_,_,_,_,_,_,_,_,_,_,rfl,_⟩;rfl) ?_ (k:=l.length) ⟨0,[],l,[],_,_,_,_,_,_,rfl,rfl,rfl,rfl,rfl,rfl,rfl,rfl⟩;rintro k _ _ ⟨i,l1,l2,ts,v2,v3,v7,v8,v9,v10,rfl,rfl,uB,hk,hl,hts,e1,e2⟩;have hlen:l.length=l1.length+l2.length:=by rw [hl];simp
 refine Ex.nT ?_;refine Ex.seq ?_;unfold Ws;refine tb (C7 i l.length) (fun h3=> ?_) (fun h3=> ?_)
 ·have h4:=A4 h3
  cases l2 with
  |nil=>simp at hlen;omega
  |cons a l2 =>
  have hm:nth (l.map aD.flat) i=a.flat:=by
   have:=Rs (l1.map aD.flat) a.flat (l2.map aD.flat);rw [hl,uB];simpa using this
  have ha:a ∈ l:=by rw [hl];simp
  have hp:=ih a (by have:=we ha;simp at hn;omega) (by omega) (HT Vc ha) (by have:=Ir ha;omega);have hlm:i<(l.map aD.flat).length:=by simp;omega
  refine gr ?_;rw [hm];simp only [fP] at e1 e2
  repeat' (first|refine cl (hp) ?_|refine gx ?_|fail)
  refine tb (!o9 (a.typ ty).2 0) (fun h5=> ?_) (fun h5=> ?_)
  ·simp only [j5] at h5
   simp only [h5,b7,if_false] at e1 e2;refine gr ?_;refine ⟨_,rfl,?_⟩;simp [b9,aD.typ,e2,h5,b6.G9,num]
  ·simp only [A7] at h5
   simp only [h5,if_true] at e1 e2;refine gr ?_;exact ⟨l2.length,by simp at hk;omega,i+1,l1++[a],l2,ts++[(a.typ ty).1],_,_,_,_,_,_,rfl,rfl,by simp [uB],rfl,by simp [hl],by simp [hts],by simp [e1],e2⟩
 ·have h4:=z8 h3
  cases l2 with
  |cons a l2=>simp at hlen;omega
  |nil =>
  simp only [fP,List.append_nil] at e1 e2;refine gr ?_;rw [h0];have YJ:Ea t.op ts.length:=by rw [hts];simpa [hl] using hfit
  repeat' (first|refine cl (ZM t.op ts YJ) ?_|refine gx ?_|fail)
  refine tb (o9 (fD t.op ts) 0) (fun h5=> ?_) (fun h5=> ?_)
  ·refine gr ?_
   refine ⟨_,rfl,?_⟩;simp [b9,aD.typ,e1,e2,h1,h2,h5,zg,b6.G9,num,j9]
  ·refine gr ?_
   refine ⟨_,rfl,?_⟩;simp [b9,aD.typ,e1,e2,h1,h2,h5,zg,b6.G9,num,j9]
def pair (p:Int×Int):b6:= .tuple [.d (num p.1),.d (num p.2)]
set_option maxHeartbeats 2000000 in
theorem IU (e:List aG)(ty:List Int)(he:e.length<=1000)(ht:ty.length<=100000):Pf A 101 [eA e,.d (ints ty)] (pair (F7 e ty)):=by
 refine Pf.run [eA e,.d (ints ty),.any,.any,.any] rfl rfl rfl rfl ?_;refine gr ?_;refine tB (!eC e) ?_ (fun h1=> ?_) (fun h1=> ?_)
 ·repeat' (first|refine cl (ZG e he) ?_|refine gx ?_|refine fk (h1:=fun hw=> ?_) (h2:=fun hw=> ?_)|refine L3 (h1:=fun hw=> ?_) (h2:=fun hw=> ?_)|refine ⟨rfl,rfl,_,rfl,?_⟩|refine ⟨rfl,rfl⟩|fail)
  all_goals exact cc
 ·refine gr ?_
  refine ⟨_,rfl,?_⟩;rw [gF] at h1;cases h2:eD e with
  |none=>simp [F7,h2,b9,pair,num,b6.G9]
  |some a=>simp [h2] at h1
 rw [gF] at h1;cases h2:eD e with
 |none=>simp [h2] at h1
 |some a =>
 have h3:e=a.flat/\a.wf/\a.dep<=16:=by
  unfold eD at h2;split at h2
  ·split at h2
   ·rename_i b h4
    obtain ⟨e1,e2,e3⟩:=R9 16 e b [] h4;cases h2;exact ⟨by simpa using e1,e2,e3⟩
   ·cases h2
  ·cases h2
 refine gr ?_;refine Ex.J1 (fun k T H=>∃ (i:Nat) (v w:b6),T=[eA e,.d (ints ty),v,w,.d (num i)]/\H=[]/\i+k=ty.length/\aQ ty=aQ (ty.drop i)) (by rintro _ _ _ ⟨_,_,_,_,rfl,_⟩;rfl) ?_ (k:=ty.length) ⟨0,_,_,rfl,rfl,by simp,by simp⟩;rintro k _ _ ⟨i,v,w,rfl,rfl,hk,hi⟩;refine Ex.nT ?_;refine Ex.seq ?_;refine tb (C7 i ty.length) (fun h4=> ?_) (fun h4=> ?_)
 ·have h5:=A4 h4
  rw [A8 (by omega)] at hi;refine gr ?_;refine tb (!o9 (nth ty i) 1&& !o9 (nth ty i) 2) (fun h6=> ?_) (fun h6=> ?_)
  ·refine gr ?_
   refine ⟨_,rfl,?_⟩;have h7:aQ ty=false:=by
    rw [hi];simp only [b5,j5] at h6;simp [aQ,h6]
   simp [F7,h2,h7,b9,pair,num,b6.G9]
  ·refine gr ?_
   refine ⟨k - 1,by omega,i+1,_,_,rfl,rfl,by omega,?_⟩;rw [hi];simp only [aQ,List.all_cons];cases h7:o9 (nth ty i) 1<;>cases h8:o9 (nth ty i) 2<;>simp_all
 ·have h5:=z8 h4
  rw [m6 (by omega)] at hi;have h6:=ZH ty e.length a (by rw [h3.1];omega) he h3.2.1 h3.2.2;rw [<- h3.1] at h6
  repeat' (first|refine cl (h6) ?_|refine gx ?_|fail)
  refine ⟨_,rfl,?_⟩;have hg:aQ ty=true:=by rw [hi];rfl
  simp [F7,h2,hg,b9,pair,b6.G9]
end Go.Proofs.YtkmclibmmlgogaaGreat


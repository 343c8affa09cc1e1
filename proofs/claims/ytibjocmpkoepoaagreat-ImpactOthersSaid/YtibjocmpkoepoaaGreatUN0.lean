import Derived.Test.YtibjocmpkoepoaaGreatUX0
set_option linter.all false
open Bool renaming false_eq_true→j6,true→W,false→F
open List renaming append_assoc→G8,cons_append→x7,drop_of_length_le→n5,getElem_of_mem→E9,length_append→k8,length_cons→o8,length_map→A1,length_nil→A4,length_singleton→D9,length_take→K0,map_cons→E8,mem_append→A5,mem_singleton→L1,nil_append→y6,replicate→c8,replicate_succ→L3,set_cons_succ→o4,set_cons_zero→o5,take_length→I8,take_of_length_le→s4,length→O
open Nat renaming add_assoc→K1,le_of_ble_eq_true→j4,le_refl→j9,mul_le_mul_right→E1,zero_le→x3
open Option renaming some→J,none→K
namespace Go.Proofs.YtibjocmpkoepoaaGreat
open Go.y9 Go.y9.S
attribute [local irreducible] Rx Ry Rn Ex Pf
def K6 (p:D7):List y9.Data:=[Z p.1,Z p.2]
def N7 (l:List D7):y9.Data:=s7 K6 l
def OW (s:Int):Nat->List D7
 |0=>[]
 |n+1=>OW s n++[(s,(n:Int))]
theorem AK (s:Int):∀n,O (OW s n)=n
 |0=>rfl
 |n+1=>by simp [OW,AK s n]
def QK (c:o9)(hs:E7 c)(name:G4)(h:X9 c (O9 c name)=W)(hl:O (O7 c (O9 c name).toNat)<=2000):Pf A 159 [cat c,.d (.str name)] (.d (N7 (OW (O9 c name) (O (O7 c (O9 c name).toNat))))):=by
 have p1:=OV c hs name;have p2:=LX c hs _ h;obtain ⟨s,hs0⟩:∃s,O9 c name=s:=⟨_,rfl⟩;rw [hs0] at p1 p2 hl ⊢;obtain ⟨ty,nU⟩:∃ty,O7 c s.toNat=ty:=⟨_,rfl⟩;rw [nU] at p2 hl ⊢;refine Pf.go 7 ?_;refine gc (And.intro p1 p2) ?_;refine Ex.J4 (λk T H=>∃(i:Nat) (acc:List D7),T=[.any,.any,.any,.any,.d (Z s),A8 2 K6 acc,.any,.d (Z (O ty)),.d (Z i)]/\H=[.cells (c.enc.map .d)]/\i+k=O ty/\acc=OW s i) ?_ (k:=O ty) ⟨0,[],rfl,rfl,U,rfl⟩;rintro k _ _ ⟨i,acc,rfl,rfl,hk,hacc⟩;have qG:O acc<=10000:=by rw [hacc,AK];omega
 refine Ex.seq ?_;refine tb (D5 i (O ty)) (λh2=>?_) (λh2=>?_)
 .have h3:=A7 h2
  repeat' (first|refine qm (cs:=(K6 (s,(i:Int))).map .d) ?_|refine oN (enc:=K6) (s,(i:Int)) ?_|refine Ew (ys:=[(s,(i:Int))]) (h2:=?_)|refine gx ?_|fail)
  exact kk ⟨i+1,acc++[(s,(i:Int))],rfl,rfl,V,by rw [hacc];rfl⟩
 .have h3:=B8 h2
  have h4:i=O ty:=V
  subst h4;refine gr ?_;exact ⟨_,rfl,by rw [hacc];simp [j5,N7,s7]⟩
def gn (e:List R2):Nat->List Int
 |0=>[]
 |i+1=>gn e i++(if x4 (Y e i).op 2 then [(Y e i).col] else [])
theorem qA (e:List R2):∀i,O (gn e i)<=i
 |0=>j9 _
 |i+1=>by
  have:=qA e i;simp only [gn,k8];split<;>simp<;>omega
def NI {e:List R2}{i:Nat}(h:x4 (Y e i).op 2=W):gn e (i+1)=gn e i++[(Y e i).col]:=by simp only [gn,h,if_true]
def NH {e:List R2}{i:Nat}(h:x4 (Y e i).op 2=F):gn e (i+1)=gn e i:=by simp [gn,h]
theorem yX {e:List R2}{x:Int}:∀i,i<=O e->x∈gn e i->∃t∈e,x4 t.op 2=W/\t.col=x
 |0,_,h=>by cases h
 |i+1,hi,h=>by
  simp only [gn,A5] at h
  rcases h with h|h
  .exact yX i V h
  .split at h
   next h1=>
    simp only [L1] at h;exact ⟨_,C5 V,h1,h.symm⟩
   .cases h
def gh (e:List R2):List Int:=U7 (W9 (gn e (O e)))
def IG {e:List R2}{x:Int}(h:x∈gh e):∃t∈e,x4 t.op 2=W/\t.col=x:=by
 rw [gh,oO,qM] at h;exact yX _ (j9 _) h
def yg (e:List R2):O (gh e)<=O e:=by
 have h1:=oy (W9 (gn e (O e)));have h2:=qA e (O e);rw [lV] at h1;unfold gh;omega
def HI (xs:List Int):k9:=[.cells (xs.map iv)]
def lI:F9:=⟨0,0,1,1⟩
def JN (xs:List Int):D3 (HI xs)=0:=by
 simp only [HI,D3,s6.F4,zS];rfl
def Nt (xs:List Int):T7 (HI xs) 0=W:=by
 simp only [HI,T7,s6.F4,zS];rfl
section
variable {b:Nat} {j8 ops:List x9} {T:List c7} {n:Nat} {rl:List c7} {l6:List y9.Touch} {Q:List c7->k9->List c7->Prop}
def c0I {xs ys:List Int}{f:FuncId}{os:List A3}{u:List Nat}{v:c7}{args:List c7}(hc:Pm A f args (HI xs) lI v (HI ys))(h2:Ry A N6 b F j8 ops T (HI ys) (n+1) (v::rl) (.below 1::l6) Q)
  (ha:os.map (rq T n rl)=args:=by rfl) (hb:A2 args=1:=by rfl) (ee:A.prom f=F:=by rfl) (hm:A.mode f=0:=by rfl):Ry A N6 b F j8 (⟨.call f os,K,K,u⟩::ops) T (HI xs) n rl l6 Q:=by
 refine c0 hc rfl (m:=1) ?_ ?_ rfl rfl ?_ (λh=>by cases h) ha ee hm rfl (HD:=[]) (H2:=HI ys) rfl h2
 .show D3 (HI xs)<=1
  rw [JN];omega
 .rw [hb]
  exact G9 (by show D3 (HI xs)<=1;rw [JN];omega)
 .show F9.mk 0 0 1 (A6 _ 0 1)=lI
  have:A6 (HI xs) 0 1=1:=by
   unfold A6;rw [if_neg (by decide),if_pos (by show T7 (HI xs) 0=W;exact Nt xs)]
  rw [this];rfl
end
def as9 (xs:List Int)(h:O xs<=1000000):Pm A 263 [.r7 0 1 0 (O xs)] (HI xs) lI (.tuple []) (HI (W9 xs)):=Pm.aB rfl (LR rfl rfl rfl (Nat.ble_eq_true_of_le h))
def as7 (xs:List Int)(h:O xs<=1000000):Pm A 134 [.r7 0 1 0 (O xs)] (HI xs) lI (.r7 0 1 0 (O (U7 xs))) (HI (U7 xs++c8 (O xs - O (U7 xs)) 0)):=Pm.aB rfl (Di rfl rfl rfl (Nat.ble_eq_true_of_le h))
def as8 (l:F9):Pm A 263 [.d (.slice 0 [])] [] l (.tuple []) []:=Pm.aB rfl rfl
def as6 (l:F9):Pm A 134 [.d (.slice 0 [])] [] l (.d (.slice 0 [])) []:=Pm.aB rfl rfl
def RJ {T:List c7}{H:k9}{ds zs:List Int}(hT:T[1]? =J (.r7 0 1 0 (O ds)))(hH:H[0]? =J (.cells ((ds++zs).map iv)))(hl:O ds<=900):R4 Rq 0 (J (.ret,⟨T,H⟩))=J (.d (ints ds),[]):=by
 have h1:rd H 0 0 (O ds * 1)=J (ds.map iv):=by
  simp only [rd,hH];rw [if_pos U];simp
 have h2:=KL H 0 ds 999999 V;have h3:=EU ds;have h4:V2 T H Rq.results=J [.r7 0 1 0 (O ds)]:=by
  show V2 T H [.slot 1]=_
  simp only [V2,jq,hT]
 unfold R4;simp only [h4];show finish F 0 [.r7 0 1 0 (O ds)] H=_
 simp only [finish,j6,if_false,j5,X6,Nat.not_lt_zero,h1,h2,Ko];simp [c7.F4,ints,s7,h3]
def Mb (e:List R2)(he:O e<=800)(hv:V6 e=F):Pf A 225 [dM e] (.own 1 0 []):=by
 have p1:=LZ e V;rw [hv] at p1;refine Pf.gr 6 ?_;refine tc (W) p1 (λh1=>?_) (λh1=>?_)
 .refine gr ?_
  exact ⟨_,rfl,rfl⟩
 .cases h1
set_option maxHeartbeats 8000000 in
def QS (e:List R2)(he:O e<=800)(hv:V6 e=W):Pf A 225 [dM e] (.d (ints (gh e))):=by
 have p1:=LZ e V;rw [hv] at p1;refine Pf.gr 6 ?_;refine tc (F) p1 (λh1=>?_) (λh1=>?_)
 .cases h1
 refine gr ?_;refine Ex.L9 (λk T H=>∃(i:Nat) (acc:List Int),T=[.any,.any,A8 1 (λn=>[Z n]) acc,.any,dM e,.d (Z (O e)),.d (Z i)]/\H=[]/\i+k=O e/\acc=gn e i) ?_ (k:=O e) ⟨0,[],rfl,rfl,U,rfl⟩;rintro k _ _ ⟨i,acc,rfl,rfl,hk,hacc⟩;have qG:=qA e i;rw [<- hacc] at qG;refine Ex.seq ?_;refine tb (D5 i (O e)) (λh2=>?_) (λh2=>?_)
 .have h3:=A7 h2
  refine gr ?_;refine tb (x4 (Y e i).op 2) (λh4=>?_) (λh4=>?_)
  .refine gr ?_
   refine kk ⟨_,_,B2 (j4 rfl) (x3 _),i+1,acc++[(Y e i).col],rfl,rfl,V,by rw [hacc,NI h4]⟩
  .refine gr ?_
   refine kk ⟨_,_,B2 (j4 rfl) (x3 _),i+1,acc,rfl,rfl,V,by rw [hacc,NH h4]⟩
 .have h3:=B8 h2
  obtain rfl:i=O e:=V
  cases acc with
  |nil =>
   refine gr ?_;refine Ex.fz (Ci rfl) ?_
   repeat' (first|refine c0 (as8 _) rfl (h2:=?_)|refine c0 (as6 _) rfl (h2:=?_)|refine gx ?_|fail)
   refine ⟨_,rfl,?_⟩;simp [gh,<- hacc,W9,U7,ints,s7,j5]
  |cons a r =>
   refine gr ?_;refine Ex.fz (GD rfl U rfl rfl (uY (λ_=>rfl) _)) ?_;have e1:((a::r).flatMap λn=>[Z n]).map c7.d=(a::r).map iv:=by rw [EU,List.map_map];rfl
   have qo:=lV (a::r);have hlen:O (a::r)<=1000000:=V
   have pS:=as9 (a::r) hlen;have pC:=as7 (W9 (a::r)) (by rw [qo];exact hlen);rw [qo] at pC;have hdl:=oy (W9 (a::r));simp only [N5,o4,o5,List.map_nil,y6,A4,e1];generalize (dM e).forget=w;have eI:[s6.cells ((a::r).map iv)]=HI (a::r):=rfl;rw [eI]
   repeat' (first|refine c0I pS ?_|refine c0I pC ?_|refine gx ?_|fail)
   refine ⟨_,RJ rfl rfl V,?_⟩;simp only [gh,<- hacc]
def Xq (n:Nat)(h0:0<n)(h:n<=1000000)(l:F9):Pm A 226 [.N9,.d (Z n)] [] l (.own 2 0 []) []:=by
 refine ⟨1,λk hk=>?_⟩;obtain ⟨k,rfl⟩:∃j,k=j+1:=⟨k - 1,V⟩;have h1:A.aB 226=J (qP 2):=rfl;simp only [call,h1,qP,Z];rw [if_pos V]
def iu (l:List D7):List y9.Data:=[N7 l]
set_option maxHeartbeats 4000000 in
def QL (xss:List (List D7))(h0:O xss<=100)(h1:∀i,i<O xss->O (Y xss i)<=10000)(hp:0<O xss.flatten):Pf A 162 [.d (s7 iu xss)] (A8 2 K6 xss.flatten):=by
 refine Pf.gr 11 ?_;refine Ex.J4 (λk T H=>∃(i m:Nat),T=[.d (s7 iu xss),.any,.d (Z m),.any,.any,.any,.d (s7 iu xss),.d (Z (O xss)),.d (Z i),.any,.any,.any]/\H=[]/\i+k=O xss/\m<=i * 10000/\O xss.flatten=m+O (xss.drop i).flatten) ?_ (k:=O xss) ⟨0,0,rfl,rfl,U,U,U⟩;rintro k _ _ ⟨i,m,rfl,rfl,hk,hm,hfl⟩;refine Ex.seq ?_;refine tb (D5 i (O xss)) (λh2=>?_) (λh2=>?_)
 .have h3:=A7 h2
  have h4:=h1 i V;have h5:m<=1000000:=V
  rw [C4 V] at hfl;refine gr ?_;refine tb (F) (λh6=>?_) (λh6=>?_)
  .cases h6
  refine gr ?_;exact kk ⟨i+1,m+O (Y xss i),rfl,rfl,V,V,by simp at hfl ⊢;omega⟩
 have h3:=B8 h2;have h5:m<=1000000:=V
 rw [n5 V] at hfl;have p1:=Xq m (by simp only [List.flatten_nil,A4] at hfl;omega) h5;clear h2 hm hfl
 repeat' (first|refine c1 (p1 _) rfl ?_|refine gx ?_|fail)
 refine Ex.J4 (λk T H=>∃(i:Nat) (acc:List D7),T=[.any,.any,.any,.any,A8 2 K6 acc,.any,.any,.any,.any,.d (s7 iu xss),.d (Z (O xss)),.d (Z i)]/\H=[]/\i+k=O xss/\O acc<=i * 10000/\xss.flatten=acc++(xss.drop i).flatten) ?_ (k:=O xss) ⟨0,[],rfl,rfl,U,U,U⟩;rintro k _ _ ⟨i,acc,rfl,rfl,hk,hl,hacc⟩;refine Ex.seq ?_;refine tl i (O xss) (λh6=>?_) (λh6=>?_)
 .have h7:=h1 i V
  rw [C4 V] at hacc;have h8:O acc<=1000000:=V
  refine gr ?_;exact kk ⟨i+1,acc++Y xss i,rfl,rfl,V,D,by rw [hacc];simp⟩
 .rw [n5 V] at hacc
  repeat' (first|refine owS ?_|refine gx ?_|fail)
  exact ⟨_,rfl,by rw [hacc];simp [j5,A8]⟩
def nA (e:List R2)(ps:List D7):List D7:=(gh e).map λx=>Y ps x.toNat
theorem kG (e:List R2)(ps:List D7):O (nA e ps)<=O e:=by
 have:=yg e;simp [nA];omega
def yh:gh []=[]:=rfl
set_option maxHeartbeats 8000000 in
def LY (e:List R2)(l r:List D7)(he:O e<=800)(hv:V6 e=W\/e=[])(hl:O l<=1000)(hr:O r<=1000)(h0:0<O l)(hc:∀x,x∈gh e->0<=x/\x<O (l++r)) :
  Pf A 161 [dM e,.d (N7 l),.d (N7 r)] (.d (N7 (nA e (l++r)))):=by
 have p1:∃w,Pf A 225 [dM e] w/\(w= .d (ints (gh e))\/∃z,w= .own z 0 []/\ints (gh e)= .slice 0 []):=by
  rcases hv with hv|rfl
  .exact ⟨_,QS e he hv,.inl rfl⟩
  .exact ⟨_,Mb [] U (by simp [V6,x6]),.inr ⟨1,rfl,by rw [yh];rfl⟩⟩
 obtain ⟨w,p1,hw⟩:=p1;have p2:=QL [l,r] U (λi hi=>by
  match i,hi with
  |0,_=>rw [D6 U];show O l<=10000;omega
  |1,_=>rw [D6 U];show O r<=10000;omega) D
 have e2:[l,r].flatten=l++r:=U
 rw [e2] at p2;have hcl:=yg e;obtain ⟨ps,hps⟩:∃ps,l++r=ps:=⟨_,rfl⟩;have oJ:O ps<=2000:=by rw [<- hps];simp;omega
 rw [hps] at p2 hc ⊢;unfold nA;obtain ⟨cs,hcs⟩:∃cs,gh e=cs:=⟨_,rfl⟩;rw [hcs] at hw hcl hc ⊢;have hnl:O cs<=1000:=V
 have run:∀w:c7,(w= .d (ints cs)\/(w= .own 1 0 []/\cs=[]))->Pf A 225 [dM e] w->Pf A 161 [dM e,.d (N7 l),.d (N7 r)] (.d (N7 (cs.map λx=>Y ps x.toNat))):=by
  rintro w (rfl|⟨rfl,rfl⟩) p1
  all_goals refine Pf.go 7 ?_
  .repeat' (first|refine cl (p2) ?_|refine clT p1 (h2:=?_)|refine gx ?_|fail)
   refine Ex.bW (λk T H=>∃(i:Nat) (acc:List D7) (w0 w1 w2 w3 w6:c7),T=[w0,w1,w2,w3,A8 2 K6 ps,A8 2 K6 acc,w6,.d (ints cs),.d (Z (O cs)),.d (Z i)]/\H=[]/\i+k=O cs/\acc=(cs.take i).map λx=>Y ps x.toNat) ?_ (k:=O cs) ⟨0,[],_,_,_,_,_,rfl,rfl,U,U⟩;rintro k _ _ ⟨i,acc,w0,w1,w2,w3,w6,rfl,rfl,hk,hacc⟩;have qG:O acc<=10000:=by rw [hacc];simp;omega
   refine Ex.nT ?_;refine Ex.seq ?_;refine tb (D5 i (O cs)) (λh2=>?_) (λh2=>?_)
   .have h3:=A7 h2
    have h4:=hc _ (C5 (l:=cs) (i:=i) V)
    repeat' (first|refine oN (enc:=K6) (Y ps (Y cs i).toNat) ?_|refine Ew (ys:=[Y ps (Y cs i).toNat]) (h2:=?_)|refine gx ?_|fail)
    exact kk ⟨i+1,acc++[Y ps (Y cs i).toNat],_,_,_,_,_,rfl,rfl,V,by rw [hacc,E4 V];simp⟩
   .have h3:=B8 h2
    obtain rfl:i=O cs:=V
    refine gr ?_;exact ⟨_,rfl,by rw [hacc];simp [j5,N7,s7]⟩
  .repeat' (first|refine cl (p2) ?_|refine ad0 p1 (h2:=?_)|refine am3 (h2:=?_)|refine gx ?_|fail)
   refine Ex.bW (λk T H=>∃(w0 w1 w2 w3 w4 w6 w7:c7),T=[w0,w1,w2,w3,w4,.own 2 0 [],w6,w7,.d (Z 0),.d (Z 0)]/\H=[]/\k=0) ?_ (k:=0) ⟨_,_,_,_,_,_,_,rfl,rfl,rfl⟩;rintro k _ _ ⟨w0,w1,w2,w3,w4,w6,w7,rfl,rfl,hk⟩;refine Ex.nT ?_;refine Ex.seq ?_;refine tb (D5 0 0) (λh2=>?_) (λh2=>?_)
   .have h3:=A7 h2
    omega
   .refine gr ?_
    exact ⟨_,rfl,by simp [j5,N7,s7]⟩
 rcases hw with rfl|⟨z,rfl,h⟩
 .exact run _ (.inl rfl) p1
 .have hz:cs=[]:=by
   cases cs with
   |nil=>rfl
   |cons a q=>simp [ints,s7] at h
  rcases hv with hv|rfl
  .exact run _ (.inl rfl) (by have:=QS e he hv;rw [hcs] at this;exact this)
  .exact run _ (.inr ⟨rfl,hz⟩) (Mb [] U (by simp [V6,x6]))
def HC (c:o9)(fl:List J8):k9:=[.cells (c.enc.map .d),.cells [A8 5 J8.enc fl]]
def Qw:F9:=⟨0,0,2,2⟩
def Fv (p:D7):c7:= .agg [.d (Z p.1),.d (Z p.2)]
def tV (ps:List D7)(to:D7)(d:Bool):List J8:=ps.map λp=>⟨p,to,d⟩
set_option maxHeartbeats 8000000 in
def Dn (c:o9)(fl:List J8)(ps:List D7)(to:D7)(d:Bool)(h:O fl+O ps<=1000000):Pm A 157 [.ptr 1 0,.d (N7 ps),Fv to,.d (.bool d)] (HC c fl) Qw (.tuple []) (HC c (fl++tV ps to d)):=by
 have key:Pq A 157 [.ptr 1 0,.d (N7 ps),Fv to,.d (.bool d)] (HC c fl) Qw λv H1=>v= .tuple []/\H1=HC c (fl++tV ps to d):=by
  refine Pq.go 5 ?_;unfold HC Fv;refine gr ?_;refine Ex.L9 (λk T H=>∃i:Nat,T=[.ptr 1 0,.any,.any,.d (.bool d),.ptr 2 0,.any,.d (N7 ps),.d (Z (O ps)),.d (Z i)]/\H=[.cells (c.enc.map .d),.cells [A8 5 J8.enc (fl++tV (ps.take i) to d)],.cells [.d (Z to.1),.d (Z to.2)]]/\i+k=O ps) ?_ (k:=O ps) ⟨0,rfl,by simp [tV],U⟩;rintro k _ _ ⟨i,rfl,rfl,hk⟩;refine Ex.seq ?_;refine tb (D5 i (O ps)) (λh2=>?_) (λh2=>?_)
  .have h3:=A7 h2
   have h4:O (fl++tV (ps.take i) to d)<=1000000:=by simp [tV];omega
   have hr:roomFor (O (fl++tV (ps.take i) to d)+1) 40=W:=by simp only [roomFor,decide_eq_true_eq];omega
   have h5:tV (ps.take (i+1)) to d=tV (ps.take i) to d++[⟨Y ps i,to,d⟩]:=by
    unfold tV;rw [E4 V];simp
   repeat' (first|refine qm (cs:=(J8.enc ⟨Y ps i,to,d⟩).map .d) ?_|refine oN (enc:=J8.enc) ⟨Y ps i,to,d⟩ ?_|refine XS (enc:=J8.enc) (xs:=fl++tV (ps.take i) to d) ⟨Y ps i,to,d⟩ hr (h2:=?_)|refine Bp (h2:=?_)|refine gx ?_|fail)
   exact kk ⟨_,_,B2 (j4 rfl) (j4 rfl),i+1,rfl,by rw [h5,<- G8];rfl,V⟩
  .have h3:=B8 h2
   obtain rfl:i=O ps:=V
   refine gr ?_;exact ⟨_,_,rfl,rfl,by rw [I8];rfl⟩
 obtain ⟨v,H1,⟨rfl,rfl⟩,h⟩:=key;exact h
def rD (s p:Int):Nat->List J8
 |0=>[]
 |k+1=>rD s p k++(if !x4 k p then tV [(s,p)] (s,(k:Int)) F else [])
theorem wI (s p:Int):∀k,O (rD s p k)<=k
 |0=>j9 _
 |k+1=>by
  have:=wI s p k;simp only [rD,k8];split<;>simp [tV]<;>omega
def pY (s:Int)(n:Nat)(oW:List Int):List J8:=oW.flatMap λp=>rD s p n
theorem pZ (s:Int)(n:Nat):∀oW:List Int,O (pY s n oW)<=O oW * n
 |[]=>by simp [pY]
 |p::oW=>by
  have h1:=pZ s n oW;have h2:=wI s p n;simp only [pY,List.flatMap_cons,k8,o8,Nat.add_mul,Nat.one_mul] at h1 ⊢;omega
set_option maxHeartbeats 8000000 in
def Xb (c:o9)(fl:List J8)(s:Int)(n:Nat)(oW:List Int)(hf:O fl<=100000)(hn:n<=100)(hp:O oW<=100) :
  Pm A 102 [.ptr 1 0,.d (Z s),.d (Z n),.d (ints oW)] (HC c fl) Qw (.tuple []) (HC c (fl++pY s n oW)):=by
 have key:Pq A 102 [.ptr 1 0,.d (Z s),.d (Z n),.d (ints oW)] (HC c fl) Qw λv H1=>v= .tuple []/\H1=HC c (fl++pY s n oW):=by
  refine Pq.go 7 ?_;refine gr ?_;refine Ex.bW (λk T H=>∃(i:Nat) (w3 w4 w5 w9 rG:c7),T=[.ptr 1 0,.d (Z s),.d (Z n),w3,w4,w5,.d (ints oW),.d (Z (O oW)),.d (Z i),w9,rG]/\H=HC c (fl++pY s n (oW.take i))/\i+k=O oW) ?_ (k:=O oW) ⟨0,_,_,_,_,_,rfl,by simp [pY],U⟩;rintro k _ _ ⟨i,w3,w4,w5,w9,rG,rfl,rfl,hk⟩;refine Ex.nT ?_;refine Ex.seq ?_;refine tb (D5 i (O oW)) (λh2=>?_) (λh2=>?_)
  .have h3:=A7 h2
   have h4:=pZ s n (oW.take i);have h5:O (oW.take i) * n<=100 * 100:=Nat.mul_le_mul D hn;have h6:pY s n (oW.take (i+1))=pY s n (oW.take i)++rD s (Y oW i) n:=by
    unfold pY;rw [E4 V];simp
   refine gr ?_;obtain ⟨p,hpe⟩:∃p,Y oW i=p:=⟨_,rfl⟩;rw [hpe] at h6 ⊢;refine Ex.bW (λk T H=>∃(j:Nat) (w3 w5:c7),T=[.ptr 1 0,.d (Z s),.d (Z n),w3,.d (Z p),w5,.d (ints oW),.d (Z (O oW)),.d (Z i),.d (Z n),.d (Z j)]/\H=HC c ((fl++pY s n (oW.take i))++rD s p j)/\j+k=n) ?_ (k:=n) ⟨0,_,_,rfl,by simp [rD],U⟩;rintro m _ _ ⟨j,w3,w5,rfl,rfl,hm⟩;refine Ex.nT ?_;refine Ex.seq ?_;refine tl j n (λg3=>?_) (λg3=>?_)
   .have g4:=wI s p j
    refine gr ?_;refine tb (!x4 j p) (λg5=>?_) (λg5=>?_)
    .have pa:=Dn c ((fl++pY s n (oW.take i))++rD s p j) [(s,p)] (s,(j:Int)) F (by simp only [k8,D9];omega)
     repeat' (first|refine qm (cs:=(K6 (s,p)).map .d) ?_|refine qm (cs:=(K6 (s,(j:Int))).map .d) ?_|refine oN (enc:=K6) (s,p) ?_|refine c0 pa rfl (h2:=?_)|refine gx ?_|fail)
     exact ⟨m - 1,V,j+1,_,_,rfl,by simp only [rD,g5,if_true,G8];rfl,V⟩
    .refine gr ?_
     exact ⟨m - 1,V,j+1,_,_,rfl,by simp only [rD,g5,j6,if_false,List.append_nil],V⟩
   .obtain rfl:j=n:=V
    refine gr ?_;exact kk ⟨i+1,_,_,_,_,_,rfl,by rw [h6,G8],V⟩
  .have h3:=B8 h2
   obtain rfl:i=O oW:=V
   refine gr ?_;exact ⟨_,_,rfl,rfl,by rw [I8];rfl⟩
 obtain ⟨v,H1,⟨rfl,rfl⟩,h⟩:=key;exact h
def qc (s:Int)(l r:List D7):Nat->List J8
 |0=>[]
 |k+1=>qc s l r k++(tV [Y l k,Y r k] (s,(k:Int)) W++tV [Y l 0,Y r 0] (s,(k:Int)) F)
theorem wT (s:Int)(l r:List D7):∀k,O (qc s l r k)=4 * k
 |0=>rfl
 |k+1=>by
  have:=wT s l r k;simp only [qc,k8,tV,A1,o8,A4];omega
set_option maxHeartbeats 8000000 in
def Xl (c:o9)(fl:List J8)(s:Int)(l r:List D7)(hf:O fl<=100000)(hl:O l<=100)(hr:O l<=O r) :
  Pm A 160 [.ptr 1 0,.d (Z s),.d (N7 l),.d (N7 r)] (HC c fl) Qw (.tuple []) (HC c (fl++qc s l r (O l))):=by
 have key:Pq A 160 [.ptr 1 0,.d (Z s),.d (N7 l),.d (N7 r)] (HC c fl) Qw λv H1=>v= .tuple []/\H1=HC c (fl++qc s l r (O l)):=by
  refine Pq.go 4 ?_;refine gr ?_;refine Ex.L9 (λk T H=>∃i:Nat,T=[.ptr 1 0,.d (Z s),.d (N7 l),.d (N7 r),.any,.any,.d (Z (O l)),.d (Z i)]/\H=HC c (fl++qc s l r i)/\i+k=O l) ?_ (k:=O l) ⟨0,rfl,by simp [qc],U⟩;rintro k _ _ ⟨i,rfl,rfl,hk⟩;have hul:=wT s l r i;refine Ex.seq ?_;refine tb (D5 i (O l)) (λh2=>?_) (λh2=>?_)
  .have h3:=A7 h2
   have p1:=Dn c (fl++qc s l r i) [Y l i,Y r i] (s,(i:Int)) W (by simp only [k8,o8,A4];omega);have p2:=Dn c ((fl++qc s l r i)++tV [Y l i,Y r i] (s,(i:Int)) W) [Y l 0,Y r 0] (s,(i:Int)) F (by simp only [k8,o8,A4,tV,A1];omega);unfold HC Fv at *
   repeat' (first|refine qm (cs:=(K6 (s,(i:Int))).map .d) ?_|refine TU (K6 (Y l i)++K6 (Y r i)) ?_|refine c0 p1 rfl (h2:=?_)|refine TU (K6 (Y l 0)++K6 (Y r 0)) ?_|refine c0 p2 rfl (h2:=?_)|refine Yq (h2:=?_)|refine gx ?_|fail)
   exact kk ⟨_,_,B2 (j4 rfl) (j4 rfl),i+1,rfl,by simp only [qc,<- G8];rfl,V⟩
  .have h3:=B8 h2
   obtain rfl:i=O l:=V
   refine gr ?_;exact ⟨_,_,rfl,rfl,rfl⟩
 obtain ⟨v,H1,⟨rfl,rfl⟩,h⟩:=key;exact h
structure xd (e:List R2)(n:Nat):Prop where
 len:O e<=64
 ok:V6 e=W\/e=[]
 col:∀x,x∈gh e->0<=x/\x<n
def mq (v:Vw)(ps:List D7)(i:Nat):List (List D7):=(v.items.take i).map λx=>nA x.expr ps
def EK (v:Vw)(ps:List D7)(i:Nat):List (List D7):=(v.F6.take i).map λx=>nA x.expr ps
def uK (v:Vw)(ps:List D7):List (List D7):=mq v ps (O v.items)++EK v ps (O v.F6)
def SN (v:Vw)(L R:List D7)(i:Nat):List D7:=(v.on.take i).flatMap λp=>[Y L p.1.toNat,Y R p.2.toNat]
def EJ (v:Vw)(L R:List D7):List D7:=nA v.wh (L++R)++[Y L 0]++(if D5 0 (O R) then [Y R 0] else [])++SN v L R (O v.on)++(if x4 v.kind 1||v.distinct then (mq v (L++R) (O v.items)).flatten else [])
def tH (s:Int)(ds:List (List D7))(cs:List D7):Nat->List J8
 |0=>[]
 |k+1=>tH s ds cs k++(tV (Y ds k) (s,(k:Int)) W++tV cs (s,(k:Int)) F)
def jJ (s:Int)(v:Vw)(L R:List D7):List J8:=if x4 v.kind 2 then qc s L R (O L) else tH s (uK v (L++R)) (EJ v L R) (O (uK v (L++R)))
structure zM (v:Vw)(L R:List D7):Prop where
 l0:0<O L
 l8:O L<=8
 r8:O R<=8
 o7:O v.items+O v.F6<=8
 on8:O v.on<=8
 on:∀i,i<O v.on->0<=(Y v.on i).1/\(Y v.on i).1<O L/\0<=(Y v.on i).2/\(Y v.on i).2<O R
 wh:xd v.wh (O (L++R))
 it:∀i,i<O v.items->xd (Y v.items i).expr (O (L++R))
 ag:∀i,i<O v.F6->xd (Y v.F6 i).expr (O (L++R))
 un:x4 v.kind 2=W->O L<=O R
def AF (v:Vw)(L R:List D7)(i:Nat):O (SN v L R i)<=2 * O v.on:=by
 have:∀l:List (Int×Int),O (l.flatMap λp=>[Y L p.1.toNat,Y R p.2.toNat])=2 * O l:=by
  intro l
  induction l with
  |nil=>rfl
  |cons a l ih=>grind
 grind [SN,K0]
def nq {d9:List (List D7)}(h:∀d,d∈d9->O d<=64):O d9.flatten<=64 * O d9:=by
 induction d9 with
 |nil=>simp
 |cons a l ih =>
  grind
theorem vT (s:Int)(ds:List (List D7))(cs:List D7)(h:∀i,i<O ds->O (Y ds i)<=64):∀i,i<=O ds->O (tH s ds cs i)<=i * (64+O cs)
 |0,_=>by simp [tH]
 |k+1,hk=>by
  have h1:=vT s ds cs h k V
  grind [tH,k8,tV,A1,Nat.succ_mul]
def uL {v:Vw}{ps:List D7}(hi:∀i,i<O v.items->xd (Y v.items i).expr (O ps))(ha:∀i,i<O v.F6->xd (Y v.F6 i).expr (O ps)):∀d,d∈uK v ps->O d<=64:=by
 intro d hd;simp only [uK,mq,EK,A5,List.mem_map] at hd
 rcases hd with ⟨x,hx,rfl⟩|⟨x,hx,rfl⟩
 .obtain ⟨q,hq,rfl⟩:=E9 (List.mem_of_mem_take hx)
  have h1:=(hi q hq).len
  grind [D6,kG]
 .obtain ⟨q,hq,rfl⟩:=E9 (List.mem_of_mem_take hx)
  have h1:=(ha q hq).len
  grind [D6,kG]
set_option maxHeartbeats 32000000 in
def Xc (c:o9)(fl:List J8)(v:Vw)(s:Int)(L R:List D7)(h:zM v L R)(hf:O fl<=100000)(pl:Pf A 159 [cat c,.d (.str v.left)] (.d (N7 L)))(pr:K3 v.right []=F->Pf A 159 [cat c,.d (.str v.right)] (.d (N7 R)))(Yh:K3 v.right []=W->R=[]) :
  Pm A 104 [.ptr 1 0,cat c,.d (Z s),Yy v] (HC c fl) Qw (.tuple []) (HC c (fl++jJ s v L R)):=by
 have key:Pq A 104 [.ptr 1 0,cat c,.d (Z s),Yy v] (HC c fl) Qw λr H1=>r= .tuple []/\H1=HC c (fl++jJ s v L R):=by
  obtain ⟨l0,l8,r8,o7,on8,on,wh,it,ag,un⟩:=h;have hlr:O (L++R)<=16:=D
  have hb0:∀w7:c7,(w7= .d (N7 R)\/∃z,w7= .own z 0 []/\N7 R= .slice 0 [])->w7.F4=0:=by
   rintro _ (rfl|⟨_,rfl,_⟩)<;>rfl
  refine Pq.go 28 ?_;unfold HC;refine gc pl ?_;refine Ex.xR (λst=>∃w7:c7,(w7= .d (N7 R)\/∃z,w7= .own z 0 []/\N7 R= .slice 0 [])/\st=⟨[.ptr 1 0,cat c,.d (Z s),Yy v,.ptr 2 0,.ptr 3 0,.d (N7 L),w7,.any,.any,.any,.any,.any,.any,.any,.any,.any,.any,.any,.any,.any,.any,.any,.any,.any,.any,.any,.any,.any,.any,.any,.any],[.cells (c.enc.map .d),.cells [A8 5 J8.enc fl],.cells (c.enc.map .d),.cells (v.enc.map .d)]⟩) ?_ ?_
  .skip
   refine tb (!K3 v.right []) (λh=>?_) (λh=>?_)
   .have pr:=pr (by simpa using h)
    refine gc pr ?_;exact ⟨_,.inl rfl,rfl⟩
   .refine gr ?_
    exact ⟨_,.inr ⟨2,rfl,by rw [Yh (by simpa using h)];rfl⟩,rfl⟩
  rintro _ ⟨w7,Le,rfl⟩;refine gr ?_;refine tb (x4 v.kind 2) (λhk=>?_) (λhk=>?_)
  .have p:=Xl c fl s L R hf V (un hk)
   unfold HC at p
   repeat' (first|refine SK Le ?_|refine c0 p rfl (h2:=?_)|refine gx ?_|fail)
   exact ⟨_,_,rfl,rfl,by rw [jJ,hk];rfl⟩
  refine gr ?_;refine Ex.L9 (λk T H=>∃i:Nat,T=[.ptr 1 0,.any,.d (Z s),.any,.any,.ptr 3 0,.d (N7 L),w7,A8 1 iu (mq v (L++R) i),.any,.any,.any,.any,.any,.any,.any,.any,.d (s7 tM.enc v.items),.d (Z (O v.items)),.d (Z i),.any,.any,.any,.any,.any,.any,.any,.any,.any,.any,.any,.any]/\H=[.cells (c.enc.map .d),.cells [A8 5 J8.enc fl],.cells (c.enc.map .d),.cells (v.enc.map .d)]/\i+k=O v.items) ?_ (k:=O v.items) ⟨0,rfl,rfl,U⟩;rintro k _ _ ⟨i,rfl,rfl,hk1⟩;have hdl:O (mq v (L++R) i)<=8:=by simp [mq];omega
  refine Ex.seq ?_;refine tb (D5 i (O v.items)) (λh2=>?_) (λh2=>?_)
  .have h3:=A7 h2
   obtain ⟨e1,e2,e3⟩:=it i V;have p1:=LY (Y v.items i).expr L R V e2 V V l0 e3;have e4:mq v (L++R) (i+1)=mq v (L++R) i++[nA (Y v.items i).expr (L++R)]:=by
    unfold mq;rw [E4 V];simp
   repeat' (first|refine SK Le ?_|refine iX p1 ?_|refine gx ?_|fail)
   exact kk ⟨_,_,B2 (by rcases Le with rfl|⟨_,rfl,_⟩<;>exact j4 rfl) (j4 rfl),i+1,by rw [e4];rfl,rfl,V⟩
  have h3:=B8 h2;obtain rfl:i=O v.items:=V
  have pw:=LY v.wh L R (by have:=wh.len;omega) wh.ok V V l0 wh.col;have Ei:=kG v.wh (L++R);have aT7:=wh.len;have JC:L.take 1=[Y L 0]:=by
   cases L with
   |nil=>simp at l0
   |cons a q=>simp [Y]
  have pc:=QL [nA v.wh (L++R),L.take 1] U (λi hi=>by
   match i,hi with
   |0,_=>rw [D6 U];show O (nA v.wh (L++R))<=10000;omega
   |1,_=>rw [D6 U];show O (L.take 1)<=10000;simp;omega) D
  have et:[nA v.wh (L++R),L.take 1].flatten=nA v.wh (L++R)++[Y L 0]:=by simp [JC]
  rw [et] at pc;obtain ⟨C0,UY⟩:∃C0,nA v.wh (L++R)++[Y L 0]=C0:=⟨_,rfl⟩;have aP7:O C0<=65:=by rw [<- UY];simp;omega
  rw [UY] at pc;obtain ⟨d9,hD⟩:∃d9,mq v (L++R) (O v.items)=d9:=⟨_,rfl⟩;have hDl:O d9=O v.items:=by rw [<- hD];simp [mq]
  have RP:∀d,d∈d9->O d<=64:=by
   intro d hd;rw [<- hD] at hd;simp only [mq,List.mem_map] at hd;obtain ⟨x,hx,rfl⟩:=hd;obtain ⟨q,hq,rfl⟩:=E9 (List.mem_of_mem_take hx);have h1:=(it q hq).len;rw [D6 hq] at h1;have:=kG v.items[q].expr (L++R);omega
  rw [hD] at hdl ⊢
  repeat' (first|refine SK Le ?_|refine iX pw ?_|refine cl (pc) ?_|refine gx ?_|fail)
  refine Ex.xR (λst=>st=⟨[.ptr 1 0,.any,.d (Z s),.any,.any,.ptr 3 0,.d (N7 L),w7,A8 1 iu d9,.any,A8 2 K6 (C0++(if D5 0 (O R) then [Y R 0] else [])),.any,.any,.any,.any,.any,.any,.d (s7 tM.enc v.items),.d (Z (O v.items)),.d (Z (O v.items)),.any,.any,.any,.any,.any,.any,.any,.any,.any,.any,.any,.any],[.cells (c.enc.map .d),.cells [A8 5 J8.enc fl],.cells (c.enc.map .d),.cells (v.enc.map .d)]⟩) ?_ ?_
  .skip
   refine tB (D5 0 (O R)) ?_ (λh=>?_) (λh=>?_)
   .repeat' (first|refine SK Le ?_|refine gx ?_|refine fq (λhw=>?_) λhw=>?_|refine ⟨rfl,rfl,_,rfl,?_⟩|refine ⟨rfl,rfl⟩|fail)
    all_goals exact cc
   .have h3:=A7 h
    have h4:0<O R:=V
    rw [h];simp only [if_true]
    repeat' (first|refine SK Le ?_|refine oN (enc:=K6) (Y R 0) ?_|refine Ew (ys:=[Y R 0]) (h2:=?_)|refine gx ?_|fail)
    exact rfl
   .rw [h]
    simp only [j6,if_false,List.append_nil];refine gr ?_;exact rfl
  rintro _ rfl;obtain ⟨C1,hC1⟩:∃C1,C0++(if D5 0 (O R) then [Y R 0] else [])=C1:=⟨_,rfl⟩;have aP8:O C1<=66:=by rw [<- hC1];split<;>simp<;>omega
  rw [hC1];refine gr ?_;refine Ex.L9 (λk T H=>∃(i:Nat) (acc:List D7),T=[.ptr 1 0,.any,.d (Z s),.any,.any,.ptr 3 0,.d (N7 L),w7,A8 1 iu d9,.any,A8 2 K6 acc,.any,.any,.any,.any,.any,.any,.any,.any,.any,.d (s7 (λp=>[Z p.1,Z p.2]) v.on),.d (Z (O v.on)),.d (Z i),.any,.any,.any,.any,.any,.any,.any,.any,.any]/\H=[.cells (c.enc.map .d),.cells [A8 5 J8.enc fl],.cells (c.enc.map .d),.cells (v.enc.map .d)]/\i+k=O v.on/\acc=C1++SN v L R i) ?_ (k:=O v.on) ⟨0,C1,rfl,rfl,U,by simp [SN]⟩;rintro k _ _ ⟨i,acc,rfl,rfl,hk2,hacc⟩;refine Ex.seq ?_;refine tb (D5 i (O v.on)) (λh2=>?_) (λh2=>?_)
  .have h3:=A7 h2
   obtain ⟨q1,q2,q3,q4⟩:=on i V;have Uc:=AF v L R i;have qG:O acc<=82:=by rw [hacc,k8];omega
   repeat' (first|refine SK Le ?_|refine TU (K6 (Y L (Y v.on i).1.toNat)++K6 (Y R (Y v.on i).2.toNat)) ?_|refine Ew (ys:=[Y L (Y v.on i).1.toNat,Y R (Y v.on i).2.toNat]) (h2:=?_)|refine gx ?_|fail)
   exact kk ⟨_,_,B2 (by rcases Le with rfl|⟨_,rfl,_⟩<;>exact j4 rfl) (j4 rfl),i+1,_,rfl,rfl,V,by rw [hacc];unfold SN;rw [E4 V];simp⟩
  have h3:=B8 h2;obtain rfl:i=O v.on:=V
  obtain ⟨C2,Qe⟩:∃C2,C1++SN v L R (O v.on)=C2:=⟨_,rfl⟩;have aS0:=AF v L R (O v.on);have aP9:O C2<=82:=by rw [<- Qe];simp only [k8];omega
  rw [Qe] at hacc;rw [hacc];clear hacc acc;refine gr ?_;refine Ex.xR (λst=>∃Up Uq Ur Us w24 w25:c7,(Up.F4=0/\Uq.F4=0/\Ur.F4=0/\Us.F4=0/\w24.F4=0/\w25.F4=0)/\st=⟨[.ptr 1 0,.any,.d (Z s),.any,.any,.ptr 3 0,.d (N7 L),w7,A8 1 iu d9,.any,A8 2 K6 (C2++(if x4 v.kind 1||v.distinct then d9.flatten else [])),.any,.any,.any,.any,.any,.any,.any,.any,.any,Up,Uq,Ur,Us,w24,w25,.any,.any,.any,.any,.any,.any],[.cells (c.enc.map .d),.cells [A8 5 J8.enc fl],.cells (c.enc.map .d),.cells (v.enc.map .d)]⟩) ?_ ?_
  .skip
   refine tb ((x4 v.kind 1||v.distinct)) (λh=>?_) (λh=>?_)
   .repeat' (first|refine moT (h2:=?_)|refine gx ?_|fail)
    refine Ex.L9 (λk T H=>∃(i:Nat) (acc:List D7),T=[.ptr 1 0,.any,.d (Z s),.any,.any,.ptr 3 0,.d (N7 L),w7,A8 1 iu d9,.any,A8 2 K6 acc,.any,.any,.any,.any,.any,.any,.any,.any,.any,.any,.any,.any,.d (s7 iu d9),.d (Z (O d9)),.d (Z i),.any,.any,.any,.any,.any,.any]/\H=[.cells (c.enc.map .d),.cells [A8 5 J8.enc fl],.cells (c.enc.map .d),.cells (v.enc.map .d)]/\i+k=O d9/\acc=C2++(d9.take i).flatten) ?_ (k:=O d9) ⟨0,C2,rfl,rfl,U,U⟩;rintro k _ _ ⟨i,acc,rfl,rfl,hk3,hacc⟩;refine Ex.seq ?_;refine tb (D5 i (O d9)) (λh2=>?_) (λh2=>?_)
    .have h3:=A7 h2
     have h4:=RP (Y d9 i) (C5 V);have h5:=nq (d9:=d9.take i) λd hd=>RP d (List.mem_of_mem_take hd)
     have h6:O (d9.take i)<=8:=by rw [K0];omega
     have qG:O acc<=600:=by rw [hacc,k8];omega
     refine gr ?_;exact kk ⟨_,_,B2 (by rcases Le with rfl|⟨_,rfl,_⟩<;>exact j4 rfl) (j4 rfl),i+1,acc++Y d9 i,rfl,rfl,V,by rw [hacc,E4 V];simp⟩
    have h3:=B8 h2;obtain rfl:i=O d9:=V
    have ha:acc=C2++(if x4 v.kind 1||v.distinct then d9.flatten else []):=by rw [hacc,h];simp
    rw [<- ha];refine gr ?_;exact ⟨.any,.any,.any,.d (s7 iu d9),.d (Z (O d9)),.d (Z (O d9)),⟨rfl,rfl,rfl,rfl,rfl,rfl⟩,rfl⟩
   .rw [h]
    simp only [j6,if_false,List.append_nil];refine gr ?_;exact ⟨.d (s7 (λp=>[Z p.1,Z p.2]) v.on),.d (Z (O v.on)),.d (Z (O v.on)),.any,.any,.any,⟨rfl,rfl,rfl,rfl,rfl,rfl⟩,rfl⟩
  rintro _ ⟨Up,Uq,Ur,Us,w24,w25,hb,rfl⟩;obtain ⟨C3,hC3⟩:∃C3,C2++(if x4 v.kind 1||v.distinct then d9.flatten else [])=C3:=⟨_,rfl⟩;have aQ0:O C3<=600:=by
   have:=nq RP;rw [<- hC3];simp only [k8];split<;>(try simp only [A4])<;>omega
  rw [hC3];refine gr ?_;refine Ex.L9 (λk T H=>∃(i:Nat) (acc:List (List D7)),T=[.ptr 1 0,.any,.d (Z s),.any,.any,.any,.d (N7 L),w7,A8 1 iu acc,.any,A8 2 K6 C3,.any,.any,.any,.any,.any,.any,.any,.any,.any,.any,.any,.any,.any,.any,.any,.d (s7 sZ.enc v.F6),.d (Z (O v.F6)),.d (Z i),.any,.any,.any]/\H=[.cells (c.enc.map .d),.cells [A8 5 J8.enc fl],.cells (c.enc.map .d),.cells (v.enc.map .d)]/\i+k=O v.F6/\acc=d9++EK v (L++R) i) ?_ (k:=O v.F6) ⟨0,d9,rfl,rfl,U,by simp [EK]⟩;rintro k _ _ ⟨i,acc,rfl,rfl,hk4,hacc⟩;have qG:O acc<=8:=by rw [hacc];simp [EK];omega
  refine Ex.seq ?_;refine tb (D5 i (O v.F6)) (λh2=>?_) (λh2=>?_)
  .have h3:=A7 h2
   obtain ⟨e1,e2,e3⟩:=ag i V;have p1:=LY (Y v.F6 i).expr L R V e2 V V l0 e3
   repeat' (first|refine SK Le ?_|refine iX p1 ?_|refine gx ?_|fail)
   exact kk ⟨_,_,B2 (by rcases Le with rfl|⟨_,rfl,_⟩<;>exact j4 rfl) (j4 rfl),i+1,acc++[nA (Y v.F6 i).expr (L++R)],rfl,rfl,V,by rw [hacc];unfold EK;rw [E4 V];simp⟩
  have h3:=B8 h2;obtain rfl:i=O v.F6:=V
  obtain ⟨DV,hDV⟩:∃DV,uK v (L++R)=DV:=⟨_,rfl⟩;have hacc:acc=DV:=by rw [hacc,<- hDV,<- hD];rfl
  subst hacc;have Sc:∀i,i<O acc->O (Y acc i)<=64:=by
   intro i hi;refine uL it ag _ ?_;rw [hDV];exact C5 hi
  have qI:jJ s v L R=tH s acc C3 (O acc):=by
   unfold jJ;rw [hk,hDV,<- hC3,<- Qe,<- hC1,<- UY,<- hD];rfl
  rw [qI]
  repeat' (first|refine moT (h2:=?_)|refine gx ?_|fail)
  refine Ex.L9 (λk T H=>∃(i:Nat) (fs:List J8),T=[.ptr 1 0,.any,.d (Z s),.any,.any,.any,.any,.any,.any,.any,A8 2 K6 C3,.any,.any,.any,.any,.any,.any,.any,.any,.any,.any,.any,.any,.any,.any,.any,.any,.any,.any,.d (s7 iu acc),.d (Z (O acc)),.d (Z i)]/\H=[.cells (c.enc.map .d),.cells [A8 5 J8.enc fs],.cells (c.enc.map .d),.cells (v.enc.map .d)]/\i+k=O acc/\fs=fl++tH s acc C3 i) ?_ (k:=O acc) ⟨0,fl,rfl,rfl,U,by simp [tH]⟩;rintro k _ _ ⟨i,fs,rfl,rfl,hk5,yE⟩;refine Ex.seq ?_;refine tb (D5 i (O acc)) (λh2=>?_) (λh2=>?_)
  .have h3:=A7 h2
   have Uc:=vT s acc C3 Sc i V;have p1:=Dn c fs (Y acc i) (s,(i:Int)) W (by have:=Sc i V;rw [yE];simp only [k8];have:i * (64+O C3)<=8 * (64+O C3):=E1 _ V;omega);have p2:=Dn c (fs++tV (Y acc i) (s,(i:Int)) W) C3 (s,(i:Int)) F (by have:=Sc i V;rw [yE];simp only [k8,tV,A1];have:i * (64+O C3)<=8 * (64+O C3):=E1 _ V;omega);unfold HC Fv at *
   repeat' (first|refine qm (cs:=(K6 (s,(i:Int))).map .d) ?_|refine c0 p1 rfl (h2:=?_)|refine c0 p2 rfl (h2:=?_)|refine gx ?_|fail)
   exact kk ⟨_,_,B2 (j4 rfl) (j4 rfl),i+1,_,rfl,rfl,V,by rw [yE];simp only [tH,G8]⟩
  have h3:=B8 h2;obtain rfl:i=O acc:=V
  refine gr ?_;exact ⟨_,_,rfl,rfl,by rw [yE];rfl⟩
 obtain ⟨r,H1,⟨rfl,rfl⟩,h⟩:=key;exact h
def flw (f:J8):c7:= .agg (f.enc.map .d)
def zu (a b:J8):Bool:=(a.src.1==b.src.1&&(a.src.2==b.src.2&&W))&&(a.dst.1==b.dst.1&&(a.dst.2==b.dst.2&&W))
set_option maxHeartbeats 8000000 in
def Qz (a b:J8):Pf A 167 [flw a,flw b] (.d (.bool (zu a b))):=by
 refine Pf.go 3 ?_;simp only [flw,J8.enc,E8,List.map_nil]
 repeat' (first|refine AB rfl rfl ?_|refine gy ?_|refine fq (λhw=>?_) λhw=>?_|refine ⟨_,rfl,?_⟩|fail)
 .simp at hw
  simp [j5,zu,hw]
 .simp at hw
  simp [j5,zu];intro h1 h2;exact absurd h2 (hw h1)
def dB (xs:List J8):Nat->List J8
 |0=>[]
 |k+1=>dB xs k++(if decide (0<k)&&zu (Y xs k) (Y xs (k - 1)) then [] else [Y xs k])
def R8 (l:List J8):List c7:=(l.flatMap J8.enc).map .d
theorem qt:∀l:List y9.Data,A2 (l.map .d)=0
 |[]=>rfl
 |a::l=>by simp [A2,c7.F4,qt l]
def HM {o0 o1:s6}(h0:o0.F4<=3)(h1:o1.F4<=3)(ys:List J8)(st:Nat):D3 (([o0,o1,.cells (R8 ys)].take 3).drop st)<=3:=by
 have h2:(s6.cells (R8 ys)).F4<=3:=by simp only [s6.F4,R8,qt];omega
 match st with
 |0=>simp [D3];omega
 |1=>simp [D3];omega
 |2=>simp [D3];omega
 |_+3=>simp [D3]
def zF:List c7:=[.d (Z 0),.d (Z 0),.d (Z 0),.d (Z 0),.d (.bool F)]
theorem Nc:∀n:Nat,O ((c8 n zF).flatten)=n * 5
 |0=>rfl
 |n+1=>by
  have:=Nc n;rw [L3,List.flatten_cons,k8,this];simp [zF];omega
def TJ (o0 o1:s6)(acc rest:List J8):wr [o0,o1,.cells (R8 (acc++rest))] 2 (0+O acc * 5) ((c8 (O rest) zF).flatten)=J [o0,o1,.cells (R8 acc++(c8 (O rest) zF).flatten)]:=by
 have l1:∀l:List J8,O (R8 l)=O l * 5:=λl=>by rw [R8,A1,S9 (sz:=5) (λ_=>rfl)]
 have e:R8 (acc++rest)=R8 acc++R8 rest:=by simp [R8]
 have hz:=Nc (O rest);simp only [wr,List.getElem?_cons_succ,List.getElem?_cons_zero,splice,e,Nat.zero_add];rw [if_pos (by simp only [k8,l1,hz];omega),<- l1 acc,List.take_left,n5 (by simp only [k8,l1,hz];omega)];simp
def LK {acc xs:List J8}{q:Nat}(h1:O acc<=q)(h2:q<O xs):Y (acc++xs.drop (O acc)) q=Y xs q:=by
 rw [D6 D,D6 h2,List.getElem_append_right h1,List.getElem_drop];have:O acc+(q - O acc)=q:=V
 simp [this]
set_option maxHeartbeats 16000000 in
def Xn (o0 o1:s6)(h0:o0.F4<=3)(h1:o1.F4<=3)(st:Nat)(xs:List J8)(hn:O xs<=1000000)(hp:0<O xs) :
  ∃zs,Pm A 166 [.r7 2 5 0 (O xs),.func 167 [] []] [o0,o1,.cells (R8 xs)] ⟨0,0,3,st⟩ (.r7 2 5 0 (O (dB xs (O xs)))) [o0,o1,.cells (R8 (dB xs (O xs))++zs)]:=by
 have key:Pq A 166 [.r7 2 5 0 (O xs),.func 167 [] []] [o0,o1,.cells (R8 xs)] ⟨0,0,3,st⟩ λr H1=>∃zs,r= .r7 2 5 0 (O (dB xs (O xs)))/\H1=[o0,o1,.cells (R8 (dB xs (O xs))++zs)]:=by
  have Is:∀ys:List J8,D3 (([o0,o1,.cells (R8 ys)].take 3).drop st)<=3:=λys=>HM h0 h1 ys st
  refine Pq.go 4 ?_;refine gr ?_;refine tB (D5 (O xs) 2) ?_ (λh=>?_) (λh=>?_)
  .repeat' (first|refine No ?_|refine gx ?_|refine fq (λhw=>?_) λhw=>?_|refine ⟨rfl,rfl,_,rfl,?_⟩|refine ⟨rfl,rfl⟩|fail)
   all_goals exact cc
  .have h3:=A7 h
   refine gr ?_;have e:dB xs (O xs)=xs:=by
    match xs,hp,h3 with
    |[x],_,_=>simp [dB,Y]
    |_::_::_,_,h=>simp at h;omega
   exact ⟨_,_,rfl,[],by rw [e],by rw [e];simp [R8]⟩
  have h3:=B8 h;have i0:dB xs 1=xs.take 1:=by
   match xs,hp with
   |x::_,_=>simp [dB,Y]
  refine gr ?_;refine Ex.L9 (λk T H=>∃i:Nat,T=[.r7 2 5 0 (O xs),.func 167 [] [],.any,.d (Z i),.any,.any]/\H=[o0,o1,.cells (R8 xs)]/\i+k=O xs/\0<i/\dB xs i=xs.take i) ?_ (k:=O xs - 1) ⟨1,rfl,rfl,V,V,i0⟩;rintro k _ _ ⟨i,rfl,rfl,hk,hi,hc⟩;refine Ex.seq ?_;refine tB (D5 i (O xs)) ?_ (λh2=>?_) (λh2=>?_)
  .repeat' (first|refine No ?_|refine gx ?_|refine fq (λhw=>?_) λhw=>?_|refine ⟨rfl,rfl,_,rfl,?_⟩|refine ⟨rfl,rfl⟩|fail)
   all_goals exact cc
  .have h4:=A7 h2
   have r1:rd [o0,o1,.cells (R8 xs)] 2 (0+i * 5) 5=J ((Y xs i).enc.map .d):=qU (enc:=J8.enc) (λ_=>rfl) rfl V;have r2:rd [o0,o1,.cells (R8 xs)] 2 (0+((i:Int) - 1).toNat * 5) 5=J ((Y xs (i - 1)).enc.map .d):=by
    rw [show ((i:Int) - 1).toNat=i - 1 by omega];exact qU (enc:=J8.enc) (λ_=>rfl) rfl V
   refine gr ?_;have sr:i<O xs:=V
   have hio:0<=(i:Int) - 1/\(i:Int) - 1<O xs:=V
   refine tB (zu (Y xs i) (Y xs (i - 1))) ?_ (λh5=>?_) (λh5=>?_)
   .repeat' (first|refine AB r1 rfl ?_|refine AB r2 rfl ?_|refine RD (Qz _ _) ?_|refine ixs sr ?_|refine JG hio ?_|refine gx ?_|refine fq (λhw=>?_) λhw=>?_|refine ⟨rfl,rfl,_,rfl,?_⟩|refine ⟨rfl,rfl⟩|fail)
    exact rfl
   .repeat' (first|refine Yw sr ?_|refine gx ?_|fail)
    have Vv:O (xs.take i)=i:=by rw [K0];omega
    have hc1:dB xs (i+1)=xs.take i:=by rw [dB,hc,h5];simp [hi]
    refine Ex.L9 (λk2 T H=>∃(j:Nat) (acc:List J8),T=[.r7 2 5 0 (O xs),.func 167 [] [],.any,.d (Z (O acc)),.r7 2 5 (0+i * 5) (O xs - i),.d (Z j)]/\H=[o0,o1,.cells (R8 (acc++xs.drop (O acc)))]/\i+j+k2=O xs/\0<j/\O acc+1<=i+j/\0<O acc/\acc=dB xs (i+j)) ?_ (k:=O xs - i - 1) ⟨1,xs.take i,by rw [Vv];rfl,by rw [Vv,List.take_append_drop],V,V,V,V,hc1.symm⟩;rintro k2 _ _ ⟨j,acc,rfl,rfl,hk2,hj,af4,RS,hacc⟩;refine Ex.seq ?_;have U8:O acc<O xs:=V
    have hdr:=C4 U8;refine tB (D5 j (O xs - i:Nat)) ?_ (λh6=>?_) (λh6=>?_)
    .repeat' (first|refine No ?_|refine gx ?_|refine fq (λhw=>?_) λhw=>?_|refine ⟨rfl,rfl,_,rfl,?_⟩|refine ⟨rfl,rfl⟩|fail)
     all_goals exact cc
    .have h7:=A7 h6
     have hjl:j<O xs - i:=V
     have hjo:0<=(j:Int) - 1/\(j:Int) - 1<((O xs - i:Nat):Int):=V
     have hx:∀q,O acc<=q->q<O xs->rd [o0,o1,.cells (R8 (acc++xs.drop (O acc)))] 2 (0+q * 5) 5=J ((Y xs q).enc.map .d):=by
      intro q h1 h2;rw [<- LK h1 h2];exact qU (enc:=J8.enc) (λ_=>rfl) rfl D
     have r3:=hx (i+j) V V;rw [show 0+(i+j) * 5=0+i * 5+j * 5 by omega] at r3;have r4:=hx (i+j - 1) V V;rw [show 0+(i+j - 1) * 5=0+i * 5+((j:Int) - 1).toNat * 5 by omega] at r4;refine gr ?_;refine tB (!zu (Y xs (i+j)) (Y xs (i+j - 1))) ?_ (λh8=>?_) (λh8=>?_)
     .repeat' (first|refine AB r3 rfl ?_|refine AB r4 rfl ?_|refine RD (Qz _ _) ?_|refine ixs hjl ?_|refine JG hjo ?_|refine gx ?_|refine fq (λhw=>?_) λhw=>?_|refine ⟨rfl,rfl,_,rfl,?_⟩|refine ⟨rfl,rfl⟩|fail)
      exact rfl
     .have w1:wr [o0,o1,.cells (R8 (acc++xs.drop (O acc)))] 2 (0+O acc * 5) ((Y xs (i+j)).enc.map .d)=J [o0,o1,.cells (R8 (acc++Y xs (i+j)::xs.drop (O acc+1)))]:=by
       rw [hdr];exact Bi (enc:=J8.enc) (λ_=>rfl) rfl _
      have hb0:A2 ((Y xs (i+j)).enc.map .d)<=2+1:=by rw [qt];omega
      repeat' (first|refine AB r3 rfl ?_|refine ixs hjl ?_|refine ixs U8 ?_|refine fD rfl ⟨rfl,rfl⟩ rfl rfl rfl hb0 w1 ?_|refine gx ?_|fail)
      have JC:O (acc++[Y xs (i+j)])=O acc+1:=U
      exact ⟨k2 - 1,V,_,_,B2 (j4 rfl) (Is _),j+1,acc++[Y xs (i+j)],by rw [JC];rfl,by rw [JC,G8];rfl,V,V,V,V,by rw [<- K1,dB,<- hacc];simp at h8;rw [h8];simp⟩
     .refine gr ?_
      exact ⟨k2 - 1,V,_,_,B2 (j4 rfl) (Is _),j+1,acc,rfl,rfl,V,V,V,V,by rw [<- K1,dB,<- hacc];simp at h8;rw [h8];simp;omega⟩
    .have h7:=B8 h6
     have hij:i+j=O xs:=V
     rw [hij] at hacc;rw [<- hacc];have w2:=TJ o0 o1 acc (xs.drop (O acc));rw [List.length_drop] at w2
     repeat' (first|refine Yw U8 ?_|refine clS w2 ?_|refine svf (Nat.le_of_lt U8) RS ?_|refine gx ?_|fail)
     exact ⟨_,_,rfl,_,rfl,rfl⟩
   .refine gr ?_
    exact kk ⟨_,_,B2 (j4 rfl) (Is _),i+1,rfl,rfl,V,V,by rw [dB,hc,h5,E4 sr];simp⟩
  .have h4:=B8 h2
   obtain rfl:i=O xs:=V
   rw [hc,I8];refine gr ?_;exact ⟨_,_,rfl,[],rfl,U⟩
 obtain ⟨r,H1,⟨zs,rfl,rfl⟩,h⟩:=key;exact ⟨zs,h⟩
theorem ve:∀l:List J8,nr (l.flatMap J8.enc)=J l
 |[]=>rfl
 |f::l=>by
  show nr ([Z f.src.1,Z f.src.2,Z f.dst.1,Z f.dst.2,.bool f.dat]++l.flatMap J8.enc)=_
  simp only [x7,y6,Z,nr,ve l]
def Xm (o0 o1:s6)(fl:List J8)(hn:O fl<=1000000)(l:F9)(hm:l.may 2=W):Pm A 163 [.r7 2 5 0 (O fl),.func 164 [] []] [o0,o1,.cells (R8 fl)] l (.tuple []) [o0,o1,.cells (R8 (aY fl))]:=by
 refine ⟨1,λk hk=>?_⟩;obtain ⟨k,rfl⟩:∃j,k=j+1:=⟨k - 1,V⟩;have h1:A.aB 163=J (qR 164):=rfl;have l1:∀q:List J8,O (R8 q)=O q * 5:=λl=>by rw [R8,A1,S9 (sz:=5) (λ_=>rfl)]
 have e1:rd [o0,o1,.cells (R8 fl)] 2 0 (O fl * 5)=J (R8 fl):=by
  simp only [rd,List.getElem?_cons_succ,List.getElem?_cons_zero,l1,Nat.zero_add,j9,if_true,List.drop_zero];rw [s4 (by rw [l1];exact j9 _)]
 have e2:H7 (R8 fl)=J (fl.flatMap J8.enc):=bP _;have e3:wr [o0,o1,.cells (R8 fl)] 2 0 (R8 (aY fl))=J [o0,o1,.cells (R8 (aY fl))]:=by
  simp only [wr,List.getElem?_cons_succ,List.getElem?_cons_zero,l1,rj,Nat.zero_add,j9,if_true,splice,List.take_zero,y6];rw [n5 (by rw [l1];exact j9 _),List.append_nil];rfl
 simp only [call,h1,qR,hm,hn,and_self,if_true,e1,e2,ve];show (match wr [o0,o1,.cells (R8 fl)] 2 0 (R8 (aY fl)) with|some H1=>J (c7.tuple [],H1)|none=>K)=_
 rw [e3]
def UH {o0 o1:s6}(h0:o0.F4<=3)(h1:o1.F4<=3)(ys:List J8)(st:Nat):D4 [o0,o1,.cells (R8 ys)] st 8 3=3:=by
 have:=HM h0 h1 ys st;show D4 _ st (7+1) 3=3
 rw [D4];split
 .rfl
 .exact if_pos (Nat.max_eq_left this)
set_option maxHeartbeats 16000000 in
def Xd (o0:s6)(h0:o0.F4<=3)(st:Nat)(fl:List J8)(hn:O fl<=1000000)(hp:0<O fl) :
  ∃zs,Pm A 105 [.ptr 1 0] [o0,.cells [.r7 2 5 0 (O fl)],.cells (R8 fl)] ⟨0,0,3,st⟩ (.r7 2 5 0 (O (dB (aY fl) (O fl)))) [o0,.cells [.r7 2 5 0 (O fl)],.cells (R8 (dB (aY fl) (O fl))++zs)]:=by
 have h1:(s6.cells [.r7 2 5 0 (O fl)]).F4<=3:=j9 _;have qo:=rj fl;have key:Pq A 105 [.ptr 1 0] [o0,.cells [.r7 2 5 0 (O fl)],.cells (R8 fl)] ⟨0,0,3,st⟩ λr H1=>∃zs,r= .r7 2 5 0 (O (dB (aY fl) (O fl)))/\H1=[o0,.cells [.r7 2 5 0 (O fl)],.cells (R8 (dB (aY fl) (O fl))++zs)]:=by
  refine Pq.go 1 ?_;have p1:=Xm o0 (.cells [.r7 2 5 0 (O fl)]) fl hn;obtain ⟨zs,p2⟩:=Xn o0 (.cells [.r7 2 5 0 (O fl)]) h0 h1 (A6 [o0,.cells [.r7 2 5 0 (O fl)],.cells (R8 (aY fl))] st 3) (aY fl) V V;rw [qo] at p2
  repeat' (first|refine c0 (cQ:=HM h0 h1 _ _) (hcl:=UH h0 h1 _ _) (p1 _ rfl) rfl (h2:=?_)|refine c0 (cQ:=HM h0 h1 _ _) (hcl:=UH h0 h1 _ _) p2 rfl (h2:=?_)|refine gx ?_|fail)
  exact ⟨_,_,rfl,zs,rfl,rfl⟩
 obtain ⟨r,H1,⟨zs,rfl,rfl⟩,h⟩:=key;exact ⟨zs,h⟩
def rB (c:o9):Nat->List J8
 |0=>[]
 |i+1=>rB c i++(if x4 (Y c.j7 i).erase 1 then pY i (O (Y c.j7 i).o7) (oZ c i) else [])
def rF (c:o9)(L R:Nat->List D7):Nat->List J8
 |0=>[]
 |i+1=>rF c L R i++jJ ((O c.j7:Int)+(i:Int)) (Y c.views i) (L i) (R i)
structure PS (c:o9)(i:Nat)(L R:List D7):Prop where
 ok:zM (Y c.views i) L R
 pl:Pf A 159 [cat c,.d (.str (Y c.views i).left)] (.d (N7 L))
 pr:K3 (Y c.views i).right []=F->Pf A 159 [cat c,.d (.str (Y c.views i).right)] (.d (N7 R))
 r0:K3 (Y c.views i).right []=W->R=[]
 len:∀s,O (jJ s (Y c.views i) L R)<=6000
def NP (a:y9.Data):(c7.d a).forget.F4=0:=by
 cases a with
 |slice n cs=>cases cs<;>rfl
 |_=>rfl
theorem Kz:∀l:List y9.Data,A2 (N5 (l.map .d))=0
 |[]=>rfl
 |a::l=>by simp only [E8,N5,A2,Kz l,NP];rfl
def Am (l:List y9.Data):(s6.cells (l.map .d)).forget.F4<=3:=by
 simp only [s6.forget,s6.F4,Kz];omega
def ad8 (l:List y9.Data):(s6.cells (l.map .d)).F4<=2:=by
 simp only [s6.F4,qt];omega
def UI {o0:s6}{n:Nat}(h0:o0.F4<=3)(ys:List J8):D4 [o0,.cells [.r7 2 5 0 n],.cells (R8 ys)] 0 8 2=3:=by
 have h1:D3 (([o0,.cells [.r7 2 5 0 n],.cells (R8 ys)].take 2).drop 0)=3:=by
  have:(s6.cells [.r7 2 5 0 n]).F4=3:=rfl;simp [D3,this];omega
 have h2:=HM h0 (o1:= .cells [.r7 2 5 0 n]) (j9 _) ys 0;show D4 _ 0 (6+1+1) 2=3
 rw [D4,h1];show D4 _ 0 (6+1) 3=3
 rw [D4];exact if_pos (Nat.max_eq_left h2)
theorem KI (H:k9)(n:Nat):∀(xs:List y9.Data) (f:Nat),O xs<f->X6 H n f (xs.map .d)=J (xs.map .d)
 |[],f+1,_=>rfl
 |x::xs,f+1,h=>by
  have ih:=KI H n xs f (by simp at h;omega);simp only [E8,X6,ih]
def US {a:p6}{s p:Nat}{T:List c7}{H:k9}{ds:List J8}{zs:List c7}(hT:T[s]? =J (.r7 p 5 0 (O ds)))(hH:H[p]? =J (.cells (R8 ds++zs)))(hl:O ds<=100000)(ha:a.results=[.slot s]:=by rfl)(hp:a.eY=F:=by rfl):R4 a 0 (J (.ret,⟨T,H⟩))=J (.d (s7 J8.enc ds),[]):=by
 have l1:O (ds.flatMap J8.enc)=O ds * 5:=S9 (sz:=5) (λ_=>rfl) ds;have l2:O (R8 ds)=O ds * 5:=by rw [R8,A1,l1]
 have h1:rd H p 0 (O ds * 5)=J (R8 ds):=by
  simp only [rd,hH,k8,l2,Nat.zero_add];rw [if_pos V,List.drop_zero,<- l2,List.take_left]
 have h2:=KI H 0 (ds.flatMap J8.enc) 999999 V;unfold R4;simp only [ha,hp,V2,jq,hT];rw [R8] at h1;simp only [finish,j6,if_false,j5,X6,Nat.not_lt_zero,h1,h2,bP];simp [c7.F4,s7]
theorem uH (xs:List J8):∀k,O (dB xs k)<=k
 |0=>j9 _
 |k+1=>by
  have:=uH xs k;simp only [dB,k8];split<;>simp<;>omega
def Ti (l:F9):Pm A 166 [.d (.slice 0 []),.func 167 [] []] [] l (.d (.slice 0 [])) []:=by
 have key:Pq A 166 [.d (.slice 0 []),.func 167 [] []] [] l λr H1=>r= .d (.slice 0 [])/\H1=[]:=by
  refine Pq.go 4 ?_;refine gr ?_;refine tb (D5 0 2) (λh=>?_) (λh=>?_)
  .refine gr ?_
   exact ⟨_,_,rfl,rfl,rfl⟩
  .cases B8 h
 obtain ⟨r,H1,⟨rfl,rfl⟩,h⟩:=key;exact h
def Th (l:F9):Pm A 163 [.d (.slice 0 []),.func 164 [] []] [] l (.tuple []) []:=Pm.aB rfl rfl
def Tg (o0:s6)(h0:o0.F4<=2)(st:Nat):Pm A 105 [.ptr 1 0] [o0,.cells [.own 5 0 []]] ⟨0,0,2,st⟩ (.d (.slice 0 [])) [o0,.cells [.own 5 0 []]]:=by
 have key:Pq A 105 [.ptr 1 0] [o0,.cells [.own 5 0 []]] ⟨0,0,2,st⟩ λr H1=>r= .d (.slice 0 [])/\H1=[o0,.cells [.own 5 0 []]]:=by
  refine Pq.go 1 ?_
  repeat' (first|refine c0 (cQ:=by simp [D3]) (hcl:=by simp [D4,A2,c7.F4]) (Th _) rfl (h2:=?_)|refine c0 (cQ:=by simp [D3]) (hcl:=by simp [D4,A2,c7.F4]) (Ti _) rfl (h2:=?_)|refine gx ?_|fail)
  exact ⟨_,_,rfl,rfl,rfl⟩
 obtain ⟨r,H1,⟨rfl,rfl⟩,h⟩:=key;exact h
set_option maxHeartbeats 16000000 in
def al7 (c:o9)(hs:E7 c)(hv:D0 c=W)(h8:O c.j7<=8)(hc8:∀i,i<O c.j7->O (Y c.j7 i).o7<=8)(h9:O c.views<=12)(L R:Nat->List D7)(Su:∀i,i<O c.views->PS c i (L i) (R i)):Pf A 47 [cat c] (.d (s7 J8.enc (dB (aY (rB c (O c.j7)++rF c L R (O c.views))) (O (rB c (O c.j7)++rF c L R (O c.views)))))):=by
 refine Pf.gr 13 ?_;refine Ex.L9 (λk T H=>∃(i:Nat) (fl:List J8),T=[.any,.ptr 0 0,.any,.ptr 1 0,.any,.any,.any,.any,.d (s7 cw.enc c.j7),.d (Z (O c.j7)),.d (Z i),.any,.any,.any]/\H=HC c fl/\i+k=O c.j7/\fl=rB c i/\O fl<=i * 64) ?_ (k:=O c.j7) ⟨0,[],rfl,rfl,U,rfl,U⟩;rintro k _ _ ⟨i,fl,rfl,rfl,hk,hfl,hfn⟩;unfold HC;refine Ex.seq ?_;refine tb (D5 i (O c.j7)) (λh2=>?_) (λh2=>?_)
 .have h3:=A7 h2
  have e1:D5 (i:Int) 0=F:=by simp [y4]
  have e2:T5 (O c.j7:Int) i=F:=by simp [x6];omega
  have hit:kH c i=W:=by rw [yM,e1,e2,hv];rfl
  have hcl:=hc8 i V;have oJ:O (oZ c i)<=8:=by have:=pe (Y c.j7 (i:Int).toNat).o7 (O (Y c.j7 (i:Int).toNat).o7);simp at this;unfold oZ;simp;omega
  have p1:=WL c hs i hit;have p2:=Xb c fl i (O (Y c.j7 i).o7) (oZ c i) V V V;unfold HC at p2;refine gr ?_;refine tb (x4 (Y c.j7 i).erase 1) (λh4=>?_) (λh4=>?_)
  .repeat' (first|refine cl (p1) ?_|refine c0 p2 rfl (h2:=?_)|refine gx ?_|fail)
   have Sv:=pZ i (O (Y c.j7 i).o7) (oZ c i);have h64:O (oZ c i) * O (Y c.j7 i).o7<=8 * 8:=Nat.mul_le_mul oJ hcl;exact kk ⟨_,_,B2 (j4 rfl) (j4 rfl),i+1,fl++pY i (O (Y c.j7 i).o7) (oZ c i),rfl,rfl,V,by rw [hfl,rB,h4];simp,by rw [k8];omega⟩
  .refine gr ?_
   exact kk ⟨_,_,B2 (j4 rfl) (j4 rfl),i+1,fl,rfl,rfl,V,by rw [hfl,rB,h4];simp,V⟩
 have h3:=B8 h2;obtain rfl:i=O c.j7:=V
 refine gr ?_;refine Ex.L9 (λk T H=>∃(i:Nat) (fs:List J8),T=[.any,.ptr 0 0,.any,.ptr 1 0,.any,.any,.any,.any,.any,.any,.any,.d (s7 Vw.enc c.views),.d (Z (O c.views)),.d (Z i)]/\H=[.cells (c.enc.map .d),.cells [A8 5 J8.enc fs]]/\i+k=O c.views/\fs=fl++rF c L R i/\O fs<=512+i * 6000) ?_ (k:=O c.views) ⟨0,fl,rfl,rfl,U,by simp [rF],V⟩;rintro k _ _ ⟨i,fs,rfl,rfl,hk,yE,aQ8⟩;refine Ex.seq ?_;refine tb (D5 i (O c.views)) (λh4=>?_) (λh4=>?_)
 .have h5:=A7 h4
  obtain ⟨ok,pl,pr,r0,len⟩:=Su i V;have hlen:=len ((O c.j7:Int)+(i:Int));have p1:=Xc c fs (Y c.views i) ((O c.j7:Int)+(i:Int)) (L i) (R i) ok V pl pr r0;unfold HC at p1
  repeat' (first|refine c0 p1 rfl (h2:=?_)|refine gx ?_|fail)
  exact kk ⟨_,_,B2 (j4 rfl) (j4 rfl),i+1,_,rfl,rfl,V,by rw [yE,rF,G8],by rw [k8];omega⟩
 have h5:=B8 h4;obtain rfl:i=O c.views:=V
 rw [hfl] at yE;rw [<- yE]
 rcases Nat.eq_zero_or_pos (O fs) with hz|hz
 .obtain rfl:=List.length_eq_zero_iff.1 hz
  refine gr ?_;refine Ex.fz (KO (p:=1) (z:=5) (xs:=[]) rfl rfl) ?_;have p5:=Tg (s6.cells (c.enc.map .d)) (ad8 _)
  repeat' (first|refine c0 (p5 _) rfl (h2:=?_)|refine gx ?_|fail)
  exact ⟨_,rfl,rfl⟩
 refine gr ?_;refine Ex.fz (NT (p:=1) (z:=5) (n:=O fs) (xs:=fs.flatMap J8.enc) rfl rfl V rfl rfl (uY (λ_=>rfl) _)) ?_;obtain ⟨zs,p5⟩:=Xd (s6.cells (c.enc.map .d)).forget (Am _) (A6 [(s6.cells (c.enc.map .d)).forget,.cells [.r7 2 5 0 (O fs)],.cells (R8 fs)] 0 3) fs V hz;have hcl:D4 [(s6.cells (c.enc.map .d)).forget,.cells [.r7 2 5 0 (O fs)],.cells (R8 fs)] 0 8 2=3:=by
  have h:=UI (o0:=(s6.cells (c.enc.map .d)).forget) (n:=O fs) (Am _) fs;exact h
 have cQ:=HM (o0:=(s6.cells (c.enc.map .d)).forget) (o1:= .cells [.r7 2 5 0 (O fs)]) (Am _) (j9 _) fs 0;show Ex A N6 0 _ ⟨[.any,.ptr 0 0,.any,.ptr 1 0,.any,.any,.any,.any,.any,.any,.any,_,_,_],[(s6.cells (c.enc.map .d)).forget,.cells [.r7 2 5 0 (O fs)],.cells (R8 fs)]⟩ _
 repeat' (first|refine c0 (cQ:=cQ) (hcl:=hcl) p5 rfl (h2:=?_)|refine gx ?_|fail)
 exact ⟨_,US rfl rfl (by have:=uH (aY fs) (O fs);omega),rfl⟩
end Go.Proofs.YtibjocmpkoepoaaGreat


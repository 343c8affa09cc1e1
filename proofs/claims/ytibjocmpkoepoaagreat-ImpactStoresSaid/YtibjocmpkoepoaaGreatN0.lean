import Derived.Test.YtibjocmpkoepoaaGreatX0
set_option linter.all false
open Bool renaming false_eq_true→j6,true→W,false→F
open List renaming append_assoc→F5,cons_append→x4,drop_of_length_le→n5,getElem_of_mem→E0,length_append→j9,length_cons→n9,length_map→A3,length_nil→y4,length_singleton→E5,length_take→L1,map_cons→G7,mem_append→G4,nil_append→y5,replicate→c8,replicate_succ→M0,set_cons_succ→o7,set_cons_zero→o8,take_length→D3,take_of_length_le→s9,length→O
open Nat renaming add_assoc→M6,le_of_ble_eq_true→j5,le_refl→k9,mul_le_mul_right→F8,zero_le→s8
open Option renaming some→J,none→K
namespace Go.Proofs.YtibjocmpkoepoaaGreat
open Go.z6 Go.z6.S
attribute [local irreducible] Rx Ry Rn Ex Pf
def E8 (p:C8):List z6.Data:=[Z p.1,Z p.2]
def E4 (l:List C8):z6.Data:=x3 E8 l
def yg (s:Int):Nat->List C8
 |0=>[]
 |n+1=>yg s n++[(s,(n:Int))]
theorem de (s:Int):∀n,O (yg s n)=n
 |0=>rfl
 |n+1=>by simp [yg,de s n]
def Sq (c:p7)(hs:D9 c)(name:I4)(h:R5 c (M4 c name)=W)(hl:O (M3 c (M4 c name).toNat)<=2000):Pf A 159 [cat c,.d (.str name)] (.d (E4 (yg (M4 c name) (O (M3 c (M4 c name).toNat))))):=by
 have p1:=QE c hs name;have p2:=Nq c hs _ h;obtain ⟨s,hs0⟩:∃s,M4 c name=s:=⟨_,rfl⟩;rw [hs0] at p1 p2 hl ⊢;obtain ⟨ty,nM⟩:∃ty,M3 c s.toNat=ty:=⟨_,rfl⟩;rw [nM] at p2 hl ⊢;refine Pf.go 7 ?_;refine gc (And.intro p1 p2) ?_;refine Ex.J1 (λk T H=>∃(i:Nat) (acc:List C8),T=[.any,.any,.any,.any,.d (Z s),A8 2 E8 acc,.any,.d (Z (O ty)),.d (Z i)]/\H=[.cells (c.enc.map .d)]/\i+k=O ty/\acc=yg s i) ?_ (k:=O ty) ⟨0,[],rfl,rfl,U,rfl⟩;rintro k _ _ ⟨i,acc,rfl,rfl,hk,hacc⟩;have uj:O acc<=10000:=by rw [hacc,de];omega
 refine Ex.seq ?_;refine tb (D0 i (O ty)) (λh2=>?_) (λh2=>?_)
 .have h3:=A5 h2
  repeat' (first|refine mJ (cs:=(E8 (s,(i:Int))).map .d) ?_|refine oN (enc:=E8) (s,(i:Int)) ?_|refine yY (ys:=[(s,(i:Int))]) (h2:=?_)|refine gx ?_|fail)
  exact kk ⟨i+1,acc++[(s,(i:Int))],rfl,rfl,V,by rw [hacc];rfl⟩
 .have h3:=A9 h2
  have h4:i=O ty:=V
  subst h4;refine gr ?_;exact ⟨_,rfl,by rw [hacc];simp [j4,E4,x3]⟩
def fB (e:List Q9):Nat->List Int
 |0=>[]
 |i+1=>fB e i++(if s7 (Y e i).op 2 then [(Y e i).col] else [])
theorem rF (e:List Q9):∀i,O (fB e i)<=i
 |0=>k9 _
 |i+1=>by
  have:=rF e i;simp only [fB,j9];split<;>simp<;>omega
def Po {e:List Q9}{i:Nat}(h:s7 (Y e i).op 2=W):fB e (i+1)=fB e i++[(Y e i).col]:=by simp only [fB,h,if_true]
def Pn {e:List Q9}{i:Nat}(h:s7 (Y e i).op 2=F):fB e (i+1)=fB e i:=by simp [fB,h]
theorem zX {e:List Q9}{x:Int}:∀i,i<=O e->x∈fB e i->∃t∈e,s7 t.op 2=W/\t.col=x
 |0,_,h=>by cases h
 |i+1,hi,h=>by
  simp only [fB,G4] at h
  rcases h with h|h
  .exact zX i V h
  .split at h
   next h1=>
    simp only [List.mem_singleton] at h;exact ⟨_,E7 V,h1,h.symm⟩
   .cases h
def eF (e:List Q9):List Int:=V8 (Y5 (fB e (O e)))
def JH {e:List Q9}{x:Int}(h:x∈eF e):∃t∈e,s7 t.op 2=W/\t.col=x:=by
 rw [eF,jj,jk] at h;exact zX _ (k9 _) h
def zk (e:List Q9):O (eF e)<=O e:=by
 have h1:=pY (Y5 (fB e (O e)));have h2:=rF e (O e);rw [mZ] at h1;unfold eF;omega
def HI (xs:List Int):k8:=[.cells (xs.map iv)]
def lI:G9:=⟨0,0,1,1⟩
def KU (xs:List Int):C9 (HI xs)=0:=by
 simp only [HI,C9,x6.H7,AJ];rfl
def OV (xs:List Int):U6 (HI xs) 0=W:=by
 simp only [HI,U6,x6.H7,AJ];rfl
section
variable {b:Nat} {j8 ops:List x9} {T:List c7} {n:Nat} {rl:List c7} {l6:List z6.Touch} {Q:List c7->k8->List c7->Prop}
def c0I {xs ys:List Int}{f:FuncId}{os:List A4}{u:List Nat}{v:c7}{args:List c7}(hc:Pm A f args (HI xs) lI v (HI ys))(h2:Ry A N9 b F j8 ops T (HI ys) (n+1) (v::rl) (.below 1::l6) Q)
  (ha:os.map (rq T n rl)=args:=by rfl) (hb:A2 args=1:=by rfl) (eM:A.prom f=F:=by rfl) (hm:A.mode f=0:=by rfl):Ry A N9 b F j8 (⟨.call f os,K,K,u⟩::ops) T (HI xs) n rl l6 Q:=by
 refine c0 hc rfl (m:=1) ?_ ?_ rfl rfl ?_ (λh=>by cases h) ha eM hm rfl (HD:=[]) (H2:=HI ys) rfl h2
 .show C9 (HI xs)<=1
  rw [KU];omega
 .rw [hb]
  exact I8 (by show C9 (HI xs)<=1;rw [KU];omega)
 .show G9.mk 0 0 1 (B1 _ 0 1)=lI
  have:B1 (HI xs) 0 1=1:=by
   unfold B1;rw [if_neg (by decide),if_pos (by show U6 (HI xs) 0=W;exact OV xs)]
  rw [this];rfl
end
def aA2 (xs:List Int)(h:O xs<=1000000):Pm A 263 [.s5 0 1 0 (O xs)] (HI xs) lI (.tuple []) (HI (Y5 xs)):=Pm.bw rfl (Ni rfl rfl rfl (Nat.ble_eq_true_of_le h))
def aA0 (xs:List Int)(h:O xs<=1000000):Pm A 134 [.s5 0 1 0 (O xs)] (HI xs) lI (.s5 0 1 0 (O (V8 xs))) (HI (V8 xs++c8 (O xs - O (V8 xs)) 0)):=Pm.bw rfl (Ec rfl rfl rfl (Nat.ble_eq_true_of_le h))
def aA1 (l:G9):Pm A 263 [.d (.slice 0 [])] [] l (.tuple []) []:=Pm.bw rfl rfl
def az9 (l:G9):Pm A 134 [.d (.slice 0 [])] [] l (.d (.slice 0 [])) []:=Pm.bw rfl rfl
def Th {T:List c7}{H:k8}{ds zs:List Int}(hT:T[1]? =J (.s5 0 1 0 (O ds)))(hH:H[0]? =J (.cells ((ds++zs).map iv)))(hl:O ds<=900):T9 SQ 0 (J (.ret,⟨T,H⟩))=J (.d (ints ds),[]):=by
 have h1:rd H 0 0 (O ds * 1)=J (ds.map iv):=by
  simp only [rd,hH];rw [if_pos U];simp
 have h2:=LY H 0 ds 999999 V;have h3:=FN ds;have h4:aB T H SQ.results=J [.s5 0 1 0 (O ds)]:=by
  show aB T H [.slot 1]=_
  simp only [aB,mb,hT]
 unfold T9;simp only [h4];show finish F 0 [.s5 0 1 0 (O ds)] H=_
 simp only [finish,j6,if_false,j4,aD,Nat.not_lt_zero,h1,h2,LA];simp [c7.H7,ints,x3,h3]
def Nu (e:List Q9)(he:O e<=800)(hv:U1 e=F):Pf A 225 [cH e] (.own 1 0 []):=by
 have p1:=Ns e V;rw [hv] at p1;refine Pf.gr 6 ?_;refine tc (W) p1 (λh1=>?_) (λh1=>?_)
 .refine gr ?_
  exact ⟨_,rfl,rfl⟩
 .cases h1
set_option maxHeartbeats 8000000 in
def Sw (e:List Q9)(he:O e<=800)(hv:U1 e=W):Pf A 225 [cH e] (.d (ints (eF e))):=by
 have p1:=Ns e V;rw [hv] at p1;refine Pf.gr 6 ?_;refine tc (F) p1 (λh1=>?_) (λh1=>?_)
 .cases h1
 refine gr ?_;refine Ex.L4 (λk T H=>∃(i:Nat) (acc:List Int),T=[.any,.any,A8 1 (λn=>[Z n]) acc,.any,cH e,.d (Z (O e)),.d (Z i)]/\H=[]/\i+k=O e/\acc=fB e i) ?_ (k:=O e) ⟨0,[],rfl,rfl,U,rfl⟩;rintro k _ _ ⟨i,acc,rfl,rfl,hk,hacc⟩;have uj:=rF e i;rw [<- hacc] at uj;refine Ex.seq ?_;refine tb (D0 i (O e)) (λh2=>?_) (λh2=>?_)
 .have h3:=A5 h2
  refine gr ?_;refine tb (s7 (Y e i).op 2) (λh4=>?_) (λh4=>?_)
  .refine gr ?_
   refine kk ⟨_,_,A6 (j5 rfl) (s8 _),i+1,acc++[(Y e i).col],rfl,rfl,V,by rw [hacc,Po h4]⟩
  .refine gr ?_
   refine kk ⟨_,_,A6 (j5 rfl) (s8 _),i+1,acc,rfl,rfl,V,by rw [hacc,Pn h4]⟩
 .have h3:=A9 h2
  obtain rfl:i=O e:=V
  cases acc with
  |nil =>
   refine gr ?_;refine Ex.fz (Mc rfl) ?_
   repeat' (first|refine c0 (aA1 _) rfl (h2:=?_)|refine c0 (az9 _) rfl (h2:=?_)|refine gx ?_|fail)
   refine ⟨_,rfl,?_⟩;simp [eF,<- hacc,Y5,V8,ints,x3,j4]
  |cons a r =>
   refine gr ?_;refine Ex.fz (HL rfl U rfl rfl (vY (λ_=>rfl) _)) ?_;have e1:((a::r).flatMap λn=>[Z n]).map c7.d=(a::r).map iv:=by rw [FN,List.map_map];rfl
   have oF:=mZ (a::r);have hlen:O (a::r)<=1000000:=V
   have pS:=aA2 (a::r) hlen;have pC:=aA0 (Y5 (a::r)) (by rw [oF];exact hlen);rw [oF] at pC;have hdl:=pY (Y5 (a::r));simp only [O4,o7,o8,List.map_nil,y5,y4,e1];generalize (cH e).forget=w;have eI:[x6.cells ((a::r).map iv)]=HI (a::r):=rfl;rw [eI]
   repeat' (first|refine c0I pS ?_|refine c0I pC ?_|refine gx ?_|fail)
   refine ⟨_,Th rfl rfl V,?_⟩;simp only [eF,<- hacc]
def YX (n:Nat)(h0:0<n)(h:n<=1000000)(l:G9):Pm A 226 [.O5,.d (Z n)] [] l (.own 2 0 []) []:=by
 refine ⟨1,λk hk=>?_⟩;obtain ⟨k,rfl⟩:∃j,k=j+1:=⟨k - 1,V⟩;have h1:A.bw 226=J (rY 2):=rfl;simp only [call,h1,rY,Z];rw [if_pos V]
def iU (l:List C8):List z6.Data:=[E4 l]
set_option maxHeartbeats 4000000 in
def Sr (xss:List (List C8))(h0:O xss<=100)(h1:∀i,i<O xss->O (Y xss i)<=10000)(hp:0<O xss.flatten):Pf A 162 [.d (x3 iU xss)] (A8 2 E8 xss.flatten):=by
 refine Pf.gr 11 ?_;refine Ex.J1 (λk T H=>∃(i m:Nat),T=[.d (x3 iU xss),.any,.d (Z m),.any,.any,.any,.d (x3 iU xss),.d (Z (O xss)),.d (Z i),.any,.any,.any]/\H=[]/\i+k=O xss/\m<=i * 10000/\O xss.flatten=m+O (xss.drop i).flatten) ?_ (k:=O xss) ⟨0,0,rfl,rfl,U,U,U⟩;rintro k _ _ ⟨i,m,rfl,rfl,hk,hm,hfl⟩;refine Ex.seq ?_;refine tb (D0 i (O xss)) (λh2=>?_) (λh2=>?_)
 .have h3:=A5 h2
  have h4:=h1 i V;have h5:m<=1000000:=V
  rw [C5 V] at hfl;refine gr ?_;refine tb (F) (λh6=>?_) (λh6=>?_)
  .cases h6
  refine gr ?_;exact kk ⟨i+1,m+O (Y xss i),rfl,rfl,V,V,by simp at hfl ⊢;omega⟩
 have h3:=A9 h2;have h5:m<=1000000:=V
 rw [n5 V] at hfl;have p1:=YX m (by simp only [List.flatten_nil,y4] at hfl;omega) h5;clear h2 hm hfl
 repeat' (first|refine c1 (p1 _) rfl ?_|refine gx ?_|fail)
 refine Ex.J1 (λk T H=>∃(i:Nat) (acc:List C8),T=[.any,.any,.any,.any,A8 2 E8 acc,.any,.any,.any,.any,.d (x3 iU xss),.d (Z (O xss)),.d (Z i)]/\H=[]/\i+k=O xss/\O acc<=i * 10000/\xss.flatten=acc++(xss.drop i).flatten) ?_ (k:=O xss) ⟨0,[],rfl,rfl,U,U,U⟩;rintro k _ _ ⟨i,acc,rfl,rfl,hk,hl,hacc⟩;refine Ex.seq ?_;refine tl i (O xss) (λh6=>?_) (λh6=>?_)
 .have h7:=h1 i V
  rw [C5 V] at hacc;have h8:O acc<=1000000:=V
  refine gr ?_;exact kk ⟨i+1,acc++Y xss i,rfl,rfl,V,D,by rw [hacc];simp⟩
 .rw [n5 V] at hacc
  repeat' (first|refine owS ?_|refine gx ?_|fail)
  exact ⟨_,rfl,by rw [hacc];simp [j4,A8]⟩
def gw (e:List Q9)(ps:List C8):List C8:=(eF e).map λx=>Y ps x.toNat
theorem lM (e:List Q9)(ps:List C8):O (gw e ps)<=O e:=by
 have:=zk e;simp [gw];omega
def zl:eF []=[]:=rfl
set_option maxHeartbeats 8000000 in
def Nr (e:List Q9)(l r:List C8)(he:O e<=800)(hv:U1 e=W\/e=[])(hl:O l<=1000)(hr:O r<=1000)(h0:0<O l)(hc:∀x,x∈eF e->0<=x/\x<O (l++r)) :
  Pf A 161 [cH e,.d (E4 l),.d (E4 r)] (.d (E4 (gw e (l++r)))):=by
 have p1:∃w,Pf A 225 [cH e] w/\(w= .d (ints (eF e))\/∃z,w= .own z 0 []/\ints (eF e)= .slice 0 []):=by
  rcases hv with hv|rfl
  .exact ⟨_,Sw e he hv,.inl rfl⟩
  .exact ⟨_,Nu [] U (by simp [U1,r7]),.inr ⟨1,rfl,by rw [zl];rfl⟩⟩
 obtain ⟨w,p1,hw⟩:=p1;have p2:=Sr [l,r] U (λi hi=>by
  match i,hi with
  |0,_=>rw [A7 U];show O l<=10000;omega
  |1,_=>rw [A7 U];show O r<=10000;omega) D
 have e2:[l,r].flatten=l++r:=U
 rw [e2] at p2;have hcl:=zk e;obtain ⟨ps,hps⟩:∃ps,l++r=ps:=⟨_,rfl⟩;have nL:O ps<=2000:=by rw [<- hps];simp;omega
 rw [hps] at p2 hc ⊢;unfold gw;obtain ⟨cs,hcs⟩:∃cs,eF e=cs:=⟨_,rfl⟩;rw [hcs] at hw hcl hc ⊢;have hnl:O cs<=1000:=V
 have run:∀w:c7,(w= .d (ints cs)\/(w= .own 1 0 []/\cs=[]))->Pf A 225 [cH e] w->Pf A 161 [cH e,.d (E4 l),.d (E4 r)] (.d (E4 (cs.map λx=>Y ps x.toNat))):=by
  rintro w (rfl|⟨rfl,rfl⟩) p1
  all_goals refine Pf.go 7 ?_
  .repeat' (first|refine cl (p2) ?_|refine clT p1 (h2:=?_)|refine gx ?_|fail)
   refine Ex.Y1 (λk T H=>∃(i:Nat) (acc:List C8) (w0 w1 w2 w3 w6:c7),T=[w0,w1,w2,w3,A8 2 E8 ps,A8 2 E8 acc,w6,.d (ints cs),.d (Z (O cs)),.d (Z i)]/\H=[]/\i+k=O cs/\acc=(cs.take i).map λx=>Y ps x.toNat) ?_ (k:=O cs) ⟨0,[],_,_,_,_,_,rfl,rfl,U,U⟩;rintro k _ _ ⟨i,acc,w0,w1,w2,w3,w6,rfl,rfl,hk,hacc⟩;have uj:O acc<=10000:=by rw [hacc];simp;omega
   refine Ex.nT ?_;refine Ex.seq ?_;refine tb (D0 i (O cs)) (λh2=>?_) (λh2=>?_)
   .have h3:=A5 h2
    have h4:=hc _ (E7 (l:=cs) (i:=i) V)
    repeat' (first|refine oN (enc:=E8) (Y ps (Y cs i).toNat) ?_|refine yY (ys:=[Y ps (Y cs i).toNat]) (h2:=?_)|refine gx ?_|fail)
    exact kk ⟨i+1,acc++[Y ps (Y cs i).toNat],_,_,_,_,_,rfl,rfl,V,by rw [hacc,D2 V];simp⟩
   .have h3:=A9 h2
    obtain rfl:i=O cs:=V
    refine gr ?_;exact ⟨_,rfl,by rw [hacc];simp [j4,E4,x3]⟩
  .repeat' (first|refine cl (p2) ?_|refine al3 p1 (h2:=?_)|refine au2 (h2:=?_)|refine gx ?_|fail)
   refine Ex.Y1 (λk T H=>∃(w0 w1 w2 w3 w4 w6 w7:c7),T=[w0,w1,w2,w3,w4,.own 2 0 [],w6,w7,.d (Z 0),.d (Z 0)]/\H=[]/\k=0) ?_ (k:=0) ⟨_,_,_,_,_,_,_,rfl,rfl,rfl⟩;rintro k _ _ ⟨w0,w1,w2,w3,w4,w6,w7,rfl,rfl,hk⟩;refine Ex.nT ?_;refine Ex.seq ?_;refine tb (D0 0 0) (λh2=>?_) (λh2=>?_)
   .have h3:=A5 h2
    omega
   .refine gr ?_
    exact ⟨_,rfl,by simp [j4,E4,x3]⟩
 rcases hw with rfl|⟨z,rfl,h⟩
 .exact run _ (.inl rfl) p1
 .have hz:cs=[]:=by
   cases cs with
   |nil=>rfl
   |cons a q=>simp [ints,x3] at h
  rcases hv with hv|rfl
  .exact run _ (.inl rfl) (by have:=Sw e he hv;rw [hcs] at this;exact this)
  .exact run _ (.inr ⟨rfl,hz⟩) (Nu [] U (by simp [U1,r7]))
def HC (c:p7)(fl:List D8):k8:=[.cells (c.enc.map .d),.cells [A8 5 D8.enc fl]]
def Sb:G9:=⟨0,0,2,2⟩
def qC (p:C8):c7:= .agg [.d (Z p.1),.d (Z p.2)]
def sY (ps:List C8)(to:C8)(d:Bool):List D8:=ps.map λp=>⟨p,to,d⟩
set_option maxHeartbeats 8000000 in
def Eh (c:p7)(fl:List D8)(ps:List C8)(to:C8)(d:Bool)(h:O fl+O ps<=1000000):Pm A 157 [.ptr 1 0,.d (E4 ps),qC to,.d (.bool d)] (HC c fl) Sb (.tuple []) (HC c (fl++sY ps to d)):=by
 have key:Pq A 157 [.ptr 1 0,.d (E4 ps),qC to,.d (.bool d)] (HC c fl) Sb λv H1=>v= .tuple []/\H1=HC c (fl++sY ps to d):=by
  refine Pq.go 5 ?_;unfold HC qC;refine gr ?_;refine Ex.L4 (λk T H=>∃i:Nat,T=[.ptr 1 0,.any,.any,.d (.bool d),.ptr 2 0,.any,.d (E4 ps),.d (Z (O ps)),.d (Z i)]/\H=[.cells (c.enc.map .d),.cells [A8 5 D8.enc (fl++sY (ps.take i) to d)],.cells [.d (Z to.1),.d (Z to.2)]]/\i+k=O ps) ?_ (k:=O ps) ⟨0,rfl,by simp [sY],U⟩;rintro k _ _ ⟨i,rfl,rfl,hk⟩;refine Ex.seq ?_;refine tb (D0 i (O ps)) (λh2=>?_) (λh2=>?_)
  .have h3:=A5 h2
   have h4:O (fl++sY (ps.take i) to d)<=1000000:=by simp [sY];omega
   have hr:roomFor (O (fl++sY (ps.take i) to d)+1) 40=W:=by simp only [roomFor,decide_eq_true_eq];omega
   have h5:sY (ps.take (i+1)) to d=sY (ps.take i) to d++[⟨Y ps i,to,d⟩]:=by
    unfold sY;rw [D2 V];simp
   repeat' (first|refine mJ (cs:=(D8.enc ⟨Y ps i,to,d⟩).map .d) ?_|refine oN (enc:=D8.enc) ⟨Y ps i,to,d⟩ ?_|refine Zy (enc:=D8.enc) (xs:=fl++sY (ps.take i) to d) ⟨Y ps i,to,d⟩ hr (h2:=?_)|refine Ce (h2:=?_)|refine gx ?_|fail)
   exact kk ⟨_,_,A6 (j5 rfl) (j5 rfl),i+1,rfl,by rw [h5,<- F5];rfl,V⟩
  .have h3:=A9 h2
   obtain rfl:i=O ps:=V
   refine gr ?_;exact ⟨_,_,rfl,rfl,by rw [D3];rfl⟩
 obtain ⟨v,H1,⟨rfl,rfl⟩,h⟩:=key;exact h
def kg (s p:Int):Nat->List D8
 |0=>[]
 |k+1=>kg s p k++(if !s7 k p then sY [(s,p)] (s,(k:Int)) F else [])
theorem qQ (s p:Int):∀k,O (kg s p k)<=k
 |0=>k9 _
 |k+1=>by
  have:=qQ s p k;simp only [kg,j9];split<;>simp [sY]<;>omega
def dZ (s:Int)(n:Nat)(qB:List Int):List D8:=qB.flatMap λp=>kg s p n
theorem mB (s:Int)(n:Nat):∀qB:List Int,O (dZ s n qB)<=O qB * n
 |[]=>by simp [dZ]
 |p::qB=>by
  have h1:=mB s n qB;have h2:=qQ s p n;simp only [dZ,List.flatMap_cons,j9,n9,Nat.add_mul,Nat.one_mul] at h1 ⊢;omega
set_option maxHeartbeats 8000000 in
def YJ (c:p7)(fl:List D8)(s:Int)(n:Nat)(qB:List Int)(hf:O fl<=100000)(hn:n<=100)(hp:O qB<=100) :
  Pm A 102 [.ptr 1 0,.d (Z s),.d (Z n),.d (ints qB)] (HC c fl) Sb (.tuple []) (HC c (fl++dZ s n qB)):=by
 have key:Pq A 102 [.ptr 1 0,.d (Z s),.d (Z n),.d (ints qB)] (HC c fl) Sb λv H1=>v= .tuple []/\H1=HC c (fl++dZ s n qB):=by
  refine Pq.go 7 ?_;refine gr ?_;refine Ex.Y1 (λk T H=>∃(i:Nat) (w3 w4 w5 w9 kr:c7),T=[.ptr 1 0,.d (Z s),.d (Z n),w3,w4,w5,.d (ints qB),.d (Z (O qB)),.d (Z i),w9,kr]/\H=HC c (fl++dZ s n (qB.take i))/\i+k=O qB) ?_ (k:=O qB) ⟨0,_,_,_,_,_,rfl,by simp [dZ],U⟩;rintro k _ _ ⟨i,w3,w4,w5,w9,kr,rfl,rfl,hk⟩;refine Ex.nT ?_;refine Ex.seq ?_;refine tb (D0 i (O qB)) (λh2=>?_) (λh2=>?_)
  .have h3:=A5 h2
   have h4:=mB s n (qB.take i);have h5:O (qB.take i) * n<=100 * 100:=Nat.mul_le_mul D hn;have h6:dZ s n (qB.take (i+1))=dZ s n (qB.take i)++kg s (Y qB i) n:=by
    unfold dZ;rw [D2 V];simp
   refine gr ?_;obtain ⟨p,hpe⟩:∃p,Y qB i=p:=⟨_,rfl⟩;rw [hpe] at h6 ⊢;refine Ex.Y1 (λk T H=>∃(j:Nat) (w3 w5:c7),T=[.ptr 1 0,.d (Z s),.d (Z n),w3,.d (Z p),w5,.d (ints qB),.d (Z (O qB)),.d (Z i),.d (Z n),.d (Z j)]/\H=HC c ((fl++dZ s n (qB.take i))++kg s p j)/\j+k=n) ?_ (k:=n) ⟨0,_,_,rfl,by simp [kg],U⟩;rintro m _ _ ⟨j,w3,w5,rfl,rfl,hm⟩;refine Ex.nT ?_;refine Ex.seq ?_;refine tl j n (λg3=>?_) (λg3=>?_)
   .have g4:=qQ s p j
    refine gr ?_;refine tb (!s7 j p) (λg5=>?_) (λg5=>?_)
    .have pa:=Eh c ((fl++dZ s n (qB.take i))++kg s p j) [(s,p)] (s,(j:Int)) F (by simp only [j9,E5];omega)
     repeat' (first|refine mJ (cs:=(E8 (s,p)).map .d) ?_|refine mJ (cs:=(E8 (s,(j:Int))).map .d) ?_|refine oN (enc:=E8) (s,p) ?_|refine c0 pa rfl (h2:=?_)|refine gx ?_|fail)
     exact ⟨m - 1,V,j+1,_,_,rfl,by simp only [kg,g5,if_true,F5];rfl,V⟩
    .refine gr ?_
     exact ⟨m - 1,V,j+1,_,_,rfl,by simp only [kg,g5,j6,if_false,List.append_nil],V⟩
   .obtain rfl:j=n:=V
    refine gr ?_;exact kk ⟨i+1,_,_,_,_,_,rfl,by rw [h6,F5],V⟩
  .have h3:=A9 h2
   obtain rfl:i=O qB:=V
   refine gr ?_;exact ⟨_,_,rfl,rfl,by rw [D3];rfl⟩
 obtain ⟨v,H1,⟨rfl,rfl⟩,h⟩:=key;exact h
def sC (s:Int)(l r:List C8):Nat->List D8
 |0=>[]
 |k+1=>sC s l r k++(sY [Y l k,Y r k] (s,(k:Int)) W++sY [Y l 0,Y r 0] (s,(k:Int)) F)
theorem xR (s:Int)(l r:List C8):∀k,O (sC s l r k)=4 * k
 |0=>rfl
 |k+1=>by
  have:=xR s l r k;simp only [sC,j9,sY,A3,n9,y4];omega
set_option maxHeartbeats 8000000 in
def YS (c:p7)(fl:List D8)(s:Int)(l r:List C8)(hf:O fl<=100000)(hl:O l<=100)(hr:O l<=O r) :
  Pm A 160 [.ptr 1 0,.d (Z s),.d (E4 l),.d (E4 r)] (HC c fl) Sb (.tuple []) (HC c (fl++sC s l r (O l))):=by
 have key:Pq A 160 [.ptr 1 0,.d (Z s),.d (E4 l),.d (E4 r)] (HC c fl) Sb λv H1=>v= .tuple []/\H1=HC c (fl++sC s l r (O l)):=by
  refine Pq.go 4 ?_;refine gr ?_;refine Ex.L4 (λk T H=>∃i:Nat,T=[.ptr 1 0,.d (Z s),.d (E4 l),.d (E4 r),.any,.any,.d (Z (O l)),.d (Z i)]/\H=HC c (fl++sC s l r i)/\i+k=O l) ?_ (k:=O l) ⟨0,rfl,by simp [sC],U⟩;rintro k _ _ ⟨i,rfl,rfl,hk⟩;have hul:=xR s l r i;refine Ex.seq ?_;refine tb (D0 i (O l)) (λh2=>?_) (λh2=>?_)
  .have h3:=A5 h2
   have p1:=Eh c (fl++sC s l r i) [Y l i,Y r i] (s,(i:Int)) W (by simp only [j9,n9,y4];omega);have p2:=Eh c ((fl++sC s l r i)++sY [Y l i,Y r i] (s,(i:Int)) W) [Y l 0,Y r 0] (s,(i:Int)) F (by simp only [j9,n9,y4,sY,A3];omega);unfold HC qC at *
   repeat' (first|refine mJ (cs:=(E8 (s,(i:Int))).map .d) ?_|refine Lg (E8 (Y l i)++E8 (Y r i)) ?_|refine c0 p1 rfl (h2:=?_)|refine Lg (E8 (Y l 0)++E8 (Y r 0)) ?_|refine c0 p2 rfl (h2:=?_)|refine Xo (h2:=?_)|refine gx ?_|fail)
   exact kk ⟨_,_,A6 (j5 rfl) (j5 rfl),i+1,rfl,by simp only [sC,<- F5];rfl,V⟩
  .have h3:=A9 h2
   obtain rfl:i=O l:=V
   refine gr ?_;exact ⟨_,_,rfl,rfl,rfl⟩
 obtain ⟨v,H1,⟨rfl,rfl⟩,h⟩:=key;exact h
structure Au (e:List Q9)(n:Nat):Prop where
 len:O e<=64
 ok:U1 e=W\/e=[]
 col:∀x,x∈eF e->0<=x/\x<n
def jE (v:Vw)(ps:List C8)(i:Nat):List (List C8):=(v.items.take i).map λx=>gw x.expr ps
def AV (v:Vw)(ps:List C8)(i:Nat):List (List C8):=(v.E3.take i).map λx=>gw x.expr ps
def pX (v:Vw)(ps:List C8):List (List C8):=jE v ps (O v.items)++AV v ps (O v.E3)
def Qy (v:Vw)(L R:List C8)(i:Nat):List C8:=(v.on.take i).flatMap λp=>[Y L p.1.toNat,Y R p.2.toNat]
def FE (v:Vw)(L R:List C8):List C8:=gw v.wh (L++R)++[Y L 0]++(if D0 0 (O R) then [Y R 0] else [])++Qy v L R (O v.on)++(if s7 v.kind 1||v.distinct then (jE v (L++R) (O v.items)).flatten else [])
def wU (s:Int)(ds:List (List C8))(cs:List C8):Nat->List D8
 |0=>[]
 |k+1=>wU s ds cs k++(sY (Y ds k) (s,(k:Int)) W++sY cs (s,(k:Int)) F)
def mG (s:Int)(v:Vw)(L R:List C8):List D8:=if s7 v.kind 2 then sC s L R (O L) else wU s (pX v (L++R)) (FE v L R) (O (pX v (L++R)))
structure KY (v:Vw)(L R:List C8):Prop where
 l0:0<O L
 l8:O L<=8
 r8:O R<=8
 o4:O v.items+O v.E3<=8
 XE:O v.on<=8
 on:∀i,i<O v.on->0<=(Y v.on i).1/\(Y v.on i).1<O L/\0<=(Y v.on i).2/\(Y v.on i).2<O R
 wh:Au v.wh (O (L++R))
 it:∀i,i<O v.items->Au (Y v.items i).expr (O (L++R))
 ag:∀i,i<O v.E3->Au (Y v.E3 i).expr (O (L++R))
 un:s7 v.kind 2=W->O L<=O R
def Bv (v:Vw)(L R:List C8)(i:Nat):O (Qy v L R i)<=2 * O v.on:=by
 have:∀l:List (Int×Int),O (l.flatMap λp=>[Y L p.1.toNat,Y R p.2.toNat])=2 * O l:=by
  intro l
  induction l with
  |nil=>rfl
  |cons a l ih=>grind
 grind [Qy,L1]
def oC {d9:List (List C8)}(h:∀d,d∈d9->O d<=64):O d9.flatten<=64 * O d9:=by
 induction d9 with
 |nil=>simp
 |cons a l ih =>
  grind
theorem wV (s:Int)(ds:List (List C8))(cs:List C8)(h:∀i,i<O ds->O (Y ds i)<=64):∀i,i<=O ds->O (wU s ds cs i)<=i * (64+O cs)
 |0,_=>by simp [wU]
 |k+1,hk=>by
  have h1:=wV s ds cs h k V
  grind [wU,j9,sY,A3,Nat.succ_mul]
def vM {v:Vw}{ps:List C8}(hi:∀i,i<O v.items->Au (Y v.items i).expr (O ps))(ha:∀i,i<O v.E3->Au (Y v.E3 i).expr (O ps)):∀d,d∈pX v ps->O d<=64:=by
 intro d hd;simp only [pX,jE,AV,G4,List.mem_map] at hd
 rcases hd with ⟨x,hx,rfl⟩|⟨x,hx,rfl⟩
 .obtain ⟨q,hq,rfl⟩:=E0 (List.mem_of_mem_take hx)
  have h1:=(hi q hq).len
  grind [A7,lM]
 .obtain ⟨q,hq,rfl⟩:=E0 (List.mem_of_mem_take hx)
  have h1:=(ha q hq).len
  grind [A7,lM]
set_option maxHeartbeats 32000000 in
def YK (c:p7)(fl:List D8)(v:Vw)(s:Int)(L R:List C8)(h:KY v L R)(hf:O fl<=100000)(pl:Pf A 159 [cat c,.d (.str v.left)] (.d (E4 L)))(pr:K7 v.right []=F->Pf A 159 [cat c,.d (.str v.right)] (.d (E4 R)))(RX:K7 v.right []=W->R=[]) :
  Pm A 104 [.ptr 1 0,cat c,.d (Z s),vw' v] (HC c fl) Sb (.tuple []) (HC c (fl++mG s v L R)):=by
 have key:Pq A 104 [.ptr 1 0,cat c,.d (Z s),vw' v] (HC c fl) Sb λr H1=>r= .tuple []/\H1=HC c (fl++mG s v L R):=by
  obtain ⟨l0,l8,r8,o4,XE,on,wh,it,ag,un⟩:=h;have hlr:O (L++R)<=16:=D
  have hb0:∀w7:c7,(w7= .d (E4 R)\/∃z,w7= .own z 0 []/\E4 R= .slice 0 [])->w7.H7=0:=by
   rintro _ (rfl|⟨_,rfl,_⟩)<;>rfl
  refine Pq.go 28 ?_;unfold HC;refine gc pl ?_;refine Ex.xG (λst=>∃w7:c7,(w7= .d (E4 R)\/∃z,w7= .own z 0 []/\E4 R= .slice 0 [])/\st=⟨[.ptr 1 0,cat c,.d (Z s),vw' v,.ptr 2 0,.ptr 3 0,.d (E4 L),w7,.any,.any,.any,.any,.any,.any,.any,.any,.any,.any,.any,.any,.any,.any,.any,.any,.any,.any,.any,.any,.any,.any,.any,.any],[.cells (c.enc.map .d),.cells [A8 5 D8.enc fl],.cells (c.enc.map .d),.cells (v.enc.map .d)]⟩) ?_ ?_
  .skip
   refine tb (!K7 v.right []) (λh=>?_) (λh=>?_)
   .have pr:=pr (by simpa using h)
    refine gc pr ?_;exact ⟨_,.inl rfl,rfl⟩
   .refine gr ?_
    exact ⟨_,.inr ⟨2,rfl,by rw [RX (by simpa using h)];rfl⟩,rfl⟩
  rintro _ ⟨w7,Mu,rfl⟩;refine gr ?_;refine tb (s7 v.kind 2) (λhk=>?_) (λhk=>?_)
  .have p:=YS c fl s L R hf V (un hk)
   unfold HC at p
   repeat' (first|refine Ug Mu ?_|refine c0 p rfl (h2:=?_)|refine gx ?_|fail)
   exact ⟨_,_,rfl,rfl,by rw [mG,hk];rfl⟩
  refine gr ?_;refine Ex.L4 (λk T H=>∃i:Nat,T=[.ptr 1 0,.any,.d (Z s),.any,.any,.ptr 3 0,.d (E4 L),w7,A8 1 iU (jE v (L++R) i),.any,.any,.any,.any,.any,.any,.any,.any,.d (x3 uB.enc v.items),.d (Z (O v.items)),.d (Z i),.any,.any,.any,.any,.any,.any,.any,.any,.any,.any,.any,.any]/\H=[.cells (c.enc.map .d),.cells [A8 5 D8.enc fl],.cells (c.enc.map .d),.cells (v.enc.map .d)]/\i+k=O v.items) ?_ (k:=O v.items) ⟨0,rfl,rfl,U⟩;rintro k _ _ ⟨i,rfl,rfl,hk1⟩;have hdl:O (jE v (L++R) i)<=8:=by simp [jE];omega
  refine Ex.seq ?_;refine tb (D0 i (O v.items)) (λh2=>?_) (λh2=>?_)
  .have h3:=A5 h2
   obtain ⟨e1,e2,e3⟩:=it i V;have p1:=Nr (Y v.items i).expr L R V e2 V V l0 e3;have e4:jE v (L++R) (i+1)=jE v (L++R) i++[gw (Y v.items i).expr (L++R)]:=by
    unfold jE;rw [D2 V];simp
   repeat' (first|refine Ug Mu ?_|refine mN p1 ?_|refine gx ?_|fail)
   exact kk ⟨_,_,A6 (by rcases Mu with rfl|⟨_,rfl,_⟩<;>exact j5 rfl) (j5 rfl),i+1,by rw [e4];rfl,rfl,V⟩
  have h3:=A9 h2;obtain rfl:i=O v.items:=V
  have pw:=Nr v.wh L R (by have:=wh.len;omega) wh.ok V V l0 wh.col;have Fg:=lM v.wh (L++R);have bb5:=wh.len;have Jr:L.take 1=[Y L 0]:=by
   cases L with
   |nil=>simp at l0
   |cons a q=>simp [Y]
  have pc:=Sr [gw v.wh (L++R),L.take 1] U (λi hi=>by
   match i,hi with
   |0,_=>rw [A7 U];show O (gw v.wh (L++R))<=10000;omega
   |1,_=>rw [A7 U];show O (L.take 1)<=10000;simp;omega) D
  have et:[gw v.wh (L++R),L.take 1].flatten=gw v.wh (L++R)++[Y L 0]:=by simp [Jr]
  rw [et] at pc;obtain ⟨C0,Wr⟩:∃C0,gw v.wh (L++R)++[Y L 0]=C0:=⟨_,rfl⟩;have aX1:O C0<=65:=by rw [<- Wr];simp;omega
  rw [Wr] at pc;obtain ⟨d9,hD⟩:∃d9,jE v (L++R) (O v.items)=d9:=⟨_,rfl⟩;have hDl:O d9=O v.items:=by rw [<- hD];simp [jE]
  have Tn:∀d,d∈d9->O d<=64:=by
   intro d hd;rw [<- hD] at hd;simp only [jE,List.mem_map] at hd;obtain ⟨x,hx,rfl⟩:=hd;obtain ⟨q,hq,rfl⟩:=E0 (List.mem_of_mem_take hx);have h1:=(it q hq).len;rw [A7 hq] at h1;have:=lM v.items[q].expr (L++R);omega
  rw [hD] at hdl ⊢
  repeat' (first|refine Ug Mu ?_|refine mN pw ?_|refine cl (pc) ?_|refine gx ?_|fail)
  refine Ex.xG (λst=>st=⟨[.ptr 1 0,.any,.d (Z s),.any,.any,.ptr 3 0,.d (E4 L),w7,A8 1 iU d9,.any,A8 2 E8 (C0++(if D0 0 (O R) then [Y R 0] else [])),.any,.any,.any,.any,.any,.any,.d (x3 uB.enc v.items),.d (Z (O v.items)),.d (Z (O v.items)),.any,.any,.any,.any,.any,.any,.any,.any,.any,.any,.any,.any],[.cells (c.enc.map .d),.cells [A8 5 D8.enc fl],.cells (c.enc.map .d),.cells (v.enc.map .d)]⟩) ?_ ?_
  .skip
   refine tB (D0 0 (O R)) ?_ (λh=>?_) (λh=>?_)
   .repeat' (first|refine Ug Mu ?_|refine gx ?_|refine fq (λhw=>?_) λhw=>?_|refine ⟨rfl,rfl,_,rfl,?_⟩|refine ⟨rfl,rfl⟩|fail)
    all_goals exact cc
   .have h3:=A5 h
    have h4:0<O R:=V
    rw [h];simp only [if_true]
    repeat' (first|refine Ug Mu ?_|refine oN (enc:=E8) (Y R 0) ?_|refine yY (ys:=[Y R 0]) (h2:=?_)|refine gx ?_|fail)
    exact rfl
   .rw [h]
    simp only [j6,if_false,List.append_nil];refine gr ?_;exact rfl
  rintro _ rfl;obtain ⟨C1,hC1⟩:∃C1,C0++(if D0 0 (O R) then [Y R 0] else [])=C1:=⟨_,rfl⟩;have aX2:O C1<=66:=by rw [<- hC1];split<;>simp<;>omega
  rw [hC1];refine gr ?_;refine Ex.L4 (λk T H=>∃(i:Nat) (acc:List C8),T=[.ptr 1 0,.any,.d (Z s),.any,.any,.ptr 3 0,.d (E4 L),w7,A8 1 iU d9,.any,A8 2 E8 acc,.any,.any,.any,.any,.any,.any,.any,.any,.any,.d (x3 (λp=>[Z p.1,Z p.2]) v.on),.d (Z (O v.on)),.d (Z i),.any,.any,.any,.any,.any,.any,.any,.any,.any]/\H=[.cells (c.enc.map .d),.cells [A8 5 D8.enc fl],.cells (c.enc.map .d),.cells (v.enc.map .d)]/\i+k=O v.on/\acc=C1++Qy v L R i) ?_ (k:=O v.on) ⟨0,C1,rfl,rfl,U,by simp [Qy]⟩;rintro k _ _ ⟨i,acc,rfl,rfl,hk2,hacc⟩;refine Ex.seq ?_;refine tb (D0 i (O v.on)) (λh2=>?_) (λh2=>?_)
  .have h3:=A5 h2
   obtain ⟨q1,q2,q3,q4⟩:=on i V;have Vs:=Bv v L R i;have uj:O acc<=82:=by rw [hacc,j9];omega
   repeat' (first|refine Ug Mu ?_|refine Lg (E8 (Y L (Y v.on i).1.toNat)++E8 (Y R (Y v.on i).2.toNat)) ?_|refine yY (ys:=[Y L (Y v.on i).1.toNat,Y R (Y v.on i).2.toNat]) (h2:=?_)|refine gx ?_|fail)
   exact kk ⟨_,_,A6 (by rcases Mu with rfl|⟨_,rfl,_⟩<;>exact j5 rfl) (j5 rfl),i+1,_,rfl,rfl,V,by rw [hacc];unfold Qy;rw [D2 V];simp⟩
  have h3:=A9 h2;obtain rfl:i=O v.on:=V
  obtain ⟨C2,RH⟩:∃C2,C1++Qy v L R (O v.on)=C2:=⟨_,rfl⟩;have aZ5:=Bv v L R (O v.on);have aX3:O C2<=82:=by rw [<- RH];simp only [j9];omega
  rw [RH] at hacc;rw [hacc];clear hacc acc;refine gr ?_;refine Ex.xG (λst=>∃VK VL VM VN w24 w25:c7,(VK.H7=0/\VL.H7=0/\VM.H7=0/\VN.H7=0/\w24.H7=0/\w25.H7=0)/\st=⟨[.ptr 1 0,.any,.d (Z s),.any,.any,.ptr 3 0,.d (E4 L),w7,A8 1 iU d9,.any,A8 2 E8 (C2++(if s7 v.kind 1||v.distinct then d9.flatten else [])),.any,.any,.any,.any,.any,.any,.any,.any,.any,VK,VL,VM,VN,w24,w25,.any,.any,.any,.any,.any,.any],[.cells (c.enc.map .d),.cells [A8 5 D8.enc fl],.cells (c.enc.map .d),.cells (v.enc.map .d)]⟩) ?_ ?_
  .skip
   refine tb ((s7 v.kind 1||v.distinct)) (λh=>?_) (λh=>?_)
   .repeat' (first|refine moT (h2:=?_)|refine gx ?_|fail)
    refine Ex.L4 (λk T H=>∃(i:Nat) (acc:List C8),T=[.ptr 1 0,.any,.d (Z s),.any,.any,.ptr 3 0,.d (E4 L),w7,A8 1 iU d9,.any,A8 2 E8 acc,.any,.any,.any,.any,.any,.any,.any,.any,.any,.any,.any,.any,.d (x3 iU d9),.d (Z (O d9)),.d (Z i),.any,.any,.any,.any,.any,.any]/\H=[.cells (c.enc.map .d),.cells [A8 5 D8.enc fl],.cells (c.enc.map .d),.cells (v.enc.map .d)]/\i+k=O d9/\acc=C2++(d9.take i).flatten) ?_ (k:=O d9) ⟨0,C2,rfl,rfl,U,U⟩;rintro k _ _ ⟨i,acc,rfl,rfl,hk3,hacc⟩;refine Ex.seq ?_;refine tb (D0 i (O d9)) (λh2=>?_) (λh2=>?_)
    .have h3:=A5 h2
     have h4:=Tn (Y d9 i) (E7 V);have h5:=oC (d9:=d9.take i) λd hd=>Tn d (List.mem_of_mem_take hd)
     have h6:O (d9.take i)<=8:=by rw [L1];omega
     have uj:O acc<=600:=by rw [hacc,j9];omega
     refine gr ?_;exact kk ⟨_,_,A6 (by rcases Mu with rfl|⟨_,rfl,_⟩<;>exact j5 rfl) (j5 rfl),i+1,acc++Y d9 i,rfl,rfl,V,by rw [hacc,D2 V];simp⟩
    have h3:=A9 h2;obtain rfl:i=O d9:=V
    have ha:acc=C2++(if s7 v.kind 1||v.distinct then d9.flatten else []):=by rw [hacc,h];simp
    rw [<- ha];refine gr ?_;exact ⟨.any,.any,.any,.d (x3 iU d9),.d (Z (O d9)),.d (Z (O d9)),⟨rfl,rfl,rfl,rfl,rfl,rfl⟩,rfl⟩
   .rw [h]
    simp only [j6,if_false,List.append_nil];refine gr ?_;exact ⟨.d (x3 (λp=>[Z p.1,Z p.2]) v.on),.d (Z (O v.on)),.d (Z (O v.on)),.any,.any,.any,⟨rfl,rfl,rfl,rfl,rfl,rfl⟩,rfl⟩
  rintro _ ⟨VK,VL,VM,VN,w24,w25,hb,rfl⟩;obtain ⟨C3,hC3⟩:∃C3,C2++(if s7 v.kind 1||v.distinct then d9.flatten else [])=C3:=⟨_,rfl⟩;have aX4:O C3<=600:=by
   have:=oC Tn;rw [<- hC3];simp only [j9];split<;>(try simp only [y4])<;>omega
  rw [hC3];refine gr ?_;refine Ex.L4 (λk T H=>∃(i:Nat) (acc:List (List C8)),T=[.ptr 1 0,.any,.d (Z s),.any,.any,.any,.d (E4 L),w7,A8 1 iU acc,.any,A8 2 E8 C3,.any,.any,.any,.any,.any,.any,.any,.any,.any,.any,.any,.any,.any,.any,.any,.d (x3 uc.enc v.E3),.d (Z (O v.E3)),.d (Z i),.any,.any,.any]/\H=[.cells (c.enc.map .d),.cells [A8 5 D8.enc fl],.cells (c.enc.map .d),.cells (v.enc.map .d)]/\i+k=O v.E3/\acc=d9++AV v (L++R) i) ?_ (k:=O v.E3) ⟨0,d9,rfl,rfl,U,by simp [AV]⟩;rintro k _ _ ⟨i,acc,rfl,rfl,hk4,hacc⟩;have uj:O acc<=8:=by rw [hacc];simp [AV];omega
  refine Ex.seq ?_;refine tb (D0 i (O v.E3)) (λh2=>?_) (λh2=>?_)
  .have h3:=A5 h2
   obtain ⟨e1,e2,e3⟩:=ag i V;have p1:=Nr (Y v.E3 i).expr L R V e2 V V l0 e3
   repeat' (first|refine Ug Mu ?_|refine mN p1 ?_|refine gx ?_|fail)
   exact kk ⟨_,_,A6 (by rcases Mu with rfl|⟨_,rfl,_⟩<;>exact j5 rfl) (j5 rfl),i+1,acc++[gw (Y v.E3 i).expr (L++R)],rfl,rfl,V,by rw [hacc];unfold AV;rw [D2 V];simp⟩
  have h3:=A9 h2;obtain rfl:i=O v.E3:=V
  obtain ⟨DV,hDV⟩:∃DV,pX v (L++R)=DV:=⟨_,rfl⟩;have hacc:acc=DV:=by rw [hacc,<- hDV,<- hD];rfl
  subst hacc;have TA:∀i,i<O acc->O (Y acc i)<=64:=by
   intro i hi;refine vM it ag _ ?_;rw [hDV];exact E7 hi
  have rM:mG s v L R=wU s acc C3 (O acc):=by
   unfold mG;rw [hk,hDV,<- hC3,<- RH,<- hC1,<- Wr,<- hD];rfl
  rw [rM]
  repeat' (first|refine moT (h2:=?_)|refine gx ?_|fail)
  refine Ex.L4 (λk T H=>∃(i:Nat) (fs:List D8),T=[.ptr 1 0,.any,.d (Z s),.any,.any,.any,.any,.any,.any,.any,A8 2 E8 C3,.any,.any,.any,.any,.any,.any,.any,.any,.any,.any,.any,.any,.any,.any,.any,.any,.any,.any,.d (x3 iU acc),.d (Z (O acc)),.d (Z i)]/\H=[.cells (c.enc.map .d),.cells [A8 5 D8.enc fs],.cells (c.enc.map .d),.cells (v.enc.map .d)]/\i+k=O acc/\fs=fl++wU s acc C3 i) ?_ (k:=O acc) ⟨0,fl,rfl,rfl,U,by simp [wU]⟩;rintro k _ _ ⟨i,fs,rfl,rfl,hk5,BY⟩;refine Ex.seq ?_;refine tb (D0 i (O acc)) (λh2=>?_) (λh2=>?_)
  .have h3:=A5 h2
   have Vs:=wV s acc C3 TA i V;have p1:=Eh c fs (Y acc i) (s,(i:Int)) W (by have:=TA i V;rw [BY];simp only [j9];have:i * (64+O C3)<=8 * (64+O C3):=F8 _ V;omega);have p2:=Eh c (fs++sY (Y acc i) (s,(i:Int)) W) C3 (s,(i:Int)) F (by have:=TA i V;rw [BY];simp only [j9,sY,A3];have:i * (64+O C3)<=8 * (64+O C3):=F8 _ V;omega);unfold HC qC at *
   repeat' (first|refine mJ (cs:=(E8 (s,(i:Int))).map .d) ?_|refine c0 p1 rfl (h2:=?_)|refine c0 p2 rfl (h2:=?_)|refine gx ?_|fail)
   exact kk ⟨_,_,A6 (j5 rfl) (j5 rfl),i+1,_,rfl,rfl,V,by rw [BY];simp only [wU,F5]⟩
  have h3:=A9 h2;obtain rfl:i=O acc:=V
  refine gr ?_;exact ⟨_,_,rfl,rfl,by rw [BY];rfl⟩
 obtain ⟨r,H1,⟨rfl,rfl⟩,h⟩:=key;exact h
def Wm (f:D8):c7:= .agg (f.enc.map .d)
def mh (a b:D8):Bool:=(a.src.1==b.src.1&&(a.src.2==b.src.2&&W))&&(a.dst.1==b.dst.1&&(a.dst.2==b.dst.2&&W))
set_option maxHeartbeats 8000000 in
def Sf (a b:D8):Pf A 167 [Wm a,Wm b] (.d (.bool (mh a b))):=by
 refine Pf.go 3 ?_;simp only [Wm,D8.enc,G7,List.map_nil]
 repeat' (first|refine Il rfl rfl ?_|refine gy ?_|refine fq (λhw=>?_) λhw=>?_|refine ⟨_,rfl,?_⟩|fail)
 .simp at hw
  simp [j4,mh,hw]
 .simp at hw
  simp [j4,mh];intro h1 h2;exact absurd h2 (hw h1)
def Ke (a b:D8):mh a b=W↔a.src=b.src/\a.dst=b.dst:=by
 obtain ⟨⟨a1,a2⟩,⟨a3,a4⟩,a5⟩:=a;obtain ⟨⟨b1,b2⟩,⟨b3,b4⟩,b5⟩:=b;simp [mh]
def aL (xs:List D8):Nat->List D8
 |0=>[]
 |k+1=>aL xs k++(if decide (0<k)&&mh (Y xs k) (Y xs (k - 1)) then [] else [Y xs k])
def O8 (l:List D8):List c7:=(l.flatMap D8.enc).map .d
theorem AF:∀l:List z6.Data,A2 (l.map .d)=0
 |[]=>rfl
 |a::l=>by simp [A2,c7.H7,AF l]
def IS {o0 o1:x6}(h0:o0.H7<=3)(h1:o1.H7<=3)(ys:List D8)(st:Nat):C9 (([o0,o1,.cells (O8 ys)].take 3).drop st)<=3:=by
 have h2:(x6.cells (O8 ys)).H7<=3:=by simp only [x6.H7,O8,AF];omega
 match st with
 |0=>simp [C9];omega
 |1=>simp [C9];omega
 |2=>simp [C9];omega
 |_+3=>simp [C9]
def zF:List c7:=[.d (Z 0),.d (Z 0),.d (Z 0),.d (Z 0),.d (.bool F)]
theorem OF:∀n:Nat,O ((c8 n zF).flatten)=n * 5
 |0=>rfl
 |n+1=>by
  have:=OF n;rw [M0,List.flatten_cons,j9,this];simp [zF];omega
def Va (o0 o1:x6)(acc rest:List D8):wr [o0,o1,.cells (O8 (acc++rest))] 2 (0+O acc * 5) ((c8 (O rest) zF).flatten)=J [o0,o1,.cells (O8 acc++(c8 (O rest) zF).flatten)]:=by
 have l1:∀l:List D8,O (O8 l)=O l * 5:=λl=>by rw [O8,A3,W4 (sz:=5) (λ_=>rfl)]
 have e:O8 (acc++rest)=O8 acc++O8 rest:=by simp [O8]
 have hz:=OF (O rest);simp only [wr,List.getElem?_cons_succ,List.getElem?_cons_zero,splice,e,Nat.zero_add];rw [if_pos (by simp only [j9,l1,hz];omega),<- l1 acc,List.take_left,n5 (by simp only [j9,l1,hz];omega)];simp
def MZ {acc xs:List D8}{q:Nat}(h1:O acc<=q)(h2:q<O xs):Y (acc++xs.drop (O acc)) q=Y xs q:=by
 rw [A7 D,A7 h2,List.getElem_append_right h1,List.getElem_drop];have:O acc+(q - O acc)=q:=V
 simp [this]
set_option maxHeartbeats 16000000 in
def YU (o0 o1:x6)(h0:o0.H7<=3)(h1:o1.H7<=3)(st:Nat)(xs:List D8)(hn:O xs<=1000000)(hp:0<O xs) :
  ∃zs,Pm A 166 [.s5 2 5 0 (O xs),.func 167 [] []] [o0,o1,.cells (O8 xs)] ⟨0,0,3,st⟩ (.s5 2 5 0 (O (aL xs (O xs)))) [o0,o1,.cells (O8 (aL xs (O xs))++zs)]:=by
 have key:Pq A 166 [.s5 2 5 0 (O xs),.func 167 [] []] [o0,o1,.cells (O8 xs)] ⟨0,0,3,st⟩ λr H1=>∃zs,r= .s5 2 5 0 (O (aL xs (O xs)))/\H1=[o0,o1,.cells (O8 (aL xs (O xs))++zs)]:=by
  have PM:∀ys:List D8,C9 (([o0,o1,.cells (O8 ys)].take 3).drop st)<=3:=λys=>IS h0 h1 ys st
  refine Pq.go 4 ?_;refine gr ?_;refine tB (D0 (O xs) 2) ?_ (λh=>?_) (λh=>?_)
  .repeat' (first|refine Uc ?_|refine gx ?_|refine fq (λhw=>?_) λhw=>?_|refine ⟨rfl,rfl,_,rfl,?_⟩|refine ⟨rfl,rfl⟩|fail)
   all_goals exact cc
  .have h3:=A5 h
   refine gr ?_;have e:aL xs (O xs)=xs:=by
    match xs,hp,h3 with
    |[x],_,_=>simp [aL,Y]
    |_::_::_,_,h=>simp at h;omega
   exact ⟨_,_,rfl,[],by rw [e],by rw [e];simp [O8]⟩
  have h3:=A9 h;have i0:aL xs 1=xs.take 1:=by
   match xs,hp with
   |x::_,_=>simp [aL,Y]
  refine gr ?_;refine Ex.L4 (λk T H=>∃i:Nat,T=[.s5 2 5 0 (O xs),.func 167 [] [],.any,.d (Z i),.any,.any]/\H=[o0,o1,.cells (O8 xs)]/\i+k=O xs/\0<i/\aL xs i=xs.take i) ?_ (k:=O xs - 1) ⟨1,rfl,rfl,V,V,i0⟩;rintro k _ _ ⟨i,rfl,rfl,hk,hi,hc⟩;refine Ex.seq ?_;refine tB (D0 i (O xs)) ?_ (λh2=>?_) (λh2=>?_)
  .repeat' (first|refine Uc ?_|refine gx ?_|refine fq (λhw=>?_) λhw=>?_|refine ⟨rfl,rfl,_,rfl,?_⟩|refine ⟨rfl,rfl⟩|fail)
   all_goals exact cc
  .have h4:=A5 h2
   have r1:rd [o0,o1,.cells (O8 xs)] 2 (0+i * 5) 5=J ((Y xs i).enc.map .d):=Gx (enc:=D8.enc) (λ_=>rfl) rfl V;have r2:rd [o0,o1,.cells (O8 xs)] 2 (0+((i:Int) - 1).toNat * 5) 5=J ((Y xs (i - 1)).enc.map .d):=by
    rw [show ((i:Int) - 1).toNat=i - 1 by omega];exact Gx (enc:=D8.enc) (λ_=>rfl) rfl V
   refine gr ?_;have xZ:i<O xs:=V
   have hio:0<=(i:Int) - 1/\(i:Int) - 1<O xs:=V
   refine tB (mh (Y xs i) (Y xs (i - 1))) ?_ (λh5=>?_) (λh5=>?_)
   .repeat' (first|refine Il r1 rfl ?_|refine Il r2 rfl ?_|refine Tc (Sf _ _) ?_|refine ixs xZ ?_|refine KN hio ?_|refine gx ?_|refine fq (λhw=>?_) λhw=>?_|refine ⟨rfl,rfl,_,rfl,?_⟩|refine ⟨rfl,rfl⟩|fail)
    exact rfl
   .repeat' (first|refine svr xZ ?_|refine gx ?_|fail)
    have hli:O (xs.take i)=i:=by rw [L1];omega
    have hc1:aL xs (i+1)=xs.take i:=by rw [aL,hc,h5];simp [hi]
    refine Ex.L4 (λk2 T H=>∃(j:Nat) (acc:List D8),T=[.s5 2 5 0 (O xs),.func 167 [] [],.any,.d (Z (O acc)),.s5 2 5 (0+i * 5) (O xs - i),.d (Z j)]/\H=[o0,o1,.cells (O8 (acc++xs.drop (O acc)))]/\i+j+k2=O xs/\0<j/\O acc+1<=i+j/\0<O acc/\acc=aL xs (i+j)) ?_ (k:=O xs - i - 1) ⟨1,xs.take i,by rw [hli];rfl,by rw [hli,List.take_append_drop],V,V,V,V,hc1.symm⟩;rintro k2 _ _ ⟨j,acc,rfl,rfl,hk2,hj,aW3,an4,hacc⟩;refine Ex.seq ?_;have X0:O acc<O xs:=V
    have hdr:=C5 X0;refine tB (D0 j (O xs - i:Nat)) ?_ (λh6=>?_) (λh6=>?_)
    .repeat' (first|refine Uc ?_|refine gx ?_|refine fq (λhw=>?_) λhw=>?_|refine ⟨rfl,rfl,_,rfl,?_⟩|refine ⟨rfl,rfl⟩|fail)
     all_goals exact cc
    .have h7:=A5 h6
     have hjl:j<O xs - i:=V
     have hjo:0<=(j:Int) - 1/\(j:Int) - 1<((O xs - i:Nat):Int):=V
     have hx:∀q,O acc<=q->q<O xs->rd [o0,o1,.cells (O8 (acc++xs.drop (O acc)))] 2 (0+q * 5) 5=J ((Y xs q).enc.map .d):=by
      intro q h1 h2;rw [<- MZ h1 h2];exact Gx (enc:=D8.enc) (λ_=>rfl) rfl D
     have r3:=hx (i+j) V V;rw [show 0+(i+j) * 5=0+i * 5+j * 5 by omega] at r3;have r4:=hx (i+j - 1) V V;rw [show 0+(i+j - 1) * 5=0+i * 5+((j:Int) - 1).toNat * 5 by omega] at r4;refine gr ?_;refine tB (!mh (Y xs (i+j)) (Y xs (i+j - 1))) ?_ (λh8=>?_) (λh8=>?_)
     .repeat' (first|refine Il r3 rfl ?_|refine Il r4 rfl ?_|refine Tc (Sf _ _) ?_|refine ixs hjl ?_|refine KN hjo ?_|refine gx ?_|refine fq (λhw=>?_) λhw=>?_|refine ⟨rfl,rfl,_,rfl,?_⟩|refine ⟨rfl,rfl⟩|fail)
      exact rfl
     .have w1:wr [o0,o1,.cells (O8 (acc++xs.drop (O acc)))] 2 (0+O acc * 5) ((Y xs (i+j)).enc.map .d)=J [o0,o1,.cells (O8 (acc++Y xs (i+j)::xs.drop (O acc+1)))]:=by
       rw [hdr];exact GO (enc:=D8.enc) (λ_=>rfl) rfl _
      have hb0:A2 ((Y xs (i+j)).enc.map .d)<=2+1:=by rw [AF];omega
      repeat' (first|refine Il r3 rfl ?_|refine ixs hjl ?_|refine ixs X0 ?_|refine jv rfl ⟨rfl,rfl⟩ rfl rfl rfl hb0 w1 ?_|refine gx ?_|fail)
      have Jr:O (acc++[Y xs (i+j)])=O acc+1:=U
      exact ⟨k2 - 1,V,_,_,A6 (j5 rfl) (PM _),j+1,acc++[Y xs (i+j)],by rw [Jr];rfl,by rw [Jr,F5];rfl,V,V,V,V,by rw [<- M6,aL,<- hacc];simp at h8;rw [h8];simp⟩
     .refine gr ?_
      exact ⟨k2 - 1,V,_,_,A6 (j5 rfl) (PM _),j+1,acc,rfl,rfl,V,V,V,V,by rw [<- M6,aL,<- hacc];simp at h8;rw [h8];simp;omega⟩
    .have h7:=A9 h6
     have hij:i+j=O xs:=V
     rw [hij] at hacc;rw [<- hacc];have w2:=Va o0 o1 acc (xs.drop (O acc));rw [List.length_drop] at w2
     repeat' (first|refine svr X0 ?_|refine clS w2 ?_|refine svf (Nat.le_of_lt X0) an4 ?_|refine gx ?_|fail)
     exact ⟨_,_,rfl,_,rfl,rfl⟩
   .refine gr ?_
    exact kk ⟨_,_,A6 (j5 rfl) (PM _),i+1,rfl,rfl,V,V,by rw [aL,hc,h5,D2 xZ];simp⟩
  .have h4:=A9 h2
   obtain rfl:i=O xs:=V
   rw [hc,D3];refine gr ?_;exact ⟨_,_,rfl,[],rfl,U⟩
 obtain ⟨r,H1,⟨zs,rfl,rfl⟩,h⟩:=key;exact ⟨zs,h⟩
theorem we:∀l:List D8,oD (l.flatMap D8.enc)=J l
 |[]=>rfl
 |f::l=>by
  show oD ([Z f.src.1,Z f.src.2,Z f.dst.1,Z f.dst.2,.bool f.dat]++l.flatMap D8.enc)=_
  simp only [x4,y5,Z,oD,we l]
def YT (o0 o1:x6)(fl:List D8)(hn:O fl<=1000000)(l:G9)(hm:l.may 2=W):Pm A 163 [.s5 2 5 0 (O fl),.func 164 [] []] [o0,o1,.cells (O8 fl)] l (.tuple []) [o0,o1,.cells (O8 (Y4 fl))]:=by
 refine ⟨1,λk hk=>?_⟩;obtain ⟨k,rfl⟩:∃j,k=j+1:=⟨k - 1,V⟩;have h1:A.bw 163=J (si 164):=rfl;have l1:∀q:List D8,O (O8 q)=O q * 5:=λl=>by rw [O8,A3,W4 (sz:=5) (λ_=>rfl)]
 have e1:rd [o0,o1,.cells (O8 fl)] 2 0 (O fl * 5)=J (O8 fl):=by
  simp only [rd,List.getElem?_cons_succ,List.getElem?_cons_zero,l1,Nat.zero_add,k9,if_true,List.drop_zero];rw [s9 (by rw [l1];exact k9 _)]
 have e2:J3 (O8 fl)=J (fl.flatMap D8.enc):=cg _;have e3:wr [o0,o1,.cells (O8 fl)] 2 0 (O8 (Y4 fl))=J [o0,o1,.cells (O8 (Y4 fl))]:=by
  simp only [wr,List.getElem?_cons_succ,List.getElem?_cons_zero,l1,mY,Nat.zero_add,k9,if_true,splice,List.take_zero,y5];rw [n5 (by rw [l1];exact k9 _),List.append_nil];rfl
 simp only [call,h1,si,hm,hn,and_self,if_true,e1,e2,we];show (match wr [o0,o1,.cells (O8 fl)] 2 0 (O8 (Y4 fl)) with|some H1=>J (c7.tuple [],H1)|none=>K)=_
 rw [e3]
def Wc {o0 o1:x6}(h0:o0.H7<=3)(h1:o1.H7<=3)(ys:List D8)(st:Nat):D7 [o0,o1,.cells (O8 ys)] st 8 3=3:=by
 have:=IS h0 h1 ys st;show D7 _ st (7+1) 3=3
 rw [D7];split
 .rfl
 .exact if_pos (Nat.max_eq_left this)
set_option maxHeartbeats 16000000 in
def YL (o0:x6)(h0:o0.H7<=3)(st:Nat)(fl:List D8)(hn:O fl<=1000000)(hp:0<O fl) :
  ∃zs,Pm A 105 [.ptr 1 0] [o0,.cells [.s5 2 5 0 (O fl)],.cells (O8 fl)] ⟨0,0,3,st⟩ (.s5 2 5 0 (O (aL (Y4 fl) (O fl)))) [o0,.cells [.s5 2 5 0 (O fl)],.cells (O8 (aL (Y4 fl) (O fl))++zs)]:=by
 have h1:(x6.cells [.s5 2 5 0 (O fl)]).H7<=3:=k9 _;have oF:=mY fl;have key:Pq A 105 [.ptr 1 0] [o0,.cells [.s5 2 5 0 (O fl)],.cells (O8 fl)] ⟨0,0,3,st⟩ λr H1=>∃zs,r= .s5 2 5 0 (O (aL (Y4 fl) (O fl)))/\H1=[o0,.cells [.s5 2 5 0 (O fl)],.cells (O8 (aL (Y4 fl) (O fl))++zs)]:=by
  refine Pq.go 1 ?_;have p1:=YT o0 (.cells [.s5 2 5 0 (O fl)]) fl hn;obtain ⟨zs,p2⟩:=YU o0 (.cells [.s5 2 5 0 (O fl)]) h0 h1 (B1 [o0,.cells [.s5 2 5 0 (O fl)],.cells (O8 (Y4 fl))] st 3) (Y4 fl) V V;rw [oF] at p2
  repeat' (first|refine c0 (fe:=IS h0 h1 _ _) (hcl:=Wc h0 h1 _ _) (p1 _ rfl) rfl (h2:=?_)|refine c0 (fe:=IS h0 h1 _ _) (hcl:=Wc h0 h1 _ _) p2 rfl (h2:=?_)|refine gx ?_|fail)
  exact ⟨_,_,rfl,zs,rfl,rfl⟩
 obtain ⟨r,H1,⟨zs,rfl,rfl⟩,h⟩:=key;exact ⟨zs,h⟩
def iG (c:p7):Nat->List D8
 |0=>[]
 |i+1=>iG c i++(if s7 (Y c.j7 i).erase 1 then dZ i (O (Y c.j7 i).o4) (gG c i) else [])
def xS (c:p7)(L R:Nat->List C8):Nat->List D8
 |0=>[]
 |i+1=>xS c L R i++mG ((O c.j7:Int)+(i:Int)) (Y c.views i) (L i) (R i)
structure Ru (c:p7)(i:Nat)(L R:List C8):Prop where
 ok:KY (Y c.views i) L R
 pl:Pf A 159 [cat c,.d (.str (Y c.views i).left)] (.d (E4 L))
 pr:K7 (Y c.views i).right []=F->Pf A 159 [cat c,.d (.str (Y c.views i).right)] (.d (E4 R))
 r0:K7 (Y c.views i).right []=W->R=[]
 len:∀s,O (mG s (Y c.views i) L R)<=6000
def Pu (a:z6.Data):(c7.d a).forget.H7=0:=by
 cases a with
 |slice n cs=>cases cs<;>rfl
 |_=>rfl
theorem LM:∀l:List z6.Data,A2 (O4 (l.map .d))=0
 |[]=>rfl
 |a::l=>by simp only [G7,O4,A2,LM l,Pu];rfl
def Bb (l:List z6.Data):(x6.cells (l.map .d)).forget.H7<=3:=by
 simp only [x6.forget,x6.H7,LM];omega
def am0 (l:List z6.Data):(x6.cells (l.map .d)).H7<=2:=by
 simp only [x6.H7,AF];omega
def Wd {o0:x6}{n:Nat}(h0:o0.H7<=3)(ys:List D8):D7 [o0,.cells [.s5 2 5 0 n],.cells (O8 ys)] 0 8 2=3:=by
 have h1:C9 (([o0,.cells [.s5 2 5 0 n],.cells (O8 ys)].take 2).drop 0)=3:=by
  have:(x6.cells [.s5 2 5 0 n]).H7=3:=rfl;simp [C9,this];omega
 have h2:=IS h0 (o1:= .cells [.s5 2 5 0 n]) (k9 _) ys 0;show D7 _ 0 (6+1+1) 2=3
 rw [D7,h1];show D7 _ 0 (6+1) 3=3
 rw [D7];exact if_pos (Nat.max_eq_left h2)
theorem LW (H:k8)(n:Nat):∀(xs:List z6.Data) (f:Nat),O xs<f->aD H n f (xs.map .d)=J (xs.map .d)
 |[],f+1,_=>rfl
 |x::xs,f+1,h=>by
  have ih:=LW H n xs f (by simp at h;omega);simp only [G7,aD,ih]
def LR {a:p6}{s p:Nat}{T:List c7}{H:k8}{ds:List D8}{zs:List c7}(hT:T[s]? =J (.s5 p 5 0 (O ds)))(hH:H[p]? =J (.cells (O8 ds++zs)))(hl:O ds<=100000)(ha:a.results=[.slot s]:=by rfl)(hp:a.fM=F:=by rfl):T9 a 0 (J (.ret,⟨T,H⟩))=J (.d (x3 D8.enc ds),[]):=by
 have l1:O (ds.flatMap D8.enc)=O ds * 5:=W4 (sz:=5) (λ_=>rfl) ds;have l2:O (O8 ds)=O ds * 5:=by rw [O8,A3,l1]
 have h1:rd H p 0 (O ds * 5)=J (O8 ds):=by
  simp only [rd,hH,j9,l2,Nat.zero_add];rw [if_pos V,List.drop_zero,<- l2,List.take_left]
 have h2:=LW H 0 (ds.flatMap D8.enc) 999999 V;unfold T9;simp only [ha,hp,aB,mb,hT];rw [O8] at h1;simp only [finish,j6,if_false,j4,aD,Nat.not_lt_zero,h1,h2,cg];simp [c7.H7,x3]
theorem vJ (xs:List D8):∀k,O (aL xs k)<=k
 |0=>k9 _
 |k+1=>by
  have:=vJ xs k;simp only [aL,j9];split<;>simp<;>omega
def Uz (l:G9):Pm A 166 [.d (.slice 0 []),.func 167 [] []] [] l (.d (.slice 0 [])) []:=by
 have key:Pq A 166 [.d (.slice 0 []),.func 167 [] []] [] l λr H1=>r= .d (.slice 0 [])/\H1=[]:=by
  refine Pq.go 4 ?_;refine gr ?_;refine tb (D0 0 2) (λh=>?_) (λh=>?_)
  .refine gr ?_
   exact ⟨_,_,rfl,rfl,rfl⟩
  .cases A9 h
 obtain ⟨r,H1,⟨rfl,rfl⟩,h⟩:=key;exact h
def Uy (l:G9):Pm A 163 [.d (.slice 0 []),.func 164 [] []] [] l (.tuple []) []:=Pm.bw rfl rfl
def Ux (o0:x6)(h0:o0.H7<=2)(st:Nat):Pm A 105 [.ptr 1 0] [o0,.cells [.own 5 0 []]] ⟨0,0,2,st⟩ (.d (.slice 0 [])) [o0,.cells [.own 5 0 []]]:=by
 have key:Pq A 105 [.ptr 1 0] [o0,.cells [.own 5 0 []]] ⟨0,0,2,st⟩ λr H1=>r= .d (.slice 0 [])/\H1=[o0,.cells [.own 5 0 []]]:=by
  refine Pq.go 1 ?_
  repeat' (first|refine c0 (fe:=by simp [C9]) (hcl:=by simp [D7,A2,c7.H7]) (Uy _) rfl (h2:=?_)|refine c0 (fe:=by simp [C9]) (hcl:=by simp [D7,A2,c7.H7]) (Uz _) rfl (h2:=?_)|refine gx ?_|fail)
  exact ⟨_,_,rfl,rfl,rfl⟩
 obtain ⟨r,H1,⟨rfl,rfl⟩,h⟩:=key;exact h
set_option maxHeartbeats 16000000 in
def at4 (c:p7)(hs:D9 c)(hv:C4 c=W)(h8:O c.j7<=8)(ZD:∀i,i<O c.j7->O (Y c.j7 i).o4<=8)(h9:O c.views<=12)(L R:Nat->List C8)(TQ:∀i,i<O c.views->Ru c i (L i) (R i)):Pf A 47 [cat c] (.d (x3 D8.enc (aL (Y4 (iG c (O c.j7)++xS c L R (O c.views))) (O (iG c (O c.j7)++xS c L R (O c.views)))))):=by
 refine Pf.gr 13 ?_;refine Ex.L4 (λk T H=>∃(i:Nat) (fl:List D8),T=[.any,.ptr 0 0,.any,.ptr 1 0,.any,.any,.any,.any,.d (x3 cI.enc c.j7),.d (Z (O c.j7)),.d (Z i),.any,.any,.any]/\H=HC c fl/\i+k=O c.j7/\fl=iG c i/\O fl<=i * 64) ?_ (k:=O c.j7) ⟨0,[],rfl,rfl,U,rfl,U⟩;rintro k _ _ ⟨i,fl,rfl,rfl,hk,hfl,hfn⟩;unfold HC;refine Ex.seq ?_;refine tb (D0 i (O c.j7)) (λh2=>?_) (λh2=>?_)
 .have h3:=A5 h2
  have e1:D0 (i:Int) 0=F:=by simp [s4]
  have e2:U4 (O c.j7:Int) i=F:=by simp [r7];omega
  have hit:je c i=W:=by rw [rQ,e1,e2,hv];rfl
  have hcl:=ZD i V;have nL:O (gG c i)<=8:=by have:=jo (Y c.j7 (i:Int).toNat).o4 (O (Y c.j7 (i:Int).toNat).o4);simp at this;unfold gG;simp;omega
  have p1:=Yt c hs i hit;have p2:=YJ c fl i (O (Y c.j7 i).o4) (gG c i) V V V;unfold HC at p2;refine gr ?_;refine tb (s7 (Y c.j7 i).erase 1) (λh4=>?_) (λh4=>?_)
  .repeat' (first|refine cl (p1) ?_|refine c0 p2 rfl (h2:=?_)|refine gx ?_|fail)
   have PS:=mB i (O (Y c.j7 i).o4) (gG c i);have h64:O (gG c i) * O (Y c.j7 i).o4<=8 * 8:=Nat.mul_le_mul nL hcl;exact kk ⟨_,_,A6 (j5 rfl) (j5 rfl),i+1,fl++dZ i (O (Y c.j7 i).o4) (gG c i),rfl,rfl,V,by rw [hfl,iG,h4];simp,by rw [j9];omega⟩
  .refine gr ?_
   exact kk ⟨_,_,A6 (j5 rfl) (j5 rfl),i+1,fl,rfl,rfl,V,by rw [hfl,iG,h4];simp,V⟩
 have h3:=A9 h2;obtain rfl:i=O c.j7:=V
 refine gr ?_;refine Ex.L4 (λk T H=>∃(i:Nat) (fs:List D8),T=[.any,.ptr 0 0,.any,.ptr 1 0,.any,.any,.any,.any,.any,.any,.any,.d (x3 Vw.enc c.views),.d (Z (O c.views)),.d (Z i)]/\H=[.cells (c.enc.map .d),.cells [A8 5 D8.enc fs]]/\i+k=O c.views/\fs=fl++xS c L R i/\O fs<=512+i * 6000) ?_ (k:=O c.views) ⟨0,fl,rfl,rfl,U,by simp [xS],V⟩;rintro k _ _ ⟨i,fs,rfl,rfl,hk,BY,aY3⟩;refine Ex.seq ?_;refine tb (D0 i (O c.views)) (λh4=>?_) (λh4=>?_)
 .have h5:=A5 h4
  obtain ⟨ok,pl,pr,r0,len⟩:=TQ i V;have hlen:=len ((O c.j7:Int)+(i:Int));have p1:=YK c fs (Y c.views i) ((O c.j7:Int)+(i:Int)) (L i) (R i) ok V pl pr r0;unfold HC at p1
  repeat' (first|refine c0 p1 rfl (h2:=?_)|refine gx ?_|fail)
  exact kk ⟨_,_,A6 (j5 rfl) (j5 rfl),i+1,_,rfl,rfl,V,by rw [BY,xS,F5],by rw [j9];omega⟩
 have h5:=A9 h4;obtain rfl:i=O c.views:=V
 rw [hfl] at BY;rw [<- BY]
 rcases Nat.eq_zero_or_pos (O fs) with hz|hz
 .obtain rfl:=List.length_eq_zero_iff.1 hz
  refine gr ?_;refine Ex.fz (Mb (p:=1) (z:=5) (xs:=[]) rfl rfl) ?_;have p5:=Ux (x6.cells (c.enc.map .d)) (am0 _)
  repeat' (first|refine c0 (p5 _) rfl (h2:=?_)|refine gx ?_|fail)
  exact ⟨_,rfl,rfl⟩
 refine gr ?_;refine Ex.fz (Py (p:=1) (z:=5) (n:=O fs) (xs:=fs.flatMap D8.enc) rfl rfl V rfl rfl (vY (λ_=>rfl) _)) ?_;obtain ⟨zs,p5⟩:=YL (x6.cells (c.enc.map .d)).forget (Bb _) (B1 [(x6.cells (c.enc.map .d)).forget,.cells [.s5 2 5 0 (O fs)],.cells (O8 fs)] 0 3) fs V hz;have hcl:D7 [(x6.cells (c.enc.map .d)).forget,.cells [.s5 2 5 0 (O fs)],.cells (O8 fs)] 0 8 2=3:=by
  have h:=Wd (o0:=(x6.cells (c.enc.map .d)).forget) (n:=O fs) (Bb _) fs;exact h
 have fe:=IS (o0:=(x6.cells (c.enc.map .d)).forget) (o1:= .cells [.s5 2 5 0 (O fs)]) (Bb _) (k9 _) fs 0;show Ex A N9 0 _ ⟨[.any,.ptr 0 0,.any,.ptr 1 0,.any,.any,.any,.any,.any,.any,.any,_,_,_],[(x6.cells (c.enc.map .d)).forget,.cells [.s5 2 5 0 (O fs)],.cells (O8 fs)]⟩ _
 repeat' (first|refine c0 (fe:=fe) (hcl:=hcl) p5 rfl (h2:=?_)|refine gx ?_|fail)
 exact ⟨_,LR rfl rfl (by have:=vJ (Y4 fs) (O fs);omega),rfl⟩
end Go.Proofs.YtibjocmpkoepoaaGreat


import Derived.Test.YtibjocmpkoepoaaGreatX0
set_option linter.all false
open Bool renaming false_eq_true→j5,true→W,false→F
open List renaming append_assoc→K2,cons_append→x6,drop_of_length_le→n5,flatMap_cons→O7,getElem_of_mem→L5,length_append→l5,length_cons→o8,length_map→A9,length_nil→B1,length_singleton→E4,length_take→P3,map_cons→G4,mem_append→N9,nil_append→y5,replicate→c8,replicate_succ→O8,set_cons_succ→o6,set_cons_zero→o4,take_of_length_le→A4,length→O
open Nat renaming le_of_ble_eq_true→j6,le_refl→k9,mul_le_mul_right→I8,zero_le→s9
open Option renaming some→J,none→K
namespace Go.Proofs.YtibjocmpkoepoaaGreat
open Go.A5 Go.A5.S
attribute [local irreducible] Rx Ry Rn Ex Pf
def V5 (p:J9):List A5.Data:=[Z p.1,Z p.2]
def R4 (l:List J9):A5.Data:=y6 V5 l
def plA (s:Int):Nat->List J9
 |0=>[]
 |n+1=>plA s n++[(s,(n:Int))]
theorem HB (s:Int):∀n,O (plA s n)=n
 |0=>rfl
 |n+1=>by simp [plA,HB s n]
def ae9 (c:p9)(hs:G8 c)(name:K0)(h:bG c (X6 c name)=W)(hl:O (T6 c (X6 c name).toNat)<=2000):Pf A 159 [cat c,.d (.str name)] (.d (R4 (plA (X6 c name) (O (T6 c (X6 c name).toNat))))):=by
 have p1:=Zy c hs name;have p2:=Vy c hs _ h;obtain ⟨s,hs0⟩:∃s,X6 c name=s:=⟨_,rfl⟩;rw [hs0] at p1 p2 hl ⊢;obtain ⟨ty,tP⟩:∃ty,T6 c s.toNat=ty:=⟨_,rfl⟩;rw [tP] at p2 hl ⊢;refine Pf.go 7 ?_;refine gc (And.intro p1 p2) ?_;refine Ex.M4 (λk T H=>∃(i:Nat) (acc:List J9),T=[.any,.any,.any,.any,.d (Z s),B9 2 V5 acc,.any,.d (Z (O ty)),.d (Z i)]/\H=[.cells (c.enc.map .d)]/\i+k=O ty/\acc=plA s i) ?_ (k:=O ty) ⟨0,[],rfl,rfl,U,rfl⟩;rintro k _ _ ⟨i,acc,rfl,rfl,hk,hacc⟩;have DB:O acc<=10000:=by rw [hacc,HB];omega
 refine Ex.seq ?_;refine tb (F0 i (O ty)) (λh2=>?_) (λh2=>?_)
 .have h3:=C8 h2
  repeat' (first|refine Ea (cs:=(V5 (s,(i:Int))).map .d) ?_|refine oN (enc:=V5) (s,(i:Int)) ?_|refine Yg (ys:=[(s,(i:Int))]) (h2:=?_)|refine gx ?_|fail)
  exact kk ⟨i+1,acc++[(s,(i:Int))],rfl,rfl,V,by rw [hacc];rfl⟩
 .have h3:=D4 h2
  have h4:i=O ty:=V
  subst h4;refine gr ?_;exact ⟨_,rfl,by rw [hacc];simp [j4,R4,y6]⟩
def kH (e:List X0):Nat->List Int
 |0=>[]
 |i+1=>kH e i++(if x5 (Y e i).op 2 then [(Y e i).col] else [])
theorem wu (e:List X0):∀i,O (kH e i)<=i
 |0=>k9 _
 |i+1=>by
  have:=wu e i;simp only [kH,l5];split<;>simp<;>omega
def Yr {e:List X0}{i:Nat}(h:x5 (Y e i).op 2=W):kH e (i+1)=kH e i++[(Y e i).col]:=by simp only [kH,h,if_true]
def Yq {e:List X0}{i:Nat}(h:x5 (Y e i).op 2=F):kH e (i+1)=kH e i:=by simp [kH,h]
theorem EP {e:List X0}{x:Int}:∀i,i<=O e->x∈kH e i->∃t∈e,x5 t.op 2=W/\t.col=x
 |0,_,h=>by cases h
 |i+1,hi,h=>by
  simp only [kH,N9] at h
  rcases h with h|h
  .exact EP i V h
  .split at h
   next h1=>
    simp only [List.mem_singleton] at h;exact ⟨_,H6 V,h1,h.symm⟩
   .cases h
def kG (e:List X0):List Int:=aL (bz (kH e (O e)))
def Sv {e:List X0}{x:Int}(h:x∈kG e):∃t∈e,x5 t.op 2=W/\t.col=x:=by
 rw [kG,uD,wJ] at h;exact EP _ (k9 _) h
def Ei (e:List X0):O (kG e)<=O e:=by
 have h1:=uf (bz (kH e (O e)));have h2:=wu e (O e);rw [qX] at h1;unfold kG;omega
def HI (xs:List Int):j9:=[.cells (xs.map iv)]
def lI:J2:=⟨0,0,1,1⟩
def TA (xs:List Int):F3 (HI xs)=0:=by
 simp only [HI,F3,x4.J4,GK];rfl
def Yd (xs:List Int):ah (HI xs) 0=W:=by
 simp only [HI,ah,x4.J4,GK];rfl
section
variable {b:Nat} {j8 ops:List o3} {T:List c7} {n:Nat} {rl:List c7} {l6:List A5.Touch} {Q:List c7->j9->List c7->Prop}
def c0I {xs ys:List Int}{f:FuncId}{os:List y4}{u:List Nat}{v:c7}{args:List c7}(hc:Pm A f args (HI xs) lI v (HI ys))(h2:Ry A R5 b F j8 ops T (HI ys) (n+1) (v::rl) (.below 1::l6) Q)
  (ha:os.map (rq T n rl)=args:=by rfl) (hb:A8 args=1:=by rfl) (iD:A.prom f=F:=by rfl) (hm:A.mode f=0:=by rfl):Ry A R5 b F j8 (⟨.call f os,K,K,u⟩::ops) T (HI xs) n rl l6 Q:=by
 refine c0 hc rfl (m:=1) ?_ ?_ rfl rfl ?_ (λh=>by cases h) ha iD hm rfl (HD:=[]) (H2:=HI ys) rfl h2
 .show F3 (HI xs)<=1
  rw [TA];omega
 .rw [hb]
  exact K6 (by show F3 (HI xs)<=1;rw [TA];omega)
 .show J2.mk 0 0 1 (B5 _ 0 1)=lI
  have:B5 (HI xs) 0 1=1:=by
   unfold B5;rw [if_neg (by decide),if_pos (by show ah (HI xs) 0=W;exact Yd xs)]
  rw [this];rfl
end
def bu2 (xs:List Int)(h:O xs<=1000000):Pm A 263 [.s6 0 1 0 (O xs)] (HI xs) lI (.tuple []) (HI (bz xs)):=Pm.dR rfl (Vs rfl rfl rfl (Nat.ble_eq_true_of_le h))
def bu0 (xs:List Int)(h:O xs<=1000000):Pm A 134 [.s6 0 1 0 (O xs)] (HI xs) lI (.s6 0 1 0 (O (aL xs))) (HI (aL xs++c8 (O xs - O (aL xs)) 0)):=Pm.dR rfl (JW rfl rfl rfl (Nat.ble_eq_true_of_le h))
def bu1 (l:J2):Pm A 263 [.d (.slice 0 [])] [] l (.tuple []) []:=Pm.dR rfl rfl
def bt9 (l:J2):Pm A 134 [.d (.slice 0 [])] [] l (.d (.slice 0 [])) []:=Pm.dR rfl rfl
def ak9 {T:List c7}{H:j9}{ds zs:List Int}(hT:T[1]? =J (.s6 0 1 0 (O ds)))(hH:H[0]? =J (.cells ((ds++zs).map iv)))(hl:O ds<=900):Z4 aj3 0 (J (.ret,⟨T,H⟩))=J (.d (ints ds),[]):=by
 have h1:rd H 0 0 (O ds * 1)=J (ds.map iv):=by
  simp only [rd,hH];rw [if_pos U];simp
 have h2:=Us H 0 ds 999999 V;have h3:=MW ds;have h4:cB T H aj3.results=J [.s6 0 1 0 (O ds)]:=by
  show cB T H [.slot 1]=_
  simp only [cB,qf,hT]
 unfold Z4;simp only [h4];show finish F 0 [.s6 0 1 0 (O ds)] H=_
 simp only [finish,j5,if_false,j4,cH,Nat.not_lt_zero,h1,h2,Ub];simp [c7.J4,ints,y6,h3]
def VC (e:List X0)(he:O e<=800)(hv:aW e=F):Pf A 225 [gW e] (.own 1 0 []):=by
 have p1:=VA e V;rw [hv] at p1;refine Pf.gr 6 ?_;refine tc (W) p1 (λh1=>?_) (λh1=>?_)
 .refine gr ?_
  exact ⟨_,rfl,rfl⟩
 .cases h1
set_option maxHeartbeats 8000000 in
def af4 (e:List X0)(he:O e<=800)(hv:aW e=W):Pf A 225 [gW e] (.d (ints (kG e))):=by
 have p1:=VA e V;rw [hv] at p1;refine Pf.gr 6 ?_;refine tc (F) p1 (λh1=>?_) (λh1=>?_)
 .cases h1
 refine gr ?_;refine Ex.S4 (λk T H=>∃(i:Nat) (acc:List Int),T=[.any,.any,B9 1 (λn=>[Z n]) acc,.any,gW e,.d (Z (O e)),.d (Z i)]/\H=[]/\i+k=O e/\acc=kH e i) ?_ (k:=O e) ⟨0,[],rfl,rfl,U,rfl⟩;rintro k _ _ ⟨i,acc,rfl,rfl,hk,hacc⟩;have DB:=wu e i;rw [<- hacc] at DB;refine Ex.seq ?_;refine tb (F0 i (O e)) (λh2=>?_) (λh2=>?_)
 .have h3:=C8 h2
  refine gr ?_;refine tb (x5 (Y e i).op 2) (λh4=>?_) (λh4=>?_)
  .refine gr ?_
   refine kk ⟨_,_,G5 (j6 rfl) (s9 _),i+1,acc++[(Y e i).col],rfl,rfl,V,by rw [hacc,Yr h4]⟩
  .refine gr ?_
   refine kk ⟨_,_,G5 (j6 rfl) (s9 _),i+1,acc,rfl,rfl,V,by rw [hacc,Yq h4]⟩
 .have h3:=D4 h2
  obtain rfl:i=O e:=V
  cases acc with
  |nil =>
   refine gr ?_;refine Ex.fz (Uw rfl) ?_
   repeat' (first|refine c0 (bu1 _) rfl (h2:=?_)|refine c0 (bt9 _) rfl (h2:=?_)|refine gx ?_|fail)
   refine ⟨_,rfl,?_⟩;simp [kG,<- hacc,bz,aL,ints,y6,j4]
  |cons a r =>
   refine gr ?_;refine Ex.fz (Yy rfl U rfl rfl (Jd (λ_=>rfl) _)) ?_;have e1:((a::r).flatMap λn=>[Z n]).map c7.d=(a::r).map iv:=by rw [MW,List.map_map];rfl
   have xR:=qX (a::r);have hlen:O (a::r)<=1000000:=V
   have pS:=bu2 (a::r) hlen;have pC:=bu0 (bz (a::r)) (by rw [xR];exact hlen);rw [xR] at pC;have hdl:=uf (bz (a::r));simp only [S9,o6,o4,List.map_nil,y5,B1,e1];generalize (gW e).forget=w;have eI:[x4.cells ((a::r).map iv)]=HI (a::r):=rfl;rw [eI]
   repeat' (first|refine c0I pS ?_|refine c0I pC ?_|refine gx ?_|fail)
   refine ⟨_,ak9 rfl rfl V,?_⟩;simp only [kG,<- hacc]
def aN3 (n:Nat)(h0:0<n)(h:n<=1000000)(l:J2):Pm A 226 [.N7,.d (Z n)] [] l (.own 2 0 []) []:=by
 refine ⟨1,λk hk=>?_⟩;obtain ⟨k,rfl⟩:∃j,k=j+1:=⟨k - 1,V⟩;have h1:A.dR 226=J (wN 2):=rfl;simp only [call,h1,wN,Z];rw [if_pos V]
def mE (l:List J9):List A5.Data:=[R4 l]
set_option maxHeartbeats 4000000 in
def af0 (xss:List (List J9))(h0:O xss<=100)(h1:∀i,i<O xss->O (Y xss i)<=10000)(hp:0<O xss.flatten):Pf A 162 [.d (y6 mE xss)] (B9 2 V5 xss.flatten):=by
 refine Pf.gr 11 ?_;refine Ex.M4 (λk T H=>∃(i m:Nat),T=[.d (y6 mE xss),.any,.d (Z m),.any,.any,.any,.d (y6 mE xss),.d (Z (O xss)),.d (Z i),.any,.any,.any]/\H=[]/\i+k=O xss/\m<=i * 10000/\O xss.flatten=m+O (xss.drop i).flatten) ?_ (k:=O xss) ⟨0,0,rfl,rfl,U,U,U⟩;rintro k _ _ ⟨i,m,rfl,rfl,hk,hm,hfl⟩;refine Ex.seq ?_;refine tb (F0 i (O xss)) (λh2=>?_) (λh2=>?_)
 .have h3:=C8 h2
  have h4:=h1 i V;have h5:m<=1000000:=V
  rw [D8 V] at hfl;refine gr ?_;refine tb (F) (λh6=>?_) (λh6=>?_)
  .cases h6
  refine gr ?_;exact kk ⟨i+1,m+O (Y xss i),rfl,rfl,V,V,by simp at hfl ⊢;omega⟩
 have h3:=D4 h2;have h5:m<=1000000:=V
 rw [n5 V] at hfl;have p1:=aN3 m (by simp only [List.flatten_nil,B1] at hfl;omega) h5;clear h2 hm hfl
 repeat' (first|refine c1 (p1 _) rfl ?_|refine gx ?_|fail)
 refine Ex.M4 (λk T H=>∃(i:Nat) (acc:List J9),T=[.any,.any,.any,.any,B9 2 V5 acc,.any,.any,.any,.any,.d (y6 mE xss),.d (Z (O xss)),.d (Z i)]/\H=[]/\i+k=O xss/\O acc<=i * 10000/\xss.flatten=acc++(xss.drop i).flatten) ?_ (k:=O xss) ⟨0,[],rfl,rfl,U,U,U⟩;rintro k _ _ ⟨i,acc,rfl,rfl,hk,hl,hacc⟩;refine Ex.seq ?_;refine tl i (O xss) (λh6=>?_) (λh6=>?_)
 .have h7:=h1 i V
  rw [D8 V] at hacc;have h8:O acc<=1000000:=V
  refine gr ?_;exact kk ⟨i+1,acc++Y xss i,rfl,rfl,V,D,by rw [hacc];simp⟩
 .rw [n5 V] at hacc
  repeat' (first|refine owS ?_|refine gx ?_|fail)
  exact ⟨_,rfl,by rw [hacc];simp [j4,B9]⟩
def uA (e:List X0)(ps:List J9):List J9:=(kG e).map λx=>Y ps x.toNat
theorem pU (e:List X0)(ps:List J9):O (uA e ps)<=O e:=by
 have:=Ei e;simp [uA];omega
def Ej:kG []=[]:=rfl
set_option maxHeartbeats 8000000 in
def Vz (e:List X0)(l r:List J9)(he:O e<=800)(hv:aW e=W\/e=[])(hl:O l<=1000)(hr:O r<=1000)(h0:0<O l)(hc:∀x,x∈kG e->0<=x/\x<O (l++r)) :
  Pf A 161 [gW e,.d (R4 l),.d (R4 r)] (.d (R4 (uA e (l++r)))):=by
 have p1:∃w,Pf A 225 [gW e] w/\(w= .d (ints (kG e))\/∃z,w= .own z 0 []/\ints (kG e)= .slice 0 []):=by
  rcases hv with hv|rfl
  .exact ⟨_,af4 e he hv,.inl rfl⟩
  .exact ⟨_,VC [] U (by simp [aW,x8]),.inr ⟨1,rfl,by rw [Ej];rfl⟩⟩
 obtain ⟨w,p1,hw⟩:=p1;have p2:=af0 [l,r] U (λi hi=>by
  match i,hi with
  |0,_=>rw [F9 U];show O l<=10000;omega
  |1,_=>rw [F9 U];show O r<=10000;omega) D
 have e2:[l,r].flatten=l++r:=U
 rw [e2] at p2;have hcl:=Ei e;obtain ⟨ps,hps⟩:∃ps,l++r=ps:=⟨_,rfl⟩;have uy:O ps<=2000:=by rw [<- hps];simp;omega
 rw [hps] at p2 hc ⊢;unfold uA;obtain ⟨cs,hcs⟩:∃cs,kG e=cs:=⟨_,rfl⟩;rw [hcs] at hw hcl hc ⊢;have hnl:O cs<=1000:=V
 have run:∀w:c7,(w= .d (ints cs)\/(w= .own 1 0 []/\cs=[]))->Pf A 225 [gW e] w->Pf A 161 [gW e,.d (R4 l),.d (R4 r)] (.d (R4 (cs.map λx=>Y ps x.toNat))):=by
  rintro w (rfl|⟨rfl,rfl⟩) p1
  all_goals refine Pf.go 7 ?_
  .repeat' (first|refine cl (p2) ?_|refine clT p1 (h2:=?_)|refine gx ?_|fail)
   refine Ex.fh (λk T H=>∃(i:Nat) (acc:List J9) (w0 w1 w2 w3 w6:c7),T=[w0,w1,w2,w3,B9 2 V5 ps,B9 2 V5 acc,w6,.d (ints cs),.d (Z (O cs)),.d (Z i)]/\H=[]/\i+k=O cs/\acc=(cs.take i).map λx=>Y ps x.toNat) ?_ (k:=O cs) ⟨0,[],_,_,_,_,_,rfl,rfl,U,U⟩;rintro k _ _ ⟨i,acc,w0,w1,w2,w3,w6,rfl,rfl,hk,hacc⟩;have DB:O acc<=10000:=by rw [hacc];simp;omega
   refine Ex.nT ?_;refine Ex.seq ?_;refine tb (F0 i (O cs)) (λh2=>?_) (λh2=>?_)
   .have h3:=C8 h2
    have h4:=hc _ (H6 (l:=cs) (i:=i) V)
    repeat' (first|refine oN (enc:=V5) (Y ps (Y cs i).toNat) ?_|refine Yg (ys:=[Y ps (Y cs i).toNat]) (h2:=?_)|refine gx ?_|fail)
    exact kk ⟨i+1,acc++[Y ps (Y cs i).toNat],_,_,_,_,_,rfl,rfl,V,by rw [hacc,H8 V];simp⟩
   .have h3:=D4 h2
    obtain rfl:i=O cs:=V
    refine gr ?_;exact ⟨_,rfl,by rw [hacc];simp [j4,R4,y6]⟩
  .repeat' (first|refine cl (p2) ?_|refine bf1 p1 (h2:=?_)|refine bn9 (h2:=?_)|refine gx ?_|fail)
   refine Ex.fh (λk T H=>∃(w0 w1 w2 w3 w4 w6 w7:c7),T=[w0,w1,w2,w3,w4,.own 2 0 [],w6,w7,.d (Z 0),.d (Z 0)]/\H=[]/\k=0) ?_ (k:=0) ⟨_,_,_,_,_,_,_,rfl,rfl,rfl⟩;rintro k _ _ ⟨w0,w1,w2,w3,w4,w6,w7,rfl,rfl,hk⟩;refine Ex.nT ?_;refine Ex.seq ?_;refine tb (F0 0 0) (λh2=>?_) (λh2=>?_)
   .have h3:=C8 h2
    omega
   .refine gr ?_
    exact ⟨_,rfl,by simp [j4,R4,y6]⟩
 rcases hw with rfl|⟨z,rfl,h⟩
 .exact run _ (.inl rfl) p1
 .have hz:cs=[]:=by
   cases cs with
   |nil=>rfl
   |cons a q=>simp [ints,y6] at h
  rcases hv with hv|rfl
  .exact run _ (.inl rfl) (by have:=af4 e he hv;rw [hcs] at this;exact this)
  .exact run _ (.inr ⟨rfl,hz⟩) (VC [] U (by simp [aW,x8]))
def HC (c:p9)(fl:List O1):j9:=[.cells (c.enc.map .d),.cells [B9 5 O1.enc fl]]
def lCo:J2:=⟨0,0,2,2⟩
def Ka (p:J9):c7:= .agg [.d (Z p.1),.d (Z p.2)]
def Bd (ps:List J9)(to:J9)(d:Bool):List O1:=ps.map λp=>⟨p,to,d⟩
set_option maxHeartbeats 8000000 in
def Kb (c:p9)(fl:List O1)(ps:List J9)(to:J9)(d:Bool)(h:O fl+O ps<=1000000):Pm A 157 [.ptr 1 0,.d (R4 ps),Ka to,.d (.bool d)] (HC c fl) lCo (.tuple []) (HC c (fl++Bd ps to d)):=by
 have key:Pq A 157 [.ptr 1 0,.d (R4 ps),Ka to,.d (.bool d)] (HC c fl) lCo λv H1=>v= .tuple []/\H1=HC c (fl++Bd ps to d):=by
  refine Pq.go 5 ?_;unfold HC Ka;refine gr ?_;refine Ex.S4 (λk T H=>∃i:Nat,T=[.ptr 1 0,.any,.any,.d (.bool d),.ptr 2 0,.any,.d (R4 ps),.d (Z (O ps)),.d (Z i)]/\H=[.cells (c.enc.map .d),.cells [B9 5 O1.enc (fl++Bd (ps.take i) to d)],.cells [.d (Z to.1),.d (Z to.2)]]/\i+k=O ps) ?_ (k:=O ps) ⟨0,rfl,by simp [Bd],U⟩;rintro k _ _ ⟨i,rfl,rfl,hk⟩;refine Ex.seq ?_;refine tb (F0 i (O ps)) (λh2=>?_) (λh2=>?_)
  .have h3:=C8 h2
   have h4:O (fl++Bd (ps.take i) to d)<=1000000:=by simp [Bd];omega
   have hr:roomFor (O (fl++Bd (ps.take i) to d)+1) 40=W:=by simp only [roomFor,decide_eq_true_eq];omega
   have h5:Bd (ps.take (i+1)) to d=Bd (ps.take i) to d++[⟨Y ps i,to,d⟩]:=by
    unfold Bd;rw [H8 V];simp
   repeat' (first|refine Ea (cs:=(O1.enc ⟨Y ps i,to,d⟩).map .d) ?_|refine oN (enc:=O1.enc) ⟨Y ps i,to,d⟩ ?_|refine acN (enc:=O1.enc) (xs:=fl++Bd (ps.take i) to d) ⟨Y ps i,to,d⟩ hr (h2:=?_)|refine Ik (h2:=?_)|refine gx ?_|fail)
   exact kk ⟨_,_,G5 (j6 rfl) (j6 rfl),i+1,rfl,by rw [h5,<- K2];rfl,V⟩
  .have h3:=D4 h2
   obtain rfl:i=O ps:=V
   refine gr ?_;exact ⟨_,_,rfl,rfl,by rw [List.take_length];rfl⟩
 obtain ⟨v,H1,⟨rfl,rfl⟩,h⟩:=key;exact h
def DN (s p:Int):Nat->List O1
 |0=>[]
 |k+1=>DN s p k++(if !x5 k p then Bd [(s,p)] (s,(k:Int)) F else [])
theorem Cg (s p:Int):∀k,O (DN s p k)<=k
 |0=>k9 _
 |k+1=>by
  have:=Cg s p k;simp only [DN,l5];split<;>simp [Bd]<;>omega
def uY (s:Int)(n:Nat)(uJ:List Int):List O1:=uJ.flatMap λp=>DN s p n
theorem uZ (s:Int)(n:Nat):∀uJ:List Int,O (uY s n uJ)<=O uJ * n
 |[]=>by simp [uY]
 |p::uJ=>by
  have h1:=uZ s n uJ;have h2:=Cg s p n;simp only [uY,O7,l5,o8,Nat.add_mul,Nat.one_mul] at h1 ⊢;omega
set_option maxHeartbeats 8000000 in
def aL9 (c:p9)(fl:List O1)(s:Int)(n:Nat)(uJ:List Int)(hf:O fl<=100000)(hn:n<=100)(hp:O uJ<=100) :
  Pm A 102 [.ptr 1 0,.d (Z s),.d (Z n),.d (ints uJ)] (HC c fl) lCo (.tuple []) (HC c (fl++uY s n uJ)):=by
 have key:Pq A 102 [.ptr 1 0,.d (Z s),.d (Z n),.d (ints uJ)] (HC c fl) lCo λv H1=>v= .tuple []/\H1=HC c (fl++uY s n uJ):=by
  refine Pq.go 7 ?_;refine gr ?_;refine Ex.fh (λk T H=>∃(i:Nat) (w3 w4 w5 w9 xb:c7),T=[.ptr 1 0,.d (Z s),.d (Z n),w3,w4,w5,.d (ints uJ),.d (Z (O uJ)),.d (Z i),w9,xb]/\H=HC c (fl++uY s n (uJ.take i))/\i+k=O uJ) ?_ (k:=O uJ) ⟨0,_,_,_,_,_,rfl,by simp [uY],U⟩;rintro k _ _ ⟨i,w3,w4,w5,w9,xb,rfl,rfl,hk⟩;refine Ex.nT ?_;refine Ex.seq ?_;refine tb (F0 i (O uJ)) (λh2=>?_) (λh2=>?_)
  .have h3:=C8 h2
   have h4:=uZ s n (uJ.take i);have h5:O (uJ.take i) * n<=100 * 100:=Nat.mul_le_mul D hn;have h6:uY s n (uJ.take (i+1))=uY s n (uJ.take i)++DN s (Y uJ i) n:=by
    unfold uY;rw [H8 V];simp
   refine gr ?_;obtain ⟨p,hpe⟩:∃p,Y uJ i=p:=⟨_,rfl⟩;rw [hpe] at h6 ⊢;refine Ex.fh (λk T H=>∃(j:Nat) (w3 w5:c7),T=[.ptr 1 0,.d (Z s),.d (Z n),w3,.d (Z p),w5,.d (ints uJ),.d (Z (O uJ)),.d (Z i),.d (Z n),.d (Z j)]/\H=HC c ((fl++uY s n (uJ.take i))++DN s p j)/\j+k=n) ?_ (k:=n) ⟨0,_,_,rfl,by simp [DN],U⟩;rintro m _ _ ⟨j,w3,w5,rfl,rfl,hm⟩;refine Ex.nT ?_;refine Ex.seq ?_;refine tl j n (λg3=>?_) (λg3=>?_)
   .have g4:=Cg s p j
    refine gr ?_;refine tb (!x5 j p) (λg5=>?_) (λg5=>?_)
    .have pa:=Kb c ((fl++uY s n (uJ.take i))++DN s p j) [(s,p)] (s,(j:Int)) F (by simp only [l5,E4];omega)
     repeat' (first|refine Ea (cs:=(V5 (s,p)).map .d) ?_|refine Ea (cs:=(V5 (s,(j:Int))).map .d) ?_|refine oN (enc:=V5) (s,p) ?_|refine c0 pa rfl (h2:=?_)|refine gx ?_|fail)
     exact ⟨m - 1,V,j+1,_,_,rfl,by simp only [DN,g5,if_true,K2];rfl,V⟩
    .refine gr ?_
     exact ⟨m - 1,V,j+1,_,_,rfl,by simp only [DN,g5,j5,if_false,List.append_nil],V⟩
   .obtain rfl:j=n:=V
    refine gr ?_;exact kk ⟨i+1,_,_,_,_,_,rfl,by rw [h6,K2],V⟩
  .have h3:=D4 h2
   obtain rfl:i=O uJ:=V
   refine gr ?_;exact ⟨_,_,rfl,rfl,by rw [List.take_length];rfl⟩
 obtain ⟨v,H1,⟨rfl,rfl⟩,h⟩:=key;exact h
def Cr (s:Int)(l r:List J9):Nat->List O1
 |0=>[]
 |k+1=>Cr s l r k++(Bd [Y l k,Y r k] (s,(k:Int)) W++Bd [Y l 0,Y r 0] (s,(k:Int)) F)
theorem Cs (s:Int)(l r:List J9):∀k,O (Cr s l r k)=4 * k
 |0=>rfl
 |k+1=>by
  have:=Cs s l r k;simp only [Cr,l5,Bd,A9,o8,B1];omega
set_option maxHeartbeats 8000000 in
def aM8 (c:p9)(fl:List O1)(s:Int)(l r:List J9)(hf:O fl<=100000)(hl:O l<=100)(hr:O l<=O r) :
  Pm A 160 [.ptr 1 0,.d (Z s),.d (R4 l),.d (R4 r)] (HC c fl) lCo (.tuple []) (HC c (fl++Cr s l r (O l))):=by
 have key:Pq A 160 [.ptr 1 0,.d (Z s),.d (R4 l),.d (R4 r)] (HC c fl) lCo λv H1=>v= .tuple []/\H1=HC c (fl++Cr s l r (O l)):=by
  refine Pq.go 4 ?_;refine gr ?_;refine Ex.S4 (λk T H=>∃i:Nat,T=[.ptr 1 0,.d (Z s),.d (R4 l),.d (R4 r),.any,.any,.d (Z (O l)),.d (Z i)]/\H=HC c (fl++Cr s l r i)/\i+k=O l) ?_ (k:=O l) ⟨0,rfl,by simp [Cr],U⟩;rintro k _ _ ⟨i,rfl,rfl,hk⟩;have hul:=Cs s l r i;refine Ex.seq ?_;refine tb (F0 i (O l)) (λh2=>?_) (λh2=>?_)
  .have h3:=C8 h2
   have p1:=Kb c (fl++Cr s l r i) [Y l i,Y r i] (s,(i:Int)) W (by simp only [l5,o8,B1];omega);have p2:=Kb c ((fl++Cr s l r i)++Bd [Y l i,Y r i] (s,(i:Int)) W) [Y l 0,Y r 0] (s,(i:Int)) F (by simp only [l5,o8,B1,Bd,A9];omega);unfold HC Ka at *
   repeat' (first|refine Ea (cs:=(V5 (s,(i:Int))).map .d) ?_|refine bsv (V5 (Y l i)++V5 (Y r i)) ?_|refine c0 p1 rfl (h2:=?_)|refine bsv (V5 (Y l 0)++V5 (Y r 0)) ?_|refine c0 p2 rfl (h2:=?_)|refine ixZ (h2:=?_)|refine gx ?_|fail)
   exact kk ⟨_,_,G5 (j6 rfl) (j6 rfl),i+1,rfl,by simp only [Cr,<- K2];rfl,V⟩
  .have h3:=D4 h2
   obtain rfl:i=O l:=V
   refine gr ?_;exact ⟨_,_,rfl,rfl,rfl⟩
 obtain ⟨v,H1,⟨rfl,rfl⟩,h⟩:=key;exact h
structure Gy (e:List X0)(n:Nat):Prop where
 len:O e<=64
 ok:aW e=W\/e=[]
 col:∀x,x∈kG e->0<=x/\x<n
def sU (v:Vw)(ps:List J9)(i:Nat):List (List J9):=(v.items.take i).map λx=>uA x.expr ps
def MO (v:Vw)(ps:List J9)(i:Nat):List (List J9):=(v.I6.take i).map λx=>uA x.expr ps
def GW (v:Vw)(ps:List J9):List (List J9):=sU v ps (O v.items)++MO v ps (O v.I6)
def onP (v:Vw)(L R:List J9)(i:Nat):List J9:=(v.on.take i).flatMap λp=>[Y L p.1.toNat,Y R p.2.toNat]
def TX (v:Vw)(L R:List J9):List J9:=uA v.wh (L++R)++[Y L 0]++(if F0 0 (O R) then [Y R 0] else [])++onP v L R (O v.on)++(if x5 v.kind 1||v.distinct then (sU v (L++R) (O v.items)).flatten else [])
def Hx (s:Int)(ds:List (List J9))(cs:List J9):Nat->List O1
 |0=>[]
 |k+1=>Hx s ds cs k++(Bd (Y ds k) (s,(k:Int)) W++Bd cs (s,(k:Int)) F)
def ve (s:Int)(v:Vw)(L R:List J9):List O1:=if x5 v.kind 2 then Cr s L R (O L) else Hx s (GW v (L++R)) (TX v L R) (O (GW v (L++R)))
structure TE (v:Vw)(L R:List J9):Prop where
 l0:0<O L
 l8:O L<=8
 r8:O R<=8
 o7:O v.items+O v.I6<=8
 on8:O v.on<=8
 on:∀i,i<O v.on->0<=(Y v.on i).1/\(Y v.on i).1<O L/\0<=(Y v.on i).2/\(Y v.on i).2<O R
 wh:Gy v.wh (O (L++R))
 it:∀i,i<O v.items->Gy (Y v.items i).expr (O (L++R))
 ag:∀i,i<O v.I6->Gy (Y v.I6 i).expr (O (L++R))
 un:x5 v.kind 2=W->O L<=O R
def Hw (v:Vw)(L R:List J9)(i:Nat):O (onP v L R i)<=2 * O v.on:=by
 have:∀l:List (Int×Int),O (l.flatMap λp=>[Y L p.1.toNat,Y R p.2.toNat])=2 * O l:=by
  intro l
  induction l with
  |nil=>rfl
  |cons a l ih=>grind
 grind [onP,P3]
def ta {d8:List (List J9)}(h:∀d,d∈d8->O d<=64):O d8.flatten<=64 * O d8:=by
 induction d8 with
 |nil=>simp
 |cons a l ih =>
  grind
theorem BK (s:Int)(ds:List (List J9))(cs:List J9)(h:∀i,i<O ds->O (Y ds i)<=64):∀i,i<=O ds->O (Hx s ds cs i)<=i * (64+O cs)
 |0,_=>by simp [Hx]
 |k+1,hk=>by
  have h1:=BK s ds cs h k V
  grind [Hx,l5,Bd,A9,Nat.succ_mul]
def AR {v:Vw}{ps:List J9}(hi:∀i,i<O v.items->Gy (Y v.items i).expr (O ps))(ha:∀i,i<O v.I6->Gy (Y v.I6 i).expr (O ps)):∀d,d∈GW v ps->O d<=64:=by
 intro d hd;simp only [GW,sU,MO,N9,List.mem_map] at hd
 rcases hd with ⟨x,hx,rfl⟩|⟨x,hx,rfl⟩
 .obtain ⟨q,hq,rfl⟩:=L5 (List.mem_of_mem_take hx)
  have h1:=(hi q hq).len
  grind [F9,pU]
 .obtain ⟨q,hq,rfl⟩:=L5 (List.mem_of_mem_take hx)
  have h1:=(ha q hq).len
  grind [F9,pU]
set_option maxHeartbeats 32000000 in
def aM0 (c:p9)(fl:List O1)(v:Vw)(s:Int)(L R:List J9)(h:TE v L R)(hf:O fl<=100000)(pl:Pf A 159 [cat c,.d (.str v.left)] (.d (R4 L)))(pr:O4 v.right []=F->Pf A 159 [cat c,.d (.str v.right)] (.d (R4 R)))(hr0:O4 v.right []=W->R=[]) :
  Pm A 104 [.ptr 1 0,cat c,.d (Z s),vw' v] (HC c fl) lCo (.tuple []) (HC c (fl++ve s v L R)):=by
 have key:Pq A 104 [.ptr 1 0,cat c,.d (Z s),vw' v] (HC c fl) lCo λr H1=>r= .tuple []/\H1=HC c (fl++ve s v L R):=by
  obtain ⟨l0,l8,r8,o7,on8,on,wh,it,ag,un⟩:=h;have hlr:O (L++R)<=16:=D
  have hb0:∀w7:c7,(w7= .d (R4 R)\/∃z,w7= .own z 0 []/\R4 R= .slice 0 [])->w7.J4=0:=by
   rintro _ (rfl|⟨_,rfl,_⟩)<;>rfl
  refine Pq.go 28 ?_;unfold HC;refine gc pl ?_;refine Ex.DO (λst=>∃w7:c7,(w7= .d (R4 R)\/∃z,w7= .own z 0 []/\R4 R= .slice 0 [])/\st=⟨[.ptr 1 0,cat c,.d (Z s),vw' v,.ptr 2 0,.ptr 3 0,.d (R4 L),w7,.any,.any,.any,.any,.any,.any,.any,.any,.any,.any,.any,.any,.any,.any,.any,.any,.any,.any,.any,.any,.any,.any,.any,.any],[.cells (c.enc.map .d),.cells [B9 5 O1.enc fl],.cells (c.enc.map .d),.cells (v.enc.map .d)]⟩) ?_ ?_
  .skip
   refine tb (!O4 v.right []) (λh=>?_) (λh=>?_)
   .have pr:=pr (by simpa using h)
    refine gc pr ?_;exact ⟨_,.inl rfl,rfl⟩
   .refine gr ?_
    exact ⟨_,.inr ⟨2,rfl,by rw [hr0 (by simpa using h)];rfl⟩,rfl⟩
  rintro _ ⟨w7,UK,rfl⟩;refine gr ?_;refine tb (x5 v.kind 2) (λhk=>?_) (λhk=>?_)
  .have p:=aM8 c fl s L R hf V (un hk)
   unfold HC at p
   repeat' (first|refine msv UK ?_|refine c0 p rfl (h2:=?_)|refine gx ?_|fail)
   exact ⟨_,_,rfl,rfl,by rw [ve,hk];rfl⟩
  refine gr ?_;refine Ex.S4 (λk T H=>∃i:Nat,T=[.ptr 1 0,.any,.d (Z s),.any,.any,.ptr 3 0,.d (R4 L),w7,B9 1 mE (sU v (L++R) i),.any,.any,.any,.any,.any,.any,.any,.any,.d (y6 zW.enc v.items),.d (Z (O v.items)),.d (Z i),.any,.any,.any,.any,.any,.any,.any,.any,.any,.any,.any,.any]/\H=[.cells (c.enc.map .d),.cells [B9 5 O1.enc fl],.cells (c.enc.map .d),.cells (v.enc.map .d)]/\i+k=O v.items) ?_ (k:=O v.items) ⟨0,rfl,rfl,U⟩;rintro k _ _ ⟨i,rfl,rfl,hk1⟩;have hdl:O (sU v (L++R) i)<=8:=by simp [sU];omega
  refine Ex.seq ?_;refine tb (F0 i (O v.items)) (λh2=>?_) (λh2=>?_)
  .have h3:=C8 h2
   obtain ⟨e1,e2,e3⟩:=it i V;have p1:=Vz (Y v.items i).expr L R V e2 V V l0 e3;have e4:sU v (L++R) (i+1)=sU v (L++R) i++[uA (Y v.items i).expr (L++R)]:=by
    unfold sU;rw [H8 V];simp
   repeat' (first|refine msv UK ?_|refine sO p1 ?_|refine gx ?_|fail)
   exact kk ⟨_,_,G5 (by rcases UK with rfl|⟨_,rfl,_⟩<;>exact j6 rfl) (j6 rfl),i+1,by rw [e4];rfl,rfl,V⟩
  have h3:=D4 h2;obtain rfl:i=O v.items:=V
  have pw:=Vz v.wh L R (by have:=wh.len;omega) wh.ok V V l0 wh.col;have Mq:=pU v.wh (L++R);have bV1:=wh.len;have YI:L.take 1=[Y L 0]:=by
   cases L with
   |nil=>simp at l0
   |cons a q=>simp [Y]
  have pc:=af0 [uA v.wh (L++R),L.take 1] U (λi hi=>by
   match i,hi with
   |0,_=>rw [F9 U];show O (uA v.wh (L++R))<=10000;omega
   |1,_=>rw [F9 U];show O (L.take 1)<=10000;simp;omega) D
  have et:[uA v.wh (L++R),L.take 1].flatten=uA v.wh (L++R)++[Y L 0]:=by simp [YI]
  rw [et] at pc;obtain ⟨C0,hC0⟩:∃C0,uA v.wh (L++R)++[Y L 0]=C0:=⟨_,rfl⟩;have bQ7:O C0<=65:=by rw [<- hC0];simp;omega
  rw [hC0] at pc;obtain ⟨d8,hD⟩:∃d8,sU v (L++R) (O v.items)=d8:=⟨_,rfl⟩;have hDl:O d8=O v.items:=by rw [<- hD];simp [sU]
  have al6:∀d,d∈d8->O d<=64:=by
   intro d hd;rw [<- hD] at hd;simp only [sU,List.mem_map] at hd;obtain ⟨x,hx,rfl⟩:=hd;obtain ⟨q,hq,rfl⟩:=L5 (List.mem_of_mem_take hx);have h1:=(it q hq).len;rw [F9 hq] at h1;have:=pU v.items[q].expr (L++R);omega
  rw [hD] at hdl ⊢
  repeat' (first|refine msv UK ?_|refine sO pw ?_|refine cl (pc) ?_|refine gx ?_|fail)
  refine Ex.DO (λst=>st=⟨[.ptr 1 0,.any,.d (Z s),.any,.any,.ptr 3 0,.d (R4 L),w7,B9 1 mE d8,.any,B9 2 V5 (C0++(if F0 0 (O R) then [Y R 0] else [])),.any,.any,.any,.any,.any,.any,.d (y6 zW.enc v.items),.d (Z (O v.items)),.d (Z (O v.items)),.any,.any,.any,.any,.any,.any,.any,.any,.any,.any,.any,.any],[.cells (c.enc.map .d),.cells [B9 5 O1.enc fl],.cells (c.enc.map .d),.cells (v.enc.map .d)]⟩) ?_ ?_
  .skip
   refine tB (F0 0 (O R)) ?_ (λh=>?_) (λh=>?_)
   .repeat' (first|refine msv UK ?_|refine gx ?_|refine fq (λhw=>?_) λhw=>?_|refine ⟨rfl,rfl,_,rfl,?_⟩|refine ⟨rfl,rfl⟩|fail)
    all_goals exact cc
   .have h3:=C8 h
    have h4:0<O R:=V
    rw [h];simp only [if_true]
    repeat' (first|refine msv UK ?_|refine oN (enc:=V5) (Y R 0) ?_|refine Yg (ys:=[Y R 0]) (h2:=?_)|refine gx ?_|fail)
    exact rfl
   .rw [h]
    simp only [j5,if_false,List.append_nil];refine gr ?_;exact rfl
  rintro _ rfl;obtain ⟨C1,hC1⟩:∃C1,C0++(if F0 0 (O R) then [Y R 0] else [])=C1:=⟨_,rfl⟩;have bQ8:O C1<=66:=by rw [<- hC1];split<;>simp<;>omega
  rw [hC1];refine gr ?_;refine Ex.S4 (λk T H=>∃(i:Nat) (acc:List J9),T=[.ptr 1 0,.any,.d (Z s),.any,.any,.ptr 3 0,.d (R4 L),w7,B9 1 mE d8,.any,B9 2 V5 acc,.any,.any,.any,.any,.any,.any,.any,.any,.any,.d (y6 (λp=>[Z p.1,Z p.2]) v.on),.d (Z (O v.on)),.d (Z i),.any,.any,.any,.any,.any,.any,.any,.any,.any]/\H=[.cells (c.enc.map .d),.cells [B9 5 O1.enc fl],.cells (c.enc.map .d),.cells (v.enc.map .d)]/\i+k=O v.on/\acc=C1++onP v L R i) ?_ (k:=O v.on) ⟨0,C1,rfl,rfl,U,by simp [onP]⟩;rintro k _ _ ⟨i,acc,rfl,rfl,hk2,hacc⟩;refine Ex.seq ?_;refine tb (F0 i (O v.on)) (λh2=>?_) (λh2=>?_)
  .have h3:=C8 h2
   obtain ⟨q1,q2,q3,q4⟩:=on i V;have hol:=Hw v L R i;have DB:O acc<=82:=by rw [hacc,l5];omega
   repeat' (first|refine msv UK ?_|refine bsv (V5 (Y L (Y v.on i).1.toNat)++V5 (Y R (Y v.on i).2.toNat)) ?_|refine Yg (ys:=[Y L (Y v.on i).1.toNat,Y R (Y v.on i).2.toNat]) (h2:=?_)|refine gx ?_|fail)
   exact kk ⟨_,_,G5 (by rcases UK with rfl|⟨_,rfl,_⟩<;>exact j6 rfl) (j6 rfl),i+1,_,rfl,rfl,V,by rw [hacc];unfold onP;rw [H8 V];simp⟩
  have h3:=D4 h2;obtain rfl:i=O v.on:=V
  obtain ⟨C2,hC2⟩:∃C2,C1++onP v L R (O v.on)=C2:=⟨_,rfl⟩;have bT2:=Hw v L R (O v.on);have bQ9:O C2<=82:=by rw [<- hC2];simp only [l5];omega
  rw [hC2] at hacc;rw [hacc];clear hacc acc;refine gr ?_;refine Ex.DO (λst=>∃w20 w21 w22 w23 w24 w25:c7,(w20.J4=0/\w21.J4=0/\w22.J4=0/\w23.J4=0/\w24.J4=0/\w25.J4=0)/\st=⟨[.ptr 1 0,.any,.d (Z s),.any,.any,.ptr 3 0,.d (R4 L),w7,B9 1 mE d8,.any,B9 2 V5 (C2++(if x5 v.kind 1||v.distinct then d8.flatten else [])),.any,.any,.any,.any,.any,.any,.any,.any,.any,w20,w21,w22,w23,w24,w25,.any,.any,.any,.any,.any,.any],[.cells (c.enc.map .d),.cells [B9 5 O1.enc fl],.cells (c.enc.map .d),.cells (v.enc.map .d)]⟩) ?_ ?_
  .skip
   refine tb ((x5 v.kind 1||v.distinct)) (λh=>?_) (λh=>?_)
   .repeat' (first|refine moT (h2:=?_)|refine gx ?_|fail)
    refine Ex.S4 (λk T H=>∃(i:Nat) (acc:List J9),T=[.ptr 1 0,.any,.d (Z s),.any,.any,.ptr 3 0,.d (R4 L),w7,B9 1 mE d8,.any,B9 2 V5 acc,.any,.any,.any,.any,.any,.any,.any,.any,.any,.any,.any,.any,.d (y6 mE d8),.d (Z (O d8)),.d (Z i),.any,.any,.any,.any,.any,.any]/\H=[.cells (c.enc.map .d),.cells [B9 5 O1.enc fl],.cells (c.enc.map .d),.cells (v.enc.map .d)]/\i+k=O d8/\acc=C2++(d8.take i).flatten) ?_ (k:=O d8) ⟨0,C2,rfl,rfl,U,U⟩;rintro k _ _ ⟨i,acc,rfl,rfl,hk3,hacc⟩;refine Ex.seq ?_;refine tb (F0 i (O d8)) (λh2=>?_) (λh2=>?_)
    .have h3:=C8 h2
     have h4:=al6 (Y d8 i) (H6 V);have h5:=ta (d8:=d8.take i) λd hd=>al6 d (List.mem_of_mem_take hd)
     have h6:O (d8.take i)<=8:=by rw [P3];omega
     have DB:O acc<=600:=by rw [hacc,l5];omega
     refine gr ?_;exact kk ⟨_,_,G5 (by rcases UK with rfl|⟨_,rfl,_⟩<;>exact j6 rfl) (j6 rfl),i+1,acc++Y d8 i,rfl,rfl,V,by rw [hacc,H8 V];simp⟩
    have h3:=D4 h2;obtain rfl:i=O d8:=V
    have ha:acc=C2++(if x5 v.kind 1||v.distinct then d8.flatten else []):=by rw [hacc,h];simp
    rw [<- ha];refine gr ?_;exact ⟨.any,.any,.any,.d (y6 mE d8),.d (Z (O d8)),.d (Z (O d8)),⟨rfl,rfl,rfl,rfl,rfl,rfl⟩,rfl⟩
   .rw [h]
    simp only [j5,if_false,List.append_nil];refine gr ?_;exact ⟨.d (y6 (λp=>[Z p.1,Z p.2]) v.on),.d (Z (O v.on)),.d (Z (O v.on)),.any,.any,.any,⟨rfl,rfl,rfl,rfl,rfl,rfl⟩,rfl⟩
  rintro _ ⟨w20,w21,w22,w23,w24,w25,hb,rfl⟩;obtain ⟨C3,hC3⟩:∃C3,C2++(if x5 v.kind 1||v.distinct then d8.flatten else [])=C3:=⟨_,rfl⟩;have bR0:O C3<=600:=by
   have:=ta al6;rw [<- hC3];simp only [l5];split<;>(try simp only [B1])<;>omega
  rw [hC3];refine gr ?_;refine Ex.S4 (λk T H=>∃(i:Nat) (acc:List (List J9)),T=[.ptr 1 0,.any,.d (Z s),.any,.any,.any,.d (R4 L),w7,B9 1 mE acc,.any,B9 2 V5 C3,.any,.any,.any,.any,.any,.any,.any,.any,.any,.any,.any,.any,.any,.any,.any,.d (y6 zA.enc v.I6),.d (Z (O v.I6)),.d (Z i),.any,.any,.any]/\H=[.cells (c.enc.map .d),.cells [B9 5 O1.enc fl],.cells (c.enc.map .d),.cells (v.enc.map .d)]/\i+k=O v.I6/\acc=d8++MO v (L++R) i) ?_ (k:=O v.I6) ⟨0,d8,rfl,rfl,U,by simp [MO]⟩;rintro k _ _ ⟨i,acc,rfl,rfl,hk4,hacc⟩;have DB:O acc<=8:=by rw [hacc];simp [MO];omega
  refine Ex.seq ?_;refine tb (F0 i (O v.I6)) (λh2=>?_) (λh2=>?_)
  .have h3:=C8 h2
   obtain ⟨e1,e2,e3⟩:=ag i V;have p1:=Vz (Y v.I6 i).expr L R V e2 V V l0 e3
   repeat' (first|refine msv UK ?_|refine sO p1 ?_|refine gx ?_|fail)
   exact kk ⟨_,_,G5 (by rcases UK with rfl|⟨_,rfl,_⟩<;>exact j6 rfl) (j6 rfl),i+1,acc++[uA (Y v.I6 i).expr (L++R)],rfl,rfl,V,by rw [hacc];unfold MO;rw [H8 V];simp⟩
  have h3:=D4 h2;obtain rfl:i=O v.I6:=V
  obtain ⟨DV,hDV⟩:∃DV,GW v (L++R)=DV:=⟨_,rfl⟩;have hacc:acc=DV:=by rw [hacc,<- hDV,<- hD];rfl
  subst hacc;have am6:∀i,i<O acc->O (Y acc i)<=64:=by
   intro i hi;refine AR it ag _ ?_;rw [hDV];exact H6 hi
  have wF:ve s v L R=Hx s acc C3 (O acc):=by
   unfold ve;rw [hk,hDV,<- hC3,<- hC2,<- hC1,<- hC0,<- hD];rfl
  rw [wF]
  repeat' (first|refine moT (h2:=?_)|refine gx ?_|fail)
  refine Ex.S4 (λk T H=>∃(i:Nat) (fs:List O1),T=[.ptr 1 0,.any,.d (Z s),.any,.any,.any,.any,.any,.any,.any,B9 2 V5 C3,.any,.any,.any,.any,.any,.any,.any,.any,.any,.any,.any,.any,.any,.any,.any,.any,.any,.any,.d (y6 mE acc),.d (Z (O acc)),.d (Z i)]/\H=[.cells (c.enc.map .d),.cells [B9 5 O1.enc fs],.cells (c.enc.map .d),.cells (v.enc.map .d)]/\i+k=O acc/\fs=fl++Hx s acc C3 i) ?_ (k:=O acc) ⟨0,fl,rfl,rfl,U,by simp [Hx]⟩;rintro k _ _ ⟨i,fs,rfl,rfl,hk5,Ig⟩;refine Ex.seq ?_;refine tb (F0 i (O acc)) (λh2=>?_) (λh2=>?_)
  .have h3:=C8 h2
   have hol:=BK s acc C3 am6 i V;have p1:=Kb c fs (Y acc i) (s,(i:Int)) W (by have:=am6 i V;rw [Ig];simp only [l5];have:i * (64+O C3)<=8 * (64+O C3):=I8 _ V;omega);have p2:=Kb c (fs++Bd (Y acc i) (s,(i:Int)) W) C3 (s,(i:Int)) F (by have:=am6 i V;rw [Ig];simp only [l5,Bd,A9];have:i * (64+O C3)<=8 * (64+O C3):=I8 _ V;omega);unfold HC Ka at *
   repeat' (first|refine Ea (cs:=(V5 (s,(i:Int))).map .d) ?_|refine c0 p1 rfl (h2:=?_)|refine c0 p2 rfl (h2:=?_)|refine gx ?_|fail)
   exact kk ⟨_,_,G5 (j6 rfl) (j6 rfl),i+1,_,rfl,rfl,V,by rw [Ig];simp only [Hx,K2]⟩
  have h3:=D4 h2;obtain rfl:i=O acc:=V
  refine gr ?_;exact ⟨_,_,rfl,rfl,by rw [Ig];rfl⟩
 obtain ⟨r,H1,⟨rfl,rfl⟩,h⟩:=key;exact h
def flw (f:O1):c7:= .agg (f.enc.map .d)
def Ff (a b:O1):Bool:=(a.src.1==b.src.1&&(a.src.2==b.src.2&&W))&&(a.dst.1==b.dst.1&&(a.dst.2==b.dst.2&&W))
set_option maxHeartbeats 8000000 in
def ae2 (a b:O1):Pf A 167 [flw a,flw b] (.d (.bool (Ff a b))):=by
 refine Pf.go 3 ?_;simp only [flw,O1.enc,G4,List.map_nil]
 repeat' (first|refine Pa rfl rfl ?_|refine gy ?_|refine fq (λhw=>?_) λhw=>?_|refine ⟨_,rfl,?_⟩|fail)
 .simp at hw
  simp [j4,Ff,hw]
 .simp at hw
  simp [j4,Ff];intro h1 h2;exact absurd h2 (hw h1)
def jq (xs:List O1):Nat->List O1
 |0=>[]
 |k+1=>jq xs k++(if decide (0<k)&&Ff (Y xs k) (Y xs (k - 1)) then [] else [Y xs k])
def X1 (l:List O1):List c7:=(l.flatMap O1.enc).map .d
theorem GG:∀l:List A5.Data,A8 (l.map .d)=0
 |[]=>rfl
 |a::l=>by simp [A8,c7.J4,GG l]
def RC {o0 o1:x4}(h0:o0.J4<=3)(h1:o1.J4<=3)(ys:List O1)(st:Nat):F3 (([o0,o1,.cells (X1 ys)].take 3).drop st)<=3:=by
 have h2:(x4.cells (X1 ys)).J4<=3:=by simp only [x4.J4,X1,GG];omega
 match st with
 |0=>simp [F3];omega
 |1=>simp [F3];omega
 |2=>simp [F3];omega
 |_+3=>simp [F3]
def zF:List c7:=[.d (Z 0),.d (Z 0),.d (Z 0),.d (Z 0),.d (.bool F)]
theorem Wy:∀n:Nat,O ((c8 n zF).flatten)=n * 5
 |0=>rfl
 |n+1=>by
  have:=Wy n;rw [O8,List.flatten_cons,l5,this];simp [zF];omega
def au4 (o0 o1:x4)(acc rest:List O1):wr [o0,o1,.cells (X1 (acc++rest))] 2 (0+O acc * 5) ((c8 (O rest) zF).flatten)=J [o0,o1,.cells (X1 acc++(c8 (O rest) zF).flatten)]:=by
 have l1:∀l:List O1,O (X1 l)=O l * 5:=λl=>by rw [X1,A9,bt (sz:=5) (λ_=>rfl)]
 have e:X1 (acc++rest)=X1 acc++X1 rest:=by simp [X1]
 have hz:=Wy (O rest);simp only [wr,List.getElem?_cons_succ,List.getElem?_cons_zero,splice,e,Nat.zero_add];rw [if_pos (by simp only [l5,l1,hz];omega),<- l1 acc,List.take_left,n5 (by simp only [l5,l1,hz];omega)];simp
def Vk {acc xs:List O1}{q:Nat}(h1:O acc<=q)(h2:q<O xs):Y (acc++xs.drop (O acc)) q=Y xs q:=by
 rw [F9 D,F9 h2,List.getElem_append_right h1,List.getElem_drop];have:O acc+(q - O acc)=q:=V
 simp [this]
set_option maxHeartbeats 16000000 in
def aN0 (o0 o1:x4)(h0:o0.J4<=3)(h1:o1.J4<=3)(st:Nat)(xs:List O1)(hn:O xs<=1000000)(hp:0<O xs) :
  ∃zs,Pm A 166 [.s6 2 5 0 (O xs),.func 167 [] []] [o0,o1,.cells (X1 xs)] ⟨0,0,3,st⟩ (.s6 2 5 0 (O (jq xs (O xs)))) [o0,o1,.cells (X1 (jq xs (O xs))++zs)]:=by
 have key:Pq A 166 [.s6 2 5 0 (O xs),.func 167 [] []] [o0,o1,.cells (X1 xs)] ⟨0,0,3,st⟩ λr H1=>∃zs,r= .s6 2 5 0 (O (jq xs (O xs)))/\H1=[o0,o1,.cells (X1 (jq xs (O xs))++zs)]:=by
  have YM:∀ys:List O1,F3 (([o0,o1,.cells (X1 ys)].take 3).drop st)<=3:=λys=>RC h0 h1 ys st
  refine Pq.go 4 ?_;refine gr ?_;refine tB (F0 (O xs) 2) ?_ (λh=>?_) (λh=>?_)
  .repeat' (first|refine lnr ?_|refine gx ?_|refine fq (λhw=>?_) λhw=>?_|refine ⟨rfl,rfl,_,rfl,?_⟩|refine ⟨rfl,rfl⟩|fail)
   all_goals exact cc
  .have h3:=C8 h
   refine gr ?_;have e:jq xs (O xs)=xs:=by
    match xs,hp,h3 with
    |[x],_,_=>simp [jq,Y]
    |_::_::_,_,h=>simp at h;omega
   exact ⟨_,_,rfl,[],by rw [e],by rw [e];simp [X1]⟩
  have h3:=D4 h;have i0:jq xs 1=xs.take 1:=by
   match xs,hp with
   |x::_,_=>simp [jq,Y]
  refine gr ?_;refine Ex.S4 (λk T H=>∃i:Nat,T=[.s6 2 5 0 (O xs),.func 167 [] [],.any,.d (Z i),.any,.any]/\H=[o0,o1,.cells (X1 xs)]/\i+k=O xs/\0<i/\jq xs i=xs.take i) ?_ (k:=O xs - 1) ⟨1,rfl,rfl,V,V,i0⟩;rintro k _ _ ⟨i,rfl,rfl,hk,hi,hc⟩;refine Ex.seq ?_;refine tB (F0 i (O xs)) ?_ (λh2=>?_) (λh2=>?_)
  .repeat' (first|refine lnr ?_|refine gx ?_|refine fq (λhw=>?_) λhw=>?_|refine ⟨rfl,rfl,_,rfl,?_⟩|refine ⟨rfl,rfl⟩|fail)
   all_goals exact cc
  .have h4:=C8 h2
   have r1:rd [o0,o1,.cells (X1 xs)] 2 (0+i * 5) 5=J ((Y xs i).enc.map .d):=NC (enc:=O1.enc) (λ_=>rfl) rfl V;have r2:rd [o0,o1,.cells (X1 xs)] 2 (0+((i:Int) - 1).toNat * 5) 5=J ((Y xs (i - 1)).enc.map .d):=by
    rw [show ((i:Int) - 1).toNat=i - 1 by omega];exact NC (enc:=O1.enc) (λ_=>rfl) rfl V
   refine gr ?_;have Df:i<O xs:=V
   have hio:0<=(i:Int) - 1/\(i:Int) - 1<O xs:=V
   refine tB (Ff (Y xs i) (Y xs (i - 1))) ?_ (λh5=>?_) (λh5=>?_)
   .repeat' (first|refine Pa r1 rfl ?_|refine Pa r2 rfl ?_|refine ak3 (ae2 _ _) ?_|refine ixs Df ?_|refine XV hio ?_|refine gx ?_|refine fq (λhw=>?_) λhw=>?_|refine ⟨rfl,rfl,_,rfl,?_⟩|refine ⟨rfl,rfl⟩|fail)
    exact rfl
   .repeat' (first|refine svr Df ?_|refine gx ?_|fail)
    have hli:O (xs.take i)=i:=by rw [P3];omega
    have hc1:jq xs (i+1)=xs.take i:=by rw [jq,hc,h5];simp [hi]
    refine Ex.S4 (λk2 T H=>∃(j:Nat) (acc:List O1),T=[.s6 2 5 0 (O xs),.func 167 [] [],.any,.d (Z (O acc)),.s6 2 5 (0+i * 5) (O xs - i),.d (Z j)]/\H=[o0,o1,.cells (X1 (acc++xs.drop (O acc)))]/\i+j+k2=O xs/\0<j/\O acc+1<=i+j/\0<O acc/\acc=jq xs (i+j)) ?_ (k:=O xs - i - 1) ⟨1,xs.take i,by rw [hli];rfl,by rw [hli,List.take_append_drop],V,V,V,V,hc1.symm⟩;rintro k2 _ _ ⟨j,acc,rfl,rfl,hk2,hj,bP9,bh5,hacc⟩;refine Ex.seq ?_;have aX:O acc<O xs:=V
    have hdr:=D8 aX;refine tB (F0 j (O xs - i:Nat)) ?_ (λh6=>?_) (λh6=>?_)
    .repeat' (first|refine lnr ?_|refine gx ?_|refine fq (λhw=>?_) λhw=>?_|refine ⟨rfl,rfl,_,rfl,?_⟩|refine ⟨rfl,rfl⟩|fail)
     all_goals exact cc
    .have h7:=C8 h6
     have hjl:j<O xs - i:=V
     have hjo:0<=(j:Int) - 1/\(j:Int) - 1<((O xs - i:Nat):Int):=V
     have hx:∀q,O acc<=q->q<O xs->rd [o0,o1,.cells (X1 (acc++xs.drop (O acc)))] 2 (0+q * 5) 5=J ((Y xs q).enc.map .d):=by
      intro q h1 h2;rw [<- Vk h1 h2];exact NC (enc:=O1.enc) (λ_=>rfl) rfl D
     have r3:=hx (i+j) V V;rw [show 0+(i+j) * 5=0+i * 5+j * 5 by omega] at r3;have r4:=hx (i+j - 1) V V;rw [show 0+(i+j - 1) * 5=0+i * 5+((j:Int) - 1).toNat * 5 by omega] at r4;refine gr ?_;refine tB (!Ff (Y xs (i+j)) (Y xs (i+j - 1))) ?_ (λh8=>?_) (λh8=>?_)
     .repeat' (first|refine Pa r3 rfl ?_|refine Pa r4 rfl ?_|refine ak3 (ae2 _ _) ?_|refine ixs hjl ?_|refine XV hjo ?_|refine gx ?_|refine fq (λhw=>?_) λhw=>?_|refine ⟨rfl,rfl,_,rfl,?_⟩|refine ⟨rfl,rfl⟩|fail)
      exact rfl
     .have w1:wr [o0,o1,.cells (X1 (acc++xs.drop (O acc)))] 2 (0+O acc * 5) ((Y xs (i+j)).enc.map .d)=J [o0,o1,.cells (X1 (acc++Y xs (i+j)::xs.drop (O acc+1)))]:=by
       rw [hdr];exact NV (enc:=O1.enc) (λ_=>rfl) rfl _
      have hb0:A8 ((Y xs (i+j)).enc.map .d)<=2+1:=by rw [GG];omega
      repeat' (first|refine Pa r3 rfl ?_|refine ixs hjl ?_|refine ixs aX ?_|refine mS rfl ⟨rfl,rfl⟩ rfl rfl rfl hb0 w1 ?_|refine gx ?_|fail)
      have YI:O (acc++[Y xs (i+j)])=O acc+1:=U
      exact ⟨k2 - 1,V,_,_,G5 (j6 rfl) (YM _),j+1,acc++[Y xs (i+j)],by rw [YI];rfl,by rw [YI,K2];rfl,V,V,V,V,by rw [<- Nat.add_assoc,jq,<- hacc];simp at h8;rw [h8];simp⟩
     .refine gr ?_
      exact ⟨k2 - 1,V,_,_,G5 (j6 rfl) (YM _),j+1,acc,rfl,rfl,V,V,V,V,by rw [<- Nat.add_assoc,jq,<- hacc];simp at h8;rw [h8];simp;omega⟩
    .have h7:=D4 h6
     have hij:i+j=O xs:=V
     rw [hij] at hacc;rw [<- hacc];have w2:=au4 o0 o1 acc (xs.drop (O acc));rw [List.length_drop] at w2
     repeat' (first|refine svr aX ?_|refine clS w2 ?_|refine svf (Nat.le_of_lt aX) bh5 ?_|refine gx ?_|fail)
     exact ⟨_,_,rfl,_,rfl,rfl⟩
   .refine gr ?_
    exact kk ⟨_,_,G5 (j6 rfl) (YM _),i+1,rfl,rfl,V,V,by rw [jq,hc,h5,H8 Df];simp⟩
  .have h4:=D4 h2
   obtain rfl:i=O xs:=V
   rw [hc,List.take_length];refine gr ?_;exact ⟨_,_,rfl,[],rfl,U⟩
 obtain ⟨r,H1,⟨zs,rfl,rfl⟩,h⟩:=key;exact ⟨zs,h⟩
theorem Bg:∀l:List O1,tf (l.flatMap O1.enc)=J l
 |[]=>rfl
 |f::l=>by
  show tf ([Z f.src.1,Z f.src.2,Z f.dst.1,Z f.dst.2,.bool f.dat]++l.flatMap O1.enc)=_
  simp only [x6,y5,Z,tf,Bg l]
def aM9 (o0 o1:x4)(fl:List O1)(hn:O fl<=1000000)(l:J2)(hm:l.may 2=W):Pm A 163 [.s6 2 5 0 (O fl),.func 164 [] []] [o0,o1,.cells (X1 fl)] l (.tuple []) [o0,o1,.cells (X1 (dV fl))]:=by
 refine ⟨1,λk hk=>?_⟩;obtain ⟨k,rfl⟩:∃j,k=j+1:=⟨k - 1,V⟩;have h1:A.dR 163=J (wP 164):=rfl;have l1:∀q:List O1,O (X1 q)=O q * 5:=λl=>by rw [X1,A9,bt (sz:=5) (λ_=>rfl)]
 have e1:rd [o0,o1,.cells (X1 fl)] 2 0 (O fl * 5)=J (X1 fl):=by
  simp only [rd,List.getElem?_cons_succ,List.getElem?_cons_zero,l1,Nat.zero_add,k9,if_true,List.drop_zero];rw [A4 (by rw [l1];exact k9 _)]
 have e2:L1 (X1 fl)=J (fl.flatMap O1.enc):=eW _;have e3:wr [o0,o1,.cells (X1 fl)] 2 0 (X1 (dV fl))=J [o0,o1,.cells (X1 (dV fl))]:=by
  simp only [wr,List.getElem?_cons_succ,List.getElem?_cons_zero,l1,wU,Nat.zero_add,k9,if_true,splice,List.take_zero,y5];rw [n5 (by rw [l1];exact k9 _),List.append_nil];rfl
 simp only [call,h1,wP,hm,hn,and_self,if_true,e1,e2,Bg];show (match wr [o0,o1,.cells (X1 fl)] 2 0 (X1 (dV fl)) with|some H1=>J (c7.tuple [],H1)|none=>K)=_
 rw [e3]
def aA3 {o0 o1:x4}(h0:o0.J4<=3)(h1:o1.J4<=3)(ys:List O1)(st:Nat):E6 [o0,o1,.cells (X1 ys)] st 8 3=3:=by
 have:=RC h0 h1 ys st;show E6 _ st (7+1) 3=3
 rw [E6];split
 .rfl
 .exact if_pos (Nat.max_eq_left this)
set_option maxHeartbeats 16000000 in
def aM1 (o0:x4)(h0:o0.J4<=3)(st:Nat)(fl:List O1)(hn:O fl<=1000000)(hp:0<O fl) :
  ∃zs,Pm A 105 [.ptr 1 0] [o0,.cells [.s6 2 5 0 (O fl)],.cells (X1 fl)] ⟨0,0,3,st⟩ (.s6 2 5 0 (O (jq (dV fl) (O fl)))) [o0,.cells [.s6 2 5 0 (O fl)],.cells (X1 (jq (dV fl) (O fl))++zs)]:=by
 have h1:(x4.cells [.s6 2 5 0 (O fl)]).J4<=3:=k9 _;have xR:=wU fl;have key:Pq A 105 [.ptr 1 0] [o0,.cells [.s6 2 5 0 (O fl)],.cells (X1 fl)] ⟨0,0,3,st⟩ λr H1=>∃zs,r= .s6 2 5 0 (O (jq (dV fl) (O fl)))/\H1=[o0,.cells [.s6 2 5 0 (O fl)],.cells (X1 (jq (dV fl) (O fl))++zs)]:=by
  refine Pq.go 1 ?_;have p1:=aM9 o0 (.cells [.s6 2 5 0 (O fl)]) fl hn;obtain ⟨zs,p2⟩:=aN0 o0 (.cells [.s6 2 5 0 (O fl)]) h0 h1 (B5 [o0,.cells [.s6 2 5 0 (O fl)],.cells (X1 (dV fl))] st 3) (dV fl) V V;rw [xR] at p2
  repeat' (first|refine c0 (iP:=RC h0 h1 _ _) (hcl:=aA3 h0 h1 _ _) (p1 _ rfl) rfl (h2:=?_)|refine c0 (iP:=RC h0 h1 _ _) (hcl:=aA3 h0 h1 _ _) p2 rfl (h2:=?_)|refine gx ?_|fail)
  exact ⟨_,_,rfl,zs,rfl,rfl⟩
 obtain ⟨r,H1,⟨zs,rfl,rfl⟩,h⟩:=key;exact ⟨zs,h⟩
def DM (c:p9):Nat->List O1
 |0=>[]
 |i+1=>DM c i++(if x5 (Y c.j7 i).erase 1 then uY i (O (Y c.j7 i).o7) (uK c i) else [])
def DP (c:p9)(L R:Nat->List J9):Nat->List O1
 |0=>[]
 |i+1=>DP c L R i++ve ((O c.j7:Int)+(i:Int)) (Y c.views i) (L i) (R i)
structure ab0 (c:p9)(i:Nat)(L R:List J9):Prop where
 ok:TE (Y c.views i) L R
 pl:Pf A 159 [cat c,.d (.str (Y c.views i).left)] (.d (R4 L))
 pr:O4 (Y c.views i).right []=F->Pf A 159 [cat c,.d (.str (Y c.views i).right)] (.d (R4 R))
 r0:O4 (Y c.views i).right []=W->R=[]
 len:∀s,O (ve s (Y c.views i) L R)<=6000
def Yt (a:A5.Data):(c7.d a).forget.J4=0:=by
 cases a with
 |slice n cs=>cases cs<;>rfl
 |_=>rfl
theorem Uj:∀l:List A5.Data,A8 (S9 (l.map .d))=0
 |[]=>rfl
 |a::l=>by simp only [G4,S9,A8,Uj l,Yt];rfl
def Hg (l:List A5.Data):(x4.cells (l.map .d)).forget.J4<=3:=by
 simp only [x4.forget,x4.J4,Uj];omega
def bf7 (l:List A5.Data):(x4.cells (l.map .d)).J4<=2:=by
 simp only [x4.J4,GG];omega
def aA4 {o0:x4}{n:Nat}(h0:o0.J4<=3)(ys:List O1):E6 [o0,.cells [.s6 2 5 0 n],.cells (X1 ys)] 0 8 2=3:=by
 have h1:F3 (([o0,.cells [.s6 2 5 0 n],.cells (X1 ys)].take 2).drop 0)=3:=by
  have:(x4.cells [.s6 2 5 0 n]).J4=3:=rfl;simp [F3,this];omega
 have h2:=RC h0 (o1:= .cells [.s6 2 5 0 n]) (k9 _) ys 0;show E6 _ 0 (6+1+1) 2=3
 rw [E6,h1];show E6 _ 0 (6+1) 3=3
 rw [E6];exact if_pos (Nat.max_eq_left h2)
theorem Uq (H:j9)(n:Nat):∀(xs:List A5.Data) (f:Nat),O xs<f->cH H n f (xs.map .d)=J (xs.map .d)
 |[],f+1,_=>rfl
 |x::xs,f+1,h=>by
  have ih:=Uq H n xs f (by simp at h;omega);simp only [G4,cH,ih]
def aB3 {a:r7}{s p:Nat}{T:List c7}{H:j9}{ds:List O1}{zs:List c7}(hT:T[s]? =J (.s6 p 5 0 (O ds)))(hH:H[p]? =J (.cells (X1 ds++zs)))(hl:O ds<=100000)(ha:a.results=[.slot s]:=by rfl)(hp:a.jx=F:=by rfl):Z4 a 0 (J (.ret,⟨T,H⟩))=J (.d (y6 O1.enc ds),[]):=by
 have l1:O (ds.flatMap O1.enc)=O ds * 5:=bt (sz:=5) (λ_=>rfl) ds;have l2:O (X1 ds)=O ds * 5:=by rw [X1,A9,l1]
 have h1:rd H p 0 (O ds * 5)=J (X1 ds):=by
  simp only [rd,hH,l5,l2,Nat.zero_add];rw [if_pos V,List.drop_zero,<- l2,List.take_left]
 have h2:=Uq H 0 (ds.flatMap O1.enc) 999999 V;unfold Z4;simp only [ha,hp,cB,qf,hT];rw [X1] at h1;simp only [finish,j5,if_false,j4,cH,Nat.not_lt_zero,h1,h2,eW];simp [c7.J4,y6]
theorem AO (xs:List O1):∀k,O (jq xs k)<=k
 |0=>k9 _
 |k+1=>by
  have:=AO xs k;simp only [jq,l5];split<;>simp<;>omega
def ar9 (l:J2):Pm A 166 [.d (.slice 0 []),.func 167 [] []] [] l (.d (.slice 0 [])) []:=by
 have key:Pq A 166 [.d (.slice 0 []),.func 167 [] []] [] l λr H1=>r= .d (.slice 0 [])/\H1=[]:=by
  refine Pq.go 4 ?_;refine gr ?_;refine tb (F0 0 2) (λh=>?_) (λh=>?_)
  .refine gr ?_
   exact ⟨_,_,rfl,rfl,rfl⟩
  .cases D4 h
 obtain ⟨r,H1,⟨rfl,rfl⟩,h⟩:=key;exact h
def ar8 (l:J2):Pm A 163 [.d (.slice 0 []),.func 164 [] []] [] l (.tuple []) []:=Pm.dR rfl rfl
def ar7 (o0:x4)(h0:o0.J4<=2)(st:Nat):Pm A 105 [.ptr 1 0] [o0,.cells [.own 5 0 []]] ⟨0,0,2,st⟩ (.d (.slice 0 [])) [o0,.cells [.own 5 0 []]]:=by
 have key:Pq A 105 [.ptr 1 0] [o0,.cells [.own 5 0 []]] ⟨0,0,2,st⟩ λr H1=>r= .d (.slice 0 [])/\H1=[o0,.cells [.own 5 0 []]]:=by
  refine Pq.go 1 ?_
  repeat' (first|refine c0 (iP:=by simp [F3]) (hcl:=by simp [E6,A8,c7.J4]) (ar8 _) rfl (h2:=?_)|refine c0 (iP:=by simp [F3]) (hcl:=by simp [E6,A8,c7.J4]) (ar9 _) rfl (h2:=?_)|refine gx ?_|fail)
  exact ⟨_,_,rfl,rfl,rfl⟩
 obtain ⟨r,H1,⟨rfl,rfl⟩,h⟩:=key;exact h
set_option maxHeartbeats 16000000 in
def bn3 (c:p9)(hs:G8 c)(hv:F1 c=W)(h8:O c.j7<=8)(hc8:∀i,i<O c.j7->O (Y c.j7 i).o7<=8)(h9:O c.views<=12)(L R:Nat->List J9)(hsr:∀i,i<O c.views->ab0 c i (L i) (R i)):Pf A 47 [cat c] (.d (y6 O1.enc (jq (dV (DM c (O c.j7)++DP c L R (O c.views))) (O (DM c (O c.j7)++DP c L R (O c.views)))))):=by
 refine Pf.gr 13 ?_;refine Ex.S4 (λk T H=>∃(i:Nat) (fl:List O1),T=[.any,.ptr 0 0,.any,.ptr 1 0,.any,.any,.any,.any,.d (y6 fR.enc c.j7),.d (Z (O c.j7)),.d (Z i),.any,.any,.any]/\H=HC c fl/\i+k=O c.j7/\fl=DM c i/\O fl<=i * 64) ?_ (k:=O c.j7) ⟨0,[],rfl,rfl,U,rfl,U⟩;rintro k _ _ ⟨i,fl,rfl,rfl,hk,hfl,hfn⟩;unfold HC;refine Ex.seq ?_;refine tb (F0 i (O c.j7)) (λh2=>?_) (λh2=>?_)
 .have h3:=C8 h2
  have e1:F0 (i:Int) 0=F:=by simp [A1]
  have e2:aH (O c.j7:Int) i=F:=by simp [x8];omega
  have hit:pV c i=W:=by rw [EE,e1,e2,hv];rfl
  have hcl:=hc8 i V;have uy:O (uK c i)<=8:=by have:=uL (Y c.j7 (i:Int).toNat).o7 (O (Y c.j7 (i:Int).toNat).o7);simp at this;unfold uK;simp;omega
  have p1:=aK4 c hs i hit;have p2:=aL9 c fl i (O (Y c.j7 i).o7) (uK c i) V V V;unfold HC at p2;refine gr ?_;refine tb (x5 (Y c.j7 i).erase 1) (λh4=>?_) (λh4=>?_)
  .repeat' (first|refine cl (p1) ?_|refine c0 p2 rfl (h2:=?_)|refine gx ?_|fail)
   have htl:=uZ i (O (Y c.j7 i).o7) (uK c i);have h64:O (uK c i) * O (Y c.j7 i).o7<=8 * 8:=Nat.mul_le_mul uy hcl;exact kk ⟨_,_,G5 (j6 rfl) (j6 rfl),i+1,fl++uY i (O (Y c.j7 i).o7) (uK c i),rfl,rfl,V,by rw [hfl,DM,h4];simp,by rw [l5];omega⟩
  .refine gr ?_
   exact kk ⟨_,_,G5 (j6 rfl) (j6 rfl),i+1,fl,rfl,rfl,V,by rw [hfl,DM,h4];simp,V⟩
 have h3:=D4 h2;obtain rfl:i=O c.j7:=V
 refine gr ?_;refine Ex.S4 (λk T H=>∃(i:Nat) (fs:List O1),T=[.any,.ptr 0 0,.any,.ptr 1 0,.any,.any,.any,.any,.any,.any,.any,.d (y6 Vw.enc c.views),.d (Z (O c.views)),.d (Z i)]/\H=[.cells (c.enc.map .d),.cells [B9 5 O1.enc fs]]/\i+k=O c.views/\fs=fl++DP c L R i/\O fs<=512+i * 6000) ?_ (k:=O c.views) ⟨0,fl,rfl,rfl,U,by simp [DP],V⟩;rintro k _ _ ⟨i,fs,rfl,rfl,hk,Ig,bR9⟩;refine Ex.seq ?_;refine tb (F0 i (O c.views)) (λh4=>?_) (λh4=>?_)
 .have h5:=C8 h4
  obtain ⟨ok,pl,pr,r0,len⟩:=hsr i V;have hlen:=len ((O c.j7:Int)+(i:Int));have p1:=aM0 c fs (Y c.views i) ((O c.j7:Int)+(i:Int)) (L i) (R i) ok V pl pr r0;unfold HC at p1
  repeat' (first|refine c0 p1 rfl (h2:=?_)|refine gx ?_|fail)
  exact kk ⟨_,_,G5 (j6 rfl) (j6 rfl),i+1,_,rfl,rfl,V,by rw [Ig,DP,K2],by rw [l5];omega⟩
 have h5:=D4 h4;obtain rfl:i=O c.views:=V
 rw [hfl] at Ig;rw [<- Ig]
 rcases Nat.eq_zero_or_pos (O fs) with hz|hz
 .obtain rfl:=List.length_eq_zero_iff.1 hz
  refine gr ?_;refine Ex.fz (Uv (p:=1) (z:=5) (xs:=[]) rfl rfl) ?_;have p5:=ar7 (x4.cells (c.enc.map .d)) (bf7 _)
  repeat' (first|refine c0 (p5 _) rfl (h2:=?_)|refine gx ?_|fail)
  exact ⟨_,rfl,rfl⟩
 refine gr ?_;refine Ex.fz (Yx (p:=1) (z:=5) (n:=O fs) (xs:=fs.flatMap O1.enc) rfl rfl V rfl rfl (Jd (λ_=>rfl) _)) ?_;obtain ⟨zs,p5⟩:=aM1 (x4.cells (c.enc.map .d)).forget (Hg _) (B5 [(x4.cells (c.enc.map .d)).forget,.cells [.s6 2 5 0 (O fs)],.cells (X1 fs)] 0 3) fs V hz;have hcl:E6 [(x4.cells (c.enc.map .d)).forget,.cells [.s6 2 5 0 (O fs)],.cells (X1 fs)] 0 8 2=3:=by
  have h:=aA4 (o0:=(x4.cells (c.enc.map .d)).forget) (n:=O fs) (Hg _) fs;exact h
 have iP:=RC (o0:=(x4.cells (c.enc.map .d)).forget) (o1:= .cells [.s6 2 5 0 (O fs)]) (Hg _) (k9 _) fs 0;show Ex A R5 0 _ ⟨[.any,.ptr 0 0,.any,.ptr 1 0,.any,.any,.any,.any,.any,.any,.any,_,_,_],[(x4.cells (c.enc.map .d)).forget,.cells [.s6 2 5 0 (O fs)],.cells (X1 fs)]⟩ _
 repeat' (first|refine c0 (iP:=iP) (hcl:=hcl) p5 rfl (h2:=?_)|refine gx ?_|fail)
 exact ⟨_,aB3 rfl rfl (by have:=AO (dV fs) (O fs);omega),rfl⟩
end Go.Proofs.YtibjocmpkoepoaaGreat


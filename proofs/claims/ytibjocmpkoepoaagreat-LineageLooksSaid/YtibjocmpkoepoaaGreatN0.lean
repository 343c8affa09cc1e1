import Derived.Test.YtibjocmpkoepoaaGreatX0
set_option linter.all false
open Bool renaming false_eq_true→j4,true→W,false→F
open List renaming append_assoc→D3,cons_append→A8,drop_of_length_le→n9,getElem_of_mem→R3,length_append→n5,length_cons→p8,length_map→A7,length_nil→y9,map_cons→K0,mem_append→D7,mem_map→J4,mem_singleton→q8,nil_append→B3,replicate→c9,set_cons_succ→r9,set_cons_zero→s4,take_length→H8,take_of_length_le→z7,length→O
open Nat renaming add_assoc→O8,le_of_ble_eq_true→j9,le_refl→l6,zero_le→O0
open Option renaming some→J,none→K
namespace Go.Proofs.YtibjocmpkoepoaaGreat
open Go.A1 Go.A1.S
attribute [local irreducible] Rx Ry Rn Ex Pf
def S7 (p:C7):List A1.Data:=[Z p.1,Z p.2]
def J1 (l:List C7):A1.Data:=C6 S7 l
def ue (s:Int):Nat->List C7
 |0=>[]
 |n+1=>ue s n++[(s,(n:Int))]
theorem dO (s:Int):∀n,O (ue s n)=n
 |0=>rfl
 |n+1=>by simp [ue,dO s n]
def aM5 (c:s5)(hs:G4 c)(name:M3)(h:Y2 c (bY c name)=W)(hl:O (P4 c (bY c name).toNat)<=2000):Pf A 159 [cat c,.d (.str name)] (.d (J1 (ue (bY c name) (O (P4 c (bY c name).toNat))))):=by
 have p1:=cd4 c hs name;have p2:=aM6 c hs _ h;obtain ⟨s,hs0⟩:∃s,bY c name=s:=⟨_,rfl⟩;rw [hs0] at p1 p2 hl ⊢;obtain ⟨ty,uZ⟩:∃ty,P4 c s.toNat=ty:=⟨_,rfl⟩;rw [uZ] at p2 hl ⊢;refine Pf.go 7 ?_;refine gc (And.intro p1 p2) ?_;refine Ex.T9 (λk T H=>∃(i:Nat) (acc:List C7),T=[.any,.any,.any,.any,.d (Z s),D9 2 S7 acc,.any,.d (Z (O ty)),.d (Z i)]/\H=[.cells (c.enc.map .d)]/\i+k=O ty/\acc=ue s i) ?_ (k:=O ty) ⟨0,[],rfl,rfl,U,rfl⟩;rintro k _ _ ⟨i,acc,rfl,rfl,hk,hacc⟩;have vM:O acc<=10000:=by rw [hacc,dO];omega
 refine Ex.seq ?_;refine tb (F6 i (O ty)) (λh2=>?_) (λh2=>?_)
 .have h3:=C4 h2
  repeat' (first|refine Bu (cs:=(S7 (s,(i:Int))).map .d) ?_|refine oN (enc:=S7) (s,(i:Int)) ?_|refine XR (ys:=[(s,(i:Int))]) (h2:=?_)|refine gx ?_|fail)
  exact kk ⟨i+1,acc++[(s,(i:Int))],rfl,rfl,V,by rw [hacc];rfl⟩
 .have h3:=B5 h2
  have h4:i=O ty:=V
  subst h4;refine gr ?_;exact ⟨_,rfl,by rw [hacc];simp [j3,J1,C6]⟩
def jM (e:List Y8):Nat->List Int
 |0=>[]
 |i+1=>jM e i++(if u7 (Y e i).op 2 then [(Y e i).col] else [])
theorem yF (e:List Y8):∀i,O (jM e i)<=i
 |0=>l6 _
 |i+1=>by
  have:=yF e i;simp only [jM,n5];split<;>simp<;>omega
def av6 {e:List Y8}{i:Nat}(h:u7 (Y e i).op 2=W):jM e (i+1)=jM e i++[(Y e i).col]:=by simp only [jM,h,if_true]
def av5 {e:List Y8}{i:Nat}(h:u7 (Y e i).op 2=F):jM e (i+1)=jM e i:=by simp [jM,h]
theorem Hq {e:List Y8}{x:Int}:∀i,i<=O e->x∈jM e i->∃t∈e,u7 t.op 2=W/\t.col=x
 |0,_,h=>by cases h
 |i+1,hi,h=>by
  simp only [jM,D7] at h
  rcases h with h|h
  .exact Hq i V h
  .split at h
   next h1=>
    simp only [q8] at h;exact ⟨_,N8 V,h1,h.symm⟩
   .cases h
def ji (e:List Y8):List Int:=aj (dW (jM e (O e)))
def WT {e:List Y8}{x:Int}(h:x∈ji e):∃t∈e,u7 t.op 2=W/\t.col=x:=by
 rw [ji,nV,tu] at h;exact Hq _ (l6 _) h
def GJ (e:List Y8):O (ji e)<=O e:=by
 have h1:=qO (dW (jM e (O e)));have h2:=yF e (O e);rw [tG] at h1;unfold ji;omega
def HI (xs:List Int):q6:=[.cells (xs.map iv)]
def lI:I7:=⟨0,0,1,1⟩
def Yh (xs:List Int):P0 (HI xs)=0:=by
 simp only [HI,P0,y6.L7,CC];rfl
def au1 (xs:List Int):aQ (HI xs) 0=W:=by
 simp only [HI,aQ,y6.L7,CC];rfl
section
variable {b:Nat} {l5 ops:List p7} {T:List c8} {n:Nat} {rl:List c8} {o9:List A1.Touch} {Q:List c8->q6->List c8->Prop}
def c0I {xs ys:List Int}{f:FuncId}{os:List y7}{u:List Nat}{v:c8}{args:List c8}(hc:Pm A f args (HI xs) lI v (HI ys))(h2:Ry A W8 b F l5 ops T (HI ys) (n+1) (v::rl) (.below 1::o9) Q)
  (ha:os.map (rq T n rl)=args:=by rfl) (hb:C5 args=1:=by rfl) (jG:A.prom f=F:=by rfl) (hm:A.mode f=0:=by rfl):Ry A W8 b F l5 (⟨.call f os,K,K,u⟩::ops) T (HI xs) n rl o9 Q:=by
 refine c0 hc rfl (m:=1) ?_ ?_ rfl rfl ?_ (λh=>by cases h) ha jG hm rfl (HD:=[]) (H2:=HI ys) rfl h2
 .show P0 (HI xs)<=1
  rw [Yh];omega
 .rw [hb]
  exact fG (by show P0 (HI xs)<=1;rw [Yh];omega)
 .show I7.mk 0 0 1 (E9 _ 0 1)=lI
  have:E9 (HI xs) 0 1=1:=by
   unfold E9;rw [if_neg (by decide),if_pos (by show aQ (HI xs) 0=W;exact au1 xs)]
  rw [this];rfl
end
def cg2 (xs:List Int)(h:O xs<=1000000):Pm A 263 [.B8 0 1 0 (O xs)] (HI xs) lI (.tuple []) (HI (dW xs)):=Pm.cM rfl (ac6 rfl rfl rfl (Nat.ble_eq_true_of_le h))
def cg0 (xs:List Int)(h:O xs<=1000000):Pm A 134 [.B8 0 1 0 (O xs)] (HI xs) lI (.B8 0 1 0 (O (aj xs))) (HI (aj xs++c9 (O xs - O (aj xs)) 0)):=Pm.cM rfl (Au rfl rfl rfl (Nat.ble_eq_true_of_le h))
def cg1 (l:I7):Pm A 263 [.d (.slice 0 [])] [] l (.tuple []) []:=Pm.cM rfl rfl
def bz3 (l:I7):Pm A 134 [.d (.slice 0 [])] [] l (.d (.slice 0 [])) []:=Pm.cM rfl rfl
def aS6 {T:List c8}{H:q6}{ds zs:List Int}(hT:T[1]? =J (.B8 0 1 0 (O ds)))(hH:H[0]? =J (.cells ((ds++zs).map iv)))(hl:O ds<=900):ep aR0 0 (J (.ret,⟨T,H⟩))=J (.d (ints ds),[]):=by
 have h1:rd H 0 0 (O ds * 1)=J (ds.map iv):=by
  simp only [rd,hH];rw [if_pos U];simp
 have h2:=QA H 0 ds 999999 V;have h3:=Dn ds;have h4:bz T H aR0.results=J [.B8 0 1 0 (O ds)]:=by
  show bz T H [.slot 1]=_
  simp only [bz,kZ,hT]
 unfold ep;simp only [h4];show finish F 0 [.B8 0 1 0 (O ds)] H=_
 simp only [finish,j4,if_false,j3,cV,Nat.not_lt_zero,h1,h2,Qq];simp [c8.L7,ints,C6,h3]
def ad8 (e:List Y8)(he:O e<=800)(hv:Z4 e=F):Pf A 225 [gn e] (.own 1 0 []):=by
 have p1:=ad6 e V;rw [hv] at p1;refine Pf.gr 6 ?_;refine tc (W) p1 (λh1=>?_) (λh1=>?_)
 .refine gr ?_
  exact ⟨_,rfl,rfl⟩
 .cases h1
set_option maxHeartbeats 8000000 in
def aN1 (e:List Y8)(he:O e<=800)(hv:Z4 e=W):Pf A 225 [gn e] (.d (ints (ji e))):=by
 have p1:=ad6 e V;rw [hv] at p1;refine Pf.gr 6 ?_;refine tc (F) p1 (λh1=>?_) (λh1=>?_)
 .cases h1
 refine gr ?_;refine Ex.au (λk T H=>∃(i:Nat) (acc:List Int),T=[.any,.any,D9 1 (λn=>[Z n]) acc,.any,gn e,.d (Z (O e)),.d (Z i)]/\H=[]/\i+k=O e/\acc=jM e i) ?_ (k:=O e) ⟨0,[],rfl,rfl,U,rfl⟩;rintro k _ _ ⟨i,acc,rfl,rfl,hk,hacc⟩;have vM:=yF e i;rw [<- hacc] at vM;refine Ex.seq ?_;refine tb (F6 i (O e)) (λh2=>?_) (λh2=>?_)
 .have h3:=C4 h2
  refine gr ?_;refine tb (u7 (Y e i).op 2) (λh4=>?_) (λh4=>?_)
  .refine gr ?_
   refine kk ⟨_,_,O3 (j9 rfl) (O0 _),i+1,acc++[(Y e i).col],rfl,rfl,V,by rw [hacc,av6 h4]⟩
  .refine gr ?_
   refine kk ⟨_,_,O3 (j9 rfl) (O0 _),i+1,acc,rfl,rfl,V,by rw [hacc,av5 h4]⟩
 .have h3:=B5 h2
  obtain rfl:i=O e:=V
  cases acc with
  |nil =>
   refine gr ?_;refine Ex.fz (LX rfl) ?_
   repeat' (first|refine c0 (cg1 _) rfl (h2:=?_)|refine c0 (bz3 _) rfl (h2:=?_)|refine gx ?_|fail)
   refine ⟨_,rfl,?_⟩;simp [ji,<- hacc,dW,aj,ints,C6,j3]
  |cons a r =>
   refine gr ?_;refine Ex.fz (JG rfl U rfl rfl (wE (λ_=>rfl) _)) ?_;have e1:((a::r).flatMap λn=>[Z n]).map c8.d=(a::r).map iv:=by rw [Dn,List.map_map];rfl
   have vN:=tG (a::r);have hlen:O (a::r)<=1000000:=V
   have pS:=cg2 (a::r) hlen;have pC:=cg0 (dW (a::r)) (by rw [vN];exact hlen);rw [vN] at pC;have hdl:=qO (dW (a::r));simp only [T8,r9,s4,List.map_nil,B3,y9,e1];generalize (gn e).forget=w;have eI:[y6.cells ((a::r).map iv)]=HI (a::r):=rfl;rw [eI]
   repeat' (first|refine c0I pS ?_|refine c0I pC ?_|refine gx ?_|fail)
   refine ⟨_,aS6 rfl rfl V,?_⟩;simp only [ji,<- hacc]
def bz2 (n:Nat)(h0:0<n)(h:n<=1000000)(l:I7):Pm A 226 [.P9,.d (Z n)] [] l (.own 2 0 []) []:=by
 refine ⟨1,λk hk=>?_⟩;obtain ⟨k,rfl⟩:∃j,k=j+1:=⟨k - 1,V⟩;have h1:A.cM 226=J (zf 2):=rfl;simp only [call,h1,zf,Z];rw [if_pos V]
def nF (l:List C7):List A1.Data:=[J1 l]
set_option maxHeartbeats 4000000 in
def aM7 (xss:List (List C7))(h0:O xss<=100)(h1:∀i,i<O xss->O (Y xss i)<=10000)(hp:0<O xss.flatten):Pf A 162 [.d (C6 nF xss)] (D9 2 S7 xss.flatten):=by
 refine Pf.gr 11 ?_;refine Ex.T9 (λk T H=>∃(i m:Nat),T=[.d (C6 nF xss),.any,.d (Z m),.any,.any,.any,.d (C6 nF xss),.d (Z (O xss)),.d (Z i),.any,.any,.any]/\H=[]/\i+k=O xss/\m<=i * 10000/\O xss.flatten=m+O (xss.drop i).flatten) ?_ (k:=O xss) ⟨0,0,rfl,rfl,U,U,U⟩;rintro k _ _ ⟨i,m,rfl,rfl,hk,hm,hfl⟩;refine Ex.seq ?_;refine tb (F6 i (O xss)) (λh2=>?_) (λh2=>?_)
 .have h3:=C4 h2
  have h4:=h1 i V;have h5:m<=1000000:=V
  rw [E0 V] at hfl;refine gr ?_;refine tb (F) (λh6=>?_) (λh6=>?_)
  .cases h6
  refine gr ?_;exact kk ⟨i+1,m+O (Y xss i),rfl,rfl,V,V,by simp at hfl ⊢;omega⟩
 have h3:=B5 h2;have h5:m<=1000000:=V
 rw [n9 V] at hfl;have p1:=bz2 m (by simp only [List.flatten_nil,y9] at hfl;omega) h5;clear h2 hm hfl
 repeat' (first|refine c1 (p1 _) rfl ?_|refine gx ?_|fail)
 refine Ex.T9 (λk T H=>∃(i:Nat) (acc:List C7),T=[.any,.any,.any,.any,D9 2 S7 acc,.any,.any,.any,.any,.d (C6 nF xss),.d (Z (O xss)),.d (Z i)]/\H=[]/\i+k=O xss/\O acc<=i * 10000/\xss.flatten=acc++(xss.drop i).flatten) ?_ (k:=O xss) ⟨0,[],rfl,rfl,U,U,U⟩;rintro k _ _ ⟨i,acc,rfl,rfl,hk,hl,hacc⟩;refine Ex.seq ?_;refine tl i (O xss) (λh6=>?_) (λh6=>?_)
 .have h7:=h1 i V
  rw [E0 V] at hacc;have h8:O acc<=1000000:=V
  refine gr ?_;exact kk ⟨i+1,acc++Y xss i,rfl,rfl,V,D,by rw [hacc];simp⟩
 .rw [n9 V] at hacc
  repeat' (first|refine owS ?_|refine gx ?_|fail)
  exact ⟨_,rfl,by rw [hacc];simp [j3,D9]⟩
def jY (e:List Y8)(ps:List C7):List C7:=(ji e).map λx=>Y ps x.toNat
theorem qX (e:List Y8)(ps:List C7):O (jY e ps)<=O e:=by
 have:=GJ e;simp [jY];omega
def GK:ji []=[]:=rfl
set_option maxHeartbeats 8000000 in
def ad5 (e:List Y8)(l r:List C7)(he:O e<=800)(hv:Z4 e=W\/e=[])(hl:O l<=1000)(hr:O r<=1000)(h0:0<O l)(hc:∀x,x∈ji e->0<=x/\x<O (l++r)) :
  Pf A 161 [gn e,.d (J1 l),.d (J1 r)] (.d (J1 (jY e (l++r)))):=by
 have p1:∃w,Pf A 225 [gn e] w/\(w= .d (ints (ji e))\/∃z,w= .own z 0 []/\ints (ji e)= .slice 0 []):=by
  rcases hv with hv|rfl
  .exact ⟨_,aN1 e he hv,.inl rfl⟩
  .exact ⟨_,ad8 [] U (by simp [Z4,s8]),.inr ⟨1,rfl,by rw [GK];rfl⟩⟩
 obtain ⟨w,p1,hw⟩:=p1;have p2:=aM7 [l,r] U (λi hi=>by
  match i,hi with
  |0,_=>rw [E6 U];show O l<=10000;omega
  |1,_=>rw [E6 U];show O r<=10000;omega) D
 have e2:[l,r].flatten=l++r:=U
 rw [e2] at p2;have hcl:=GJ e;obtain ⟨ps,hps⟩:∃ps,l++r=ps:=⟨_,rfl⟩;have Du:O ps<=2000:=by rw [<- hps];simp;omega
 rw [hps] at p2 hc ⊢;unfold jY;obtain ⟨cs,hcs⟩:∃cs,ji e=cs:=⟨_,rfl⟩;rw [hcs] at hw hcl hc ⊢;have hnl:O cs<=1000:=V
 have run:∀w:c8,(w= .d (ints cs)\/(w= .own 1 0 []/\cs=[]))->Pf A 225 [gn e] w->Pf A 161 [gn e,.d (J1 l),.d (J1 r)] (.d (J1 (cs.map λx=>Y ps x.toNat))):=by
  rintro w (rfl|⟨rfl,rfl⟩) p1
  all_goals refine Pf.go 7 ?_
  .repeat' (first|refine cl (p2) ?_|refine clT p1 (h2:=?_)|refine gx ?_|fail)
   refine Ex.aY (λk T H=>∃(i:Nat) (acc:List C7) (w0 w1 w2 w3 w6:c8),T=[w0,w1,w2,w3,D9 2 S7 ps,D9 2 S7 acc,w6,.d (ints cs),.d (Z (O cs)),.d (Z i)]/\H=[]/\i+k=O cs/\acc=(cs.take i).map λx=>Y ps x.toNat) ?_ (k:=O cs) ⟨0,[],_,_,_,_,_,rfl,rfl,U,U⟩;rintro k _ _ ⟨i,acc,w0,w1,w2,w3,w6,rfl,rfl,hk,hacc⟩;have vM:O acc<=10000:=by rw [hacc];simp;omega
   refine Ex.nT ?_;refine Ex.seq ?_;refine tb (F6 i (O cs)) (λh2=>?_) (λh2=>?_)
   .have h3:=C4 h2
    have h4:=hc _ (N8 (l:=cs) (i:=i) V)
    repeat' (first|refine oN (enc:=S7) (Y ps (Y cs i).toNat) ?_|refine XR (ys:=[Y ps (Y cs i).toNat]) (h2:=?_)|refine gx ?_|fail)
    exact kk ⟨i+1,acc++[Y ps (Y cs i).toNat],_,_,_,_,_,rfl,rfl,V,by rw [hacc,E2 V];simp⟩
   .have h3:=B5 h2
    obtain rfl:i=O cs:=V
    refine gr ?_;exact ⟨_,rfl,by rw [hacc];simp [j3,J1,C6]⟩
  .repeat' (first|refine cl (p2) ?_|refine bR6 p1 (h2:=?_)|refine cb0 (h2:=?_)|refine gx ?_|fail)
   refine Ex.aY (λk T H=>∃(w0 w1 w2 w3 w4 w6 w7:c8),T=[w0,w1,w2,w3,w4,.own 2 0 [],w6,w7,.d (Z 0),.d (Z 0)]/\H=[]/\k=0) ?_ (k:=0) ⟨_,_,_,_,_,_,_,rfl,rfl,rfl⟩;rintro k _ _ ⟨w0,w1,w2,w3,w4,w6,w7,rfl,rfl,hk⟩;refine Ex.nT ?_;refine Ex.seq ?_;refine tb (F6 0 0) (λh2=>?_) (λh2=>?_)
   .have h3:=C4 h2
    omega
   .refine gr ?_
    exact ⟨_,rfl,by simp [j3,J1,C6]⟩
 rcases hw with rfl|⟨z,rfl,h⟩
 .exact run _ (.inl rfl) p1
 .have hz:cs=[]:=by
   cases cs with
   |nil=>rfl
   |cons a q=>simp [ints,C6] at h
  rcases hv with hv|rfl
  .exact run _ (.inl rfl) (by have:=aN1 e he hv;rw [hcs] at this;exact this)
  .exact run _ (.inr ⟨rfl,hz⟩) (ad8 [] U (by simp [Z4,s8]))
def HC (c:s5)(fl:List A3):q6:=[.cells (c.enc.map .d),.cells [D9 5 A3.enc fl]]
def lCo:I7:=⟨0,0,2,2⟩
def vA (p:C7):c8:= .agg [.d (Z p.1),.d (Z p.2)]
def yJ (ps:List C7)(to:C7)(d:Bool):List A3:=ps.map λp=>⟨p,to,d⟩
set_option maxHeartbeats 8000000 in
def Nh (c:s5)(fl:List A3)(ps:List C7)(to:C7)(d:Bool)(h:O fl+O ps<=1000000):Pm A 157 [.ptr 1 0,.d (J1 ps),vA to,.d (.bool d)] (HC c fl) lCo (.tuple []) (HC c (fl++yJ ps to d)):=by
 have key:Pq A 157 [.ptr 1 0,.d (J1 ps),vA to,.d (.bool d)] (HC c fl) lCo λv H1=>v= .tuple []/\H1=HC c (fl++yJ ps to d):=by
  refine Pq.go 5 ?_;unfold HC vA;refine gr ?_;refine Ex.au (λk T H=>∃i:Nat,T=[.ptr 1 0,.any,.any,.d (.bool d),.ptr 2 0,.any,.d (J1 ps),.d (Z (O ps)),.d (Z i)]/\H=[.cells (c.enc.map .d),.cells [D9 5 A3.enc (fl++yJ (ps.take i) to d)],.cells [.d (Z to.1),.d (Z to.2)]]/\i+k=O ps) ?_ (k:=O ps) ⟨0,rfl,by simp [yJ],U⟩;rintro k _ _ ⟨i,rfl,rfl,hk⟩;refine Ex.seq ?_;refine tb (F6 i (O ps)) (λh2=>?_) (λh2=>?_)
  .have h3:=C4 h2
   have h4:O (fl++yJ (ps.take i) to d)<=1000000:=by simp [yJ];omega
   have hr:roomFor (O (fl++yJ (ps.take i) to d)+1) 40=W:=by simp only [roomFor,decide_eq_true_eq];omega
   have h5:yJ (ps.take (i+1)) to d=yJ (ps.take i) to d++[⟨Y ps i,to,d⟩]:=by
    unfold yJ;rw [E2 V];simp
   repeat' (first|refine Bu (cs:=(A3.enc ⟨Y ps i,to,d⟩).map .d) ?_|refine oN (enc:=A3.enc) ⟨Y ps i,to,d⟩ ?_|refine acN (enc:=A3.enc) (xs:=fl++yJ (ps.take i) to d) ⟨Y ps i,to,d⟩ hr (h2:=?_)|refine soO (h2:=?_)|refine gx ?_|fail)
   exact kk ⟨_,_,O3 (j9 rfl) (j9 rfl),i+1,rfl,by rw [h5,<- D3];rfl,V⟩
  .have h3:=B5 h2
   obtain rfl:i=O ps:=V
   refine gr ?_;exact ⟨_,_,rfl,rfl,by rw [H8];rfl⟩
 obtain ⟨v,H1,⟨rfl,rfl⟩,h⟩:=key;exact h
def mX (s p:Int):Nat->List A3
 |0=>[]
 |k+1=>mX s p k++(if !u7 k p then yJ [(s,p)] (s,(k:Int)) F else [])
theorem xA (s p:Int):∀k,O (mX s p k)<=k
 |0=>l6 _
 |k+1=>by
  have:=xA s p k;simp only [mX,n5];split<;>simp [yJ]<;>omega
def iM (s:Int)(n:Nat)(wW:List Int):List A3:=wW.flatMap λp=>mX s p n
theorem rZ (s:Int)(n:Nat):∀wW:List Int,O (iM s n wW)<=O wW * n
 |[]=>by simp [iM]
 |p::wW=>by
  have h1:=rZ s n wW;have h2:=xA s p n;simp only [iM,List.flatMap_cons,n5,p8,Nat.add_mul,Nat.one_mul] at h1 ⊢;omega
set_option maxHeartbeats 8000000 in
def bx7 (c:s5)(fl:List A3)(s:Int)(n:Nat)(wW:List Int)(hf:O fl<=100000)(hn:n<=100)(hp:O wW<=100) :
  Pm A 102 [.ptr 1 0,.d (Z s),.d (Z n),.d (ints wW)] (HC c fl) lCo (.tuple []) (HC c (fl++iM s n wW)):=by
 have key:Pq A 102 [.ptr 1 0,.d (Z s),.d (Z n),.d (ints wW)] (HC c fl) lCo λv H1=>v= .tuple []/\H1=HC c (fl++iM s n wW):=by
  refine Pq.go 7 ?_;refine gr ?_;refine Ex.aY (λk T H=>∃(i:Nat) (w3 w4 w5 w9 Ic:c8),T=[.ptr 1 0,.d (Z s),.d (Z n),w3,w4,w5,.d (ints wW),.d (Z (O wW)),.d (Z i),w9,Ic]/\H=HC c (fl++iM s n (wW.take i))/\i+k=O wW) ?_ (k:=O wW) ⟨0,_,_,_,_,_,rfl,by simp [iM],U⟩;rintro k _ _ ⟨i,w3,w4,w5,w9,Ic,rfl,rfl,hk⟩;refine Ex.nT ?_;refine Ex.seq ?_;refine tb (F6 i (O wW)) (λh2=>?_) (λh2=>?_)
  .have h3:=C4 h2
   have h4:=rZ s n (wW.take i);have h5:O (wW.take i) * n<=100 * 100:=Nat.mul_le_mul D hn;have h6:iM s n (wW.take (i+1))=iM s n (wW.take i)++mX s (Y wW i) n:=by
    unfold iM;rw [E2 V];simp
   refine gr ?_;obtain ⟨p,hpe⟩:∃p,Y wW i=p:=⟨_,rfl⟩;rw [hpe] at h6 ⊢;refine Ex.aY (λk T H=>∃(j:Nat) (w3 w5:c8),T=[.ptr 1 0,.d (Z s),.d (Z n),w3,.d (Z p),w5,.d (ints wW),.d (Z (O wW)),.d (Z i),.d (Z n),.d (Z j)]/\H=HC c ((fl++iM s n (wW.take i))++mX s p j)/\j+k=n) ?_ (k:=n) ⟨0,_,_,rfl,by simp [mX],U⟩;rintro m _ _ ⟨j,w3,w5,rfl,rfl,hm⟩;refine Ex.nT ?_;refine Ex.seq ?_;refine tl j n (λg3=>?_) (λg3=>?_)
   .have g4:=xA s p j
    refine gr ?_;refine tb (!u7 j p) (λg5=>?_) (λg5=>?_)
    .have pa:=Nh c ((fl++iM s n (wW.take i))++mX s p j) [(s,p)] (s,(j:Int)) F (by simp only [n5,List.length_singleton];omega)
     repeat' (first|refine Bu (cs:=(S7 (s,p)).map .d) ?_|refine Bu (cs:=(S7 (s,(j:Int))).map .d) ?_|refine oN (enc:=S7) (s,p) ?_|refine c0 pa rfl (h2:=?_)|refine gx ?_|fail)
     exact ⟨m - 1,V,j+1,_,_,rfl,by simp only [mX,g5,if_true,D3];rfl,V⟩
    .refine gr ?_
     exact ⟨m - 1,V,j+1,_,_,rfl,by simp only [mX,g5,j4,if_false,List.append_nil],V⟩
   .obtain rfl:j=n:=V
    refine gr ?_;exact kk ⟨i+1,_,_,_,_,_,rfl,by rw [h6,D3],V⟩
  .have h3:=B5 h2
   obtain rfl:i=O wW:=V
   refine gr ?_;exact ⟨_,_,rfl,rfl,by rw [H8];rfl⟩
 obtain ⟨v,H1,⟨rfl,rfl⟩,h⟩:=key;exact h
def tO (s:Int)(l r:List C7):Nat->List A3
 |0=>[]
 |k+1=>tO s l r k++(yJ [Y l k,Y r k] (s,(k:Int)) W++yJ [Y l 0,Y r 0] (s,(k:Int)) F)
theorem EV (s:Int)(l r:List C7):∀k,O (tO s l r k)=4 * k
 |0=>rfl
 |k+1=>by
  have:=EV s l r k;simp only [tO,n5,yJ,A7,p8,y9];omega
set_option maxHeartbeats 8000000 in
def by7 (c:s5)(fl:List A3)(s:Int)(l r:List C7)(hf:O fl<=100000)(hl:O l<=100)(hr:O l<=O r) :
  Pm A 160 [.ptr 1 0,.d (Z s),.d (J1 l),.d (J1 r)] (HC c fl) lCo (.tuple []) (HC c (fl++tO s l r (O l))):=by
 have key:Pq A 160 [.ptr 1 0,.d (Z s),.d (J1 l),.d (J1 r)] (HC c fl) lCo λv H1=>v= .tuple []/\H1=HC c (fl++tO s l r (O l)):=by
  refine Pq.go 4 ?_;refine gr ?_;refine Ex.au (λk T H=>∃i:Nat,T=[.ptr 1 0,.d (Z s),.d (J1 l),.d (J1 r),.any,.any,.d (Z (O l)),.d (Z i)]/\H=HC c (fl++tO s l r i)/\i+k=O l) ?_ (k:=O l) ⟨0,rfl,by simp [tO],U⟩;rintro k _ _ ⟨i,rfl,rfl,hk⟩;have hul:=EV s l r i;refine Ex.seq ?_;refine tb (F6 i (O l)) (λh2=>?_) (λh2=>?_)
  .have h3:=C4 h2
   have p1:=Nh c (fl++tO s l r i) [Y l i,Y r i] (s,(i:Int)) W (by simp only [n5,p8,y9];omega);have p2:=Nh c ((fl++tO s l r i)++yJ [Y l i,Y r i] (s,(i:Int)) W) [Y l 0,Y r 0] (s,(i:Int)) F (by simp only [n5,p8,y9,yJ,A7];omega);unfold HC vA at *
   repeat' (first|refine Bu (cs:=(S7 (s,(i:Int))).map .d) ?_|refine Yr (S7 (Y l i)++S7 (Y r i)) ?_|refine c0 p1 rfl (h2:=?_)|refine Yr (S7 (Y l 0)++S7 (Y r 0)) ?_|refine c0 p2 rfl (h2:=?_)|refine ixZ (h2:=?_)|refine gx ?_|fail)
   exact kk ⟨_,_,O3 (j9 rfl) (j9 rfl),i+1,rfl,by simp only [tO,<- D3];rfl,V⟩
  .have h3:=B5 h2
   obtain rfl:i=O l:=V
   refine gr ?_;exact ⟨_,_,rfl,rfl,rfl⟩
 obtain ⟨v,H1,⟨rfl,rfl⟩,h⟩:=key;exact h
structure FT (e:List Y8)(n:Nat):Prop where
 len:O e<=64
 ok:Z4 e=W\/e=[]
 col:∀x,x∈ji e->0<=x/\x<n
def nE (v:Vw)(ps:List C7)(i:Nat):List (List C7):=(v.items.take i).map λx=>jY x.expr ps
def Js (v:Vw)(ps:List C7)(i:Nat):List (List C7):=(v.F4.take i).map λx=>jY x.expr ps
def tM (v:Vw)(ps:List C7):List (List C7):=nE v ps (O v.items)++Js v ps (O v.F4)
def onP (v:Vw)(L R:List C7)(i:Nat):List C7:=(v.on.take i).flatMap λp=>[Y L p.1.toNat,Y R p.2.toNat]
def Jq (v:Vw)(L R:List C7):List C7:=jY v.wh (L++R)++[Y L 0]++(if F6 0 (O R) then [Y R 0] else [])++onP v L R (O v.on)++(if u7 v.kind 1||v.distinct then (nE v (L++R) (O v.items)).flatten else [])
def wV (s:Int)(ds:List (List C7))(cs:List C7):Nat->List A3
 |0=>[]
 |k+1=>wV s ds cs k++(yJ (Y ds k) (s,(k:Int)) W++yJ cs (s,(k:Int)) F)
def mF (s:Int)(v:Vw)(L R:List C7):List A3:=if u7 v.kind 2 then tO s L R (O L) else wV s (tM v (L++R)) (Jq v L R) (O (tM v (L++R)))
structure Jd (v:Vw)(L R:List C7):Prop where
 l0:0<O L
 l8:O L<=8
 r8:O R<=8
 s6:O v.items+O v.F4<=8
 on8:O v.on<=8
 on:∀i,i<O v.on->0<=(Y v.on i).1/\(Y v.on i).1<O L/\0<=(Y v.on i).2/\(Y v.on i).2<O R
 wh:FT v.wh (O (L++R))
 it:∀i,i<O v.items->FT (Y v.items i).expr (O (L++R))
 ag:∀i,i<O v.F4->FT (Y v.F4 i).expr (O (L++R))
 un:u7 v.kind 2=W->O L<=O R
def JW (v:Vw)(L R:List C7)(i:Nat):O (onP v L R i)<=2 * O v.on:=by
 have:∀l:List (Int×Int),O (l.flatMap λp=>[Y L p.1.toNat,Y R p.2.toNat])=2 * O l:=by
  intro l
  induction l with
  |nil=>rfl
  |cons a l ih=>grind
 grind [onP,List.length_take]
def uU {i6:List (List C7)}(h:∀d,d∈i6->O d<=64):O i6.flatten<=64 * O i6:=by
 induction i6 with
 |nil=>simp
 |cons a l ih =>
  grind
theorem DZ (s:Int)(ds:List (List C7))(cs:List C7)(h:∀i,i<O ds->O (Y ds i)<=64):∀i,i<=O ds->O (wV s ds cs i)<=i * (64+O cs)
 |0,_=>by simp [wV]
 |k+1,hk=>by
  have h1:=DZ s ds cs h k V
  grind [wV,n5,yJ,A7,Nat.succ_mul]
def CW {v:Vw}{ps:List C7}(hi:∀i,i<O v.items->FT (Y v.items i).expr (O ps))(ha:∀i,i<O v.F4->FT (Y v.F4 i).expr (O ps)):∀d,d∈tM v ps->O d<=64:=by
 intro d hd;simp only [tM,nE,Js,D7,J4] at hd
 rcases hd with ⟨x,hx,rfl⟩|⟨x,hx,rfl⟩
 .obtain ⟨q,hq,rfl⟩:=R3 (List.mem_of_mem_take hx)
  have h1:=(hi q hq).len
  grind [E6,qX]
 .obtain ⟨q,hq,rfl⟩:=R3 (List.mem_of_mem_take hx)
  have h1:=(ha q hq).len
  grind [E6,qX]
set_option maxHeartbeats 32000000 in
def bx8 (c:s5)(fl:List A3)(v:Vw)(s:Int)(L R:List C7)(h:Jd v L R)(hf:O fl<=100000)(pl:Pf A 159 [cat c,.d (.str v.left)] (.d (J1 L)))(pr:P8 v.right []=F->Pf A 159 [cat c,.d (.str v.right)] (.d (J1 R)))(hr0:P8 v.right []=W->R=[]) :
  Pm A 104 [.ptr 1 0,cat c,.d (Z s),vw' v] (HC c fl) lCo (.tuple []) (HC c (fl++mF s v L R)):=by
 have key:Pq A 104 [.ptr 1 0,cat c,.d (Z s),vw' v] (HC c fl) lCo λr H1=>r= .tuple []/\H1=HC c (fl++mF s v L R):=by
  obtain ⟨l0,l8,r8,s6,on8,on,wh,it,ag,un⟩:=h;have hlr:O (L++R)<=16:=D
  have hb0:∀w7:c8,(w7= .d (J1 R)\/∃z,w7= .own z 0 []/\J1 R= .slice 0 [])->w7.L7=0:=by
   rintro _ (rfl|⟨_,rfl,_⟩)<;>rfl
  refine Pq.go 28 ?_;unfold HC;refine gc pl ?_;refine Ex.RL (λst=>∃w7:c8,(w7= .d (J1 R)\/∃z,w7= .own z 0 []/\J1 R= .slice 0 [])/\st=⟨[.ptr 1 0,cat c,.d (Z s),vw' v,.ptr 2 0,.ptr 3 0,.d (J1 L),w7,.any,.any,.any,.any,.any,.any,.any,.any,.any,.any,.any,.any,.any,.any,.any,.any,.any,.any,.any,.any,.any,.any,.any,.any],[.cells (c.enc.map .d),.cells [D9 5 A3.enc fl],.cells (c.enc.map .d),.cells (v.enc.map .d)]⟩) ?_ ?_
  .skip
   refine tb (!P8 v.right []) (λh=>?_) (λh=>?_)
   .have pr:=pr (by simpa using h)
    refine gc pr ?_;exact ⟨_,.inl rfl,rfl⟩
   .refine gr ?_
    exact ⟨_,.inr ⟨2,rfl,by rw [hr0 (by simpa using h)];rfl⟩,rfl⟩
  rintro _ ⟨w7,Zx,rfl⟩;refine gr ?_;refine tb (u7 v.kind 2) (λhk=>?_) (λhk=>?_)
  .have p:=by7 c fl s L R hf V (un hk)
   unfold HC at p
   repeat' (first|refine msv Zx ?_|refine c0 p rfl (h2:=?_)|refine gx ?_|fail)
   exact ⟨_,_,rfl,rfl,by rw [mF,hk];rfl⟩
  refine gr ?_;refine Ex.au (λk T H=>∃i:Nat,T=[.ptr 1 0,.any,.d (Z s),.any,.any,.ptr 3 0,.d (J1 L),w7,D9 1 nF (nE v (L++R) i),.any,.any,.any,.any,.any,.any,.any,.any,.d (C6 RY.enc v.items),.d (Z (O v.items)),.d (Z i),.any,.any,.any,.any,.any,.any,.any,.any,.any,.any,.any,.any]/\H=[.cells (c.enc.map .d),.cells [D9 5 A3.enc fl],.cells (c.enc.map .d),.cells (v.enc.map .d)]/\i+k=O v.items) ?_ (k:=O v.items) ⟨0,rfl,rfl,U⟩;rintro k _ _ ⟨i,rfl,rfl,hk1⟩;have hdl:O (nE v (L++R) i)<=8:=by simp [nE];omega
  refine Ex.seq ?_;refine tb (F6 i (O v.items)) (λh2=>?_) (λh2=>?_)
  .have h3:=C4 h2
   obtain ⟨e1,e2,e3⟩:=it i V;have p1:=ad5 (Y v.items i).expr L R V e2 V V l0 e3;have e4:nE v (L++R) (i+1)=nE v (L++R) i++[jY (Y v.items i).expr (L++R)]:=by
    unfold nE;rw [E2 V];simp
   repeat' (first|refine msv Zx ?_|refine Bv p1 ?_|refine gx ?_|fail)
   exact kk ⟨_,_,O3 (by rcases Zx with rfl|⟨_,rfl,_⟩<;>exact j9 rfl) (j9 rfl),i+1,by rw [e4];rfl,rfl,V⟩
  have h3:=B5 h2;obtain rfl:i=O v.items:=V
  have pw:=ad5 v.wh L R (by have:=wh.len;omega) wh.ok V V l0 wh.col;have Dv:=qX v.wh (L++R);have cI0:=wh.len;have PS:L.take 1=[Y L 0]:=by
   cases L with
   |nil=>simp at l0
   |cons a q=>simp [Y]
  have pc:=aM7 [jY v.wh (L++R),L.take 1] U (λi hi=>by
   match i,hi with
   |0,_=>rw [E6 U];show O (jY v.wh (L++R))<=10000;omega
   |1,_=>rw [E6 U];show O (L.take 1)<=10000;simp;omega) D
  have et:[jY v.wh (L++R),L.take 1].flatten=jY v.wh (L++R)++[Y L 0]:=by simp [PS]
  rw [et] at pc;obtain ⟨C0,hC0⟩:∃C0,jY v.wh (L++R)++[Y L 0]=C0:=⟨_,rfl⟩;have cD5:O C0<=65:=by rw [<- hC0];simp;omega
  rw [hC0] at pc;obtain ⟨i6,hD⟩:∃i6,nE v (L++R) (O v.items)=i6:=⟨_,rfl⟩;have hDl:O i6=O v.items:=by rw [<- hD];simp [nE]
  have aS9:∀d,d∈i6->O d<=64:=by
   intro d hd;rw [<- hD] at hd;simp only [nE,J4] at hd;obtain ⟨x,hx,rfl⟩:=hd;obtain ⟨q,hq,rfl⟩:=R3 (List.mem_of_mem_take hx);have h1:=(it q hq).len;rw [E6 hq] at h1;have:=qX v.items[q].expr (L++R);omega
  rw [hD] at hdl ⊢
  repeat' (first|refine msv Zx ?_|refine Bv pw ?_|refine cl (pc) ?_|refine gx ?_|fail)
  refine Ex.RL (λst=>st=⟨[.ptr 1 0,.any,.d (Z s),.any,.any,.ptr 3 0,.d (J1 L),w7,D9 1 nF i6,.any,D9 2 S7 (C0++(if F6 0 (O R) then [Y R 0] else [])),.any,.any,.any,.any,.any,.any,.d (C6 RY.enc v.items),.d (Z (O v.items)),.d (Z (O v.items)),.any,.any,.any,.any,.any,.any,.any,.any,.any,.any,.any,.any],[.cells (c.enc.map .d),.cells [D9 5 A3.enc fl],.cells (c.enc.map .d),.cells (v.enc.map .d)]⟩) ?_ ?_
  .skip
   refine tB (F6 0 (O R)) ?_ (λh=>?_) (λh=>?_)
   .repeat' (first|refine msv Zx ?_|refine gx ?_|refine fq (λhw=>?_) λhw=>?_|refine ⟨rfl,rfl,_,rfl,?_⟩|refine ⟨rfl,rfl⟩|fail)
    all_goals exact cc
   .have h3:=C4 h
    have h4:0<O R:=V
    rw [h];simp only [if_true]
    repeat' (first|refine msv Zx ?_|refine oN (enc:=S7) (Y R 0) ?_|refine XR (ys:=[Y R 0]) (h2:=?_)|refine gx ?_|fail)
    exact rfl
   .rw [h]
    simp only [j4,if_false,List.append_nil];refine gr ?_;exact rfl
  rintro _ rfl;obtain ⟨C1,hC1⟩:∃C1,C0++(if F6 0 (O R) then [Y R 0] else [])=C1:=⟨_,rfl⟩;have cD6:O C1<=66:=by rw [<- hC1];split<;>simp<;>omega
  rw [hC1];refine gr ?_;refine Ex.au (λk T H=>∃(i:Nat) (acc:List C7),T=[.ptr 1 0,.any,.d (Z s),.any,.any,.ptr 3 0,.d (J1 L),w7,D9 1 nF i6,.any,D9 2 S7 acc,.any,.any,.any,.any,.any,.any,.any,.any,.any,.d (C6 (λp=>[Z p.1,Z p.2]) v.on),.d (Z (O v.on)),.d (Z i),.any,.any,.any,.any,.any,.any,.any,.any,.any]/\H=[.cells (c.enc.map .d),.cells [D9 5 A3.enc fl],.cells (c.enc.map .d),.cells (v.enc.map .d)]/\i+k=O v.on/\acc=C1++onP v L R i) ?_ (k:=O v.on) ⟨0,C1,rfl,rfl,U,by simp [onP]⟩;rintro k _ _ ⟨i,acc,rfl,rfl,hk2,hacc⟩;refine Ex.seq ?_;refine tb (F6 i (O v.on)) (λh2=>?_) (λh2=>?_)
  .have h3:=C4 h2
   obtain ⟨q1,q2,q3,q4⟩:=on i V;have hol:=JW v L R i;have vM:O acc<=82:=by rw [hacc,n5];omega
   repeat' (first|refine msv Zx ?_|refine Yr (S7 (Y L (Y v.on i).1.toNat)++S7 (Y R (Y v.on i).2.toNat)) ?_|refine XR (ys:=[Y L (Y v.on i).1.toNat,Y R (Y v.on i).2.toNat]) (h2:=?_)|refine gx ?_|fail)
   exact kk ⟨_,_,O3 (by rcases Zx with rfl|⟨_,rfl,_⟩<;>exact j9 rfl) (j9 rfl),i+1,_,rfl,rfl,V,by rw [hacc];unfold onP;rw [E2 V];simp⟩
  have h3:=B5 h2;obtain rfl:i=O v.on:=V
  obtain ⟨C2,hC2⟩:∃C2,C1++onP v L R (O v.on)=C2:=⟨_,rfl⟩;have cF6:=JW v L R (O v.on);have cD7:O C2<=82:=by rw [<- hC2];simp only [n5];omega
  rw [hC2] at hacc;rw [hacc];clear hacc acc;refine gr ?_;refine Ex.RL (λst=>∃w20 w21 w22 w23 w24 w25:c8,(w20.L7=0/\w21.L7=0/\w22.L7=0/\w23.L7=0/\w24.L7=0/\w25.L7=0)/\st=⟨[.ptr 1 0,.any,.d (Z s),.any,.any,.ptr 3 0,.d (J1 L),w7,D9 1 nF i6,.any,D9 2 S7 (C2++(if u7 v.kind 1||v.distinct then i6.flatten else [])),.any,.any,.any,.any,.any,.any,.any,.any,.any,w20,w21,w22,w23,w24,w25,.any,.any,.any,.any,.any,.any],[.cells (c.enc.map .d),.cells [D9 5 A3.enc fl],.cells (c.enc.map .d),.cells (v.enc.map .d)]⟩) ?_ ?_
  .skip
   refine tb ((u7 v.kind 1||v.distinct)) (λh=>?_) (λh=>?_)
   .repeat' (first|refine moT (h2:=?_)|refine gx ?_|fail)
    refine Ex.au (λk T H=>∃(i:Nat) (acc:List C7),T=[.ptr 1 0,.any,.d (Z s),.any,.any,.ptr 3 0,.d (J1 L),w7,D9 1 nF i6,.any,D9 2 S7 acc,.any,.any,.any,.any,.any,.any,.any,.any,.any,.any,.any,.any,.d (C6 nF i6),.d (Z (O i6)),.d (Z i),.any,.any,.any,.any,.any,.any]/\H=[.cells (c.enc.map .d),.cells [D9 5 A3.enc fl],.cells (c.enc.map .d),.cells (v.enc.map .d)]/\i+k=O i6/\acc=C2++(i6.take i).flatten) ?_ (k:=O i6) ⟨0,C2,rfl,rfl,U,U⟩;rintro k _ _ ⟨i,acc,rfl,rfl,hk3,hacc⟩;refine Ex.seq ?_;refine tb (F6 i (O i6)) (λh2=>?_) (λh2=>?_)
    .have h3:=C4 h2
     have h4:=aS9 (Y i6 i) (N8 V);have h5:=uU (i6:=i6.take i) λd hd=>aS9 d (List.mem_of_mem_take hd)
     have h6:O (i6.take i)<=8:=by rw [List.length_take];omega
     have vM:O acc<=600:=by rw [hacc,n5];omega
     refine gr ?_;exact kk ⟨_,_,O3 (by rcases Zx with rfl|⟨_,rfl,_⟩<;>exact j9 rfl) (j9 rfl),i+1,acc++Y i6 i,rfl,rfl,V,by rw [hacc,E2 V];simp⟩
    have h3:=B5 h2;obtain rfl:i=O i6:=V
    have ha:acc=C2++(if u7 v.kind 1||v.distinct then i6.flatten else []):=by rw [hacc,h];simp
    rw [<- ha];refine gr ?_;exact ⟨.any,.any,.any,.d (C6 nF i6),.d (Z (O i6)),.d (Z (O i6)),⟨rfl,rfl,rfl,rfl,rfl,rfl⟩,rfl⟩
   .rw [h]
    simp only [j4,if_false,List.append_nil];refine gr ?_;exact ⟨.d (C6 (λp=>[Z p.1,Z p.2]) v.on),.d (Z (O v.on)),.d (Z (O v.on)),.any,.any,.any,⟨rfl,rfl,rfl,rfl,rfl,rfl⟩,rfl⟩
  rintro _ ⟨w20,w21,w22,w23,w24,w25,hb,rfl⟩;obtain ⟨C3,hC3⟩:∃C3,C2++(if u7 v.kind 1||v.distinct then i6.flatten else [])=C3:=⟨_,rfl⟩;have cD8:O C3<=600:=by
   have:=uU aS9;rw [<- hC3];simp only [n5];split<;>(try simp only [y9])<;>omega
  rw [hC3];refine gr ?_;refine Ex.au (λk T H=>∃(i:Nat) (acc:List (List C7)),T=[.ptr 1 0,.any,.d (Z s),.any,.any,.any,.d (J1 L),w7,D9 1 nF acc,.any,D9 2 S7 C3,.any,.any,.any,.any,.any,.any,.any,.any,.any,.any,.any,.any,.any,.any,.any,.d (C6 KW.enc v.F4),.d (Z (O v.F4)),.d (Z i),.any,.any,.any]/\H=[.cells (c.enc.map .d),.cells [D9 5 A3.enc fl],.cells (c.enc.map .d),.cells (v.enc.map .d)]/\i+k=O v.F4/\acc=i6++Js v (L++R) i) ?_ (k:=O v.F4) ⟨0,i6,rfl,rfl,U,by simp [Js]⟩;rintro k _ _ ⟨i,acc,rfl,rfl,hk4,hacc⟩;have vM:O acc<=8:=by rw [hacc];simp [Js];omega
  refine Ex.seq ?_;refine tb (F6 i (O v.F4)) (λh2=>?_) (λh2=>?_)
  .have h3:=C4 h2
   obtain ⟨e1,e2,e3⟩:=ag i V;have p1:=ad5 (Y v.F4 i).expr L R V e2 V V l0 e3
   repeat' (first|refine msv Zx ?_|refine Bv p1 ?_|refine gx ?_|fail)
   exact kk ⟨_,_,O3 (by rcases Zx with rfl|⟨_,rfl,_⟩<;>exact j9 rfl) (j9 rfl),i+1,acc++[jY (Y v.F4 i).expr (L++R)],rfl,rfl,V,by rw [hacc];unfold Js;rw [E2 V];simp⟩
  have h3:=B5 h2;obtain rfl:i=O v.F4:=V
  obtain ⟨DV,hDV⟩:∃DV,tM v (L++R)=DV:=⟨_,rfl⟩;have hacc:acc=DV:=by rw [hacc,<- hDV,<- hD];rfl
  subst hacc;have aT5:∀i,i<O acc->O (Y acc i)<=64:=by
   intro i hi;refine CW it ag _ ?_;rw [hDV];exact N8 hi
  have uX:mF s v L R=wV s acc C3 (O acc):=by
   unfold mF;rw [hk,hDV,<- hC3,<- hC2,<- hC1,<- hC0,<- hD];rfl
  rw [uX]
  repeat' (first|refine moT (h2:=?_)|refine gx ?_|fail)
  refine Ex.au (λk T H=>∃(i:Nat) (fs:List A3),T=[.ptr 1 0,.any,.d (Z s),.any,.any,.any,.any,.any,.any,.any,D9 2 S7 C3,.any,.any,.any,.any,.any,.any,.any,.any,.any,.any,.any,.any,.any,.any,.any,.any,.any,.any,.d (C6 nF acc),.d (Z (O acc)),.d (Z i)]/\H=[.cells (c.enc.map .d),.cells [D9 5 A3.enc fs],.cells (c.enc.map .d),.cells (v.enc.map .d)]/\i+k=O acc/\fs=fl++wV s acc C3 i) ?_ (k:=O acc) ⟨0,fl,rfl,rfl,U,by simp [wV]⟩;rintro k _ _ ⟨i,fs,rfl,rfl,hk5,BO⟩;refine Ex.seq ?_;refine tb (F6 i (O acc)) (λh2=>?_) (λh2=>?_)
  .have h3:=C4 h2
   have hol:=DZ s acc C3 aT5 i V;have p1:=Nh c fs (Y acc i) (s,(i:Int)) W (by have:=aT5 i V;rw [BO];simp only [n5];have:i * (64+O C3)<=8 * (64+O C3):=Nat.mul_le_mul_right _ V;omega);have p2:=Nh c (fs++yJ (Y acc i) (s,(i:Int)) W) C3 (s,(i:Int)) F (by have:=aT5 i V;rw [BO];simp only [n5,yJ,A7];have:i * (64+O C3)<=8 * (64+O C3):=Nat.mul_le_mul_right _ V;omega);unfold HC vA at *
   repeat' (first|refine Bu (cs:=(S7 (s,(i:Int))).map .d) ?_|refine c0 p1 rfl (h2:=?_)|refine c0 p2 rfl (h2:=?_)|refine gx ?_|fail)
   exact kk ⟨_,_,O3 (j9 rfl) (j9 rfl),i+1,_,rfl,rfl,V,by rw [BO];simp only [wV,D3]⟩
  have h3:=B5 h2;obtain rfl:i=O acc:=V
  refine gr ?_;exact ⟨_,_,rfl,rfl,by rw [BO];rfl⟩
 obtain ⟨r,H1,⟨rfl,rfl⟩,h⟩:=key;exact h
def flw (f:A3):c8:= .agg (f.enc.map .d)
def rP (a b:A3):Bool:=(a.src.1==b.src.1&&(a.src.2==b.src.2&&W))&&(a.dst.1==b.dst.1&&(a.dst.2==b.dst.2&&W))
set_option maxHeartbeats 8000000 in
def aL7 (a b:A3):Pf A 167 [flw a,flw b] (.d (.bool (rP a b))):=by
 refine Pf.go 3 ?_;simp only [flw,A3.enc,K0,List.map_nil]
 repeat' (first|refine lqV rfl rfl ?_|refine gy ?_|refine fq (λhw=>?_) λhw=>?_|refine ⟨_,rfl,?_⟩|fail)
 .simp at hw
  simp [j3,rP,hw]
 .simp at hw
  simp [j3,rP];intro h1 h2;exact absurd h2 (hw h1)
def Xq (a b:A3):rP a b=W↔a.src=b.src/\a.dst=b.dst:=by
 obtain ⟨⟨a1,a2⟩,⟨a3,a4⟩,a5⟩:=a;obtain ⟨⟨b1,b2⟩,⟨b3,b4⟩,b5⟩:=b;simp [rP]
def dH (xs:List A3):Nat->List A3
 |0=>[]
 |k+1=>dH xs k++(if decide (0<k)&&rP (Y xs k) (Y xs (k - 1)) then [] else [Y xs k])
def J6 (l:List A3):List c8:=(l.flatMap A3.enc).map .d
theorem jD:∀l:List A1.Data,C5 (l.map .d)=0
 |[]=>rfl
 |a::l=>by simp [C5,c8.L7,jD l]
def Jh {o0 o1:y6}(h0:o0.L7<=3)(h1:o1.L7<=3)(ys:List A3)(st:Nat):P0 (([o0,o1,.cells (J6 ys)].take 3).drop st)<=3:=by
 have h2:(y6.cells (J6 ys)).L7<=3:=by simp only [y6.L7,J6,jD];omega
 match st with
 |0=>simp [P0];omega
 |1=>simp [P0];omega
 |2=>simp [P0];omega
 |_+3=>simp [P0]
def zF:List c8:=[.d (Z 0),.d (Z 0),.d (Z 0),.d (Z 0),.d (.bool F)]
theorem am4:∀n:Nat,O ((c9 n zF).flatten)=n * 5
 |0=>rfl
 |n+1=>by
  have:=am4 n;rw [List.replicate_succ,List.flatten_cons,n5,this];simp [zF];omega
def am1 (o0 o1:y6)(acc rest:List A3):wr [o0,o1,.cells (J6 (acc++rest))] 2 (0+O acc * 5) ((c9 (O rest) zF).flatten)=J [o0,o1,.cells (J6 acc++(c9 (O rest) zF).flatten)]:=by
 have l1:∀l:List A3,O (J6 l)=O l * 5:=λl=>by rw [J6,A7,Z1 (sz:=5) (λ_=>rfl)]
 have e:J6 (acc++rest)=J6 acc++J6 rest:=by simp [J6]
 have hz:=am4 (O rest);simp only [wr,List.getElem?_cons_succ,List.getElem?_cons_zero,splice,e,Nat.zero_add];rw [if_pos (by simp only [n5,l1,hz];omega),<- l1 acc,List.take_left,n9 (by simp only [n5,l1,hz];omega)];simp
def MT {acc xs:List A3}{q:Nat}(h1:O acc<=q)(h2:q<O xs):Y (acc++xs.drop (O acc)) q=Y xs q:=by
 rw [E6 D,E6 h2,List.getElem_append_right h1,List.getElem_drop];have:O acc+(q - O acc)=q:=V
 simp [this]
set_option maxHeartbeats 16000000 in
def by9 (o0 o1:y6)(h0:o0.L7<=3)(h1:o1.L7<=3)(st:Nat)(xs:List A3)(hn:O xs<=1000000)(hp:0<O xs) :
  ∃zs,Pm A 166 [.B8 2 5 0 (O xs),.func 167 [] []] [o0,o1,.cells (J6 xs)] ⟨0,0,3,st⟩ (.B8 2 5 0 (O (dH xs (O xs)))) [o0,o1,.cells (J6 (dH xs (O xs))++zs)]:=by
 have key:Pq A 166 [.B8 2 5 0 (O xs),.func 167 [] []] [o0,o1,.cells (J6 xs)] ⟨0,0,3,st⟩ λr H1=>∃zs,r= .B8 2 5 0 (O (dH xs (O xs)))/\H1=[o0,o1,.cells (J6 (dH xs (O xs))++zs)]:=by
  have QF:∀ys:List A3,P0 (([o0,o1,.cells (J6 ys)].take 3).drop st)<=3:=λys=>Jh h0 h1 ys st
  refine Pq.go 4 ?_;refine gr ?_;refine tB (F6 (O xs) 2) ?_ (λh=>?_) (λh=>?_)
  .repeat' (first|refine lnr ?_|refine gx ?_|refine fq (λhw=>?_) λhw=>?_|refine ⟨rfl,rfl,_,rfl,?_⟩|refine ⟨rfl,rfl⟩|fail)
   all_goals exact cc
  .have h3:=C4 h
   refine gr ?_;have e:dH xs (O xs)=xs:=by
    match xs,hp,h3 with
    |[x],_,_=>simp [dH,Y]
    |_::_::_,_,h=>simp at h;omega
   exact ⟨_,_,rfl,[],by rw [e],by rw [e];simp [J6]⟩
  have h3:=B5 h;have i0:dH xs 1=xs.take 1:=by
   match xs,hp with
   |x::_,_=>simp [dH,Y]
  refine gr ?_;refine Ex.au (λk T H=>∃i:Nat,T=[.B8 2 5 0 (O xs),.func 167 [] [],.any,.d (Z i),.any,.any]/\H=[o0,o1,.cells (J6 xs)]/\i+k=O xs/\0<i/\dH xs i=xs.take i) ?_ (k:=O xs - 1) ⟨1,rfl,rfl,V,V,i0⟩;rintro k _ _ ⟨i,rfl,rfl,hk,hi,hc⟩;refine Ex.seq ?_;refine tB (F6 i (O xs)) ?_ (λh2=>?_) (λh2=>?_)
  .repeat' (first|refine lnr ?_|refine gx ?_|refine fq (λhw=>?_) λhw=>?_|refine ⟨rfl,rfl,_,rfl,?_⟩|refine ⟨rfl,rfl⟩|fail)
   all_goals exact cc
  .have h4:=C4 h2
   have r1:rd [o0,o1,.cells (J6 xs)] 2 (0+i * 5) 5=J ((Y xs i).enc.map .d):=Ee (enc:=A3.enc) (λ_=>rfl) rfl V;have r2:rd [o0,o1,.cells (J6 xs)] 2 (0+((i:Int) - 1).toNat * 5) 5=J ((Y xs (i - 1)).enc.map .d):=by
    rw [show ((i:Int) - 1).toNat=i - 1 by omega];exact Ee (enc:=A3.enc) (λ_=>rfl) rfl V
   refine gr ?_;have Af:i<O xs:=V
   have hio:0<=(i:Int) - 1/\(i:Int) - 1<O xs:=V
   refine tB (rP (Y xs i) (Y xs (i - 1))) ?_ (λh5=>?_) (λh5=>?_)
   .repeat' (first|refine lqV r1 rfl ?_|refine lqV r2 rfl ?_|refine bk8 (aL7 _ _) ?_|refine ixs Af ?_|refine ixo hio ?_|refine gx ?_|refine fq (λhw=>?_) λhw=>?_|refine ⟨rfl,rfl,_,rfl,?_⟩|refine ⟨rfl,rfl⟩|fail)
    exact rfl
   .repeat' (first|refine svr Af ?_|refine gx ?_|fail)
    have hli:O (xs.take i)=i:=by rw [List.length_take];omega
    have hc1:dH xs (i+1)=xs.take i:=by rw [dH,hc,h5];simp [hi]
    refine Ex.au (λk2 T H=>∃(j:Nat) (acc:List A3),T=[.B8 2 5 0 (O xs),.func 167 [] [],.any,.d (Z (O acc)),.B8 2 5 (0+i * 5) (O xs - i),.d (Z j)]/\H=[o0,o1,.cells (J6 (acc++xs.drop (O acc)))]/\i+j+k2=O xs/\0<j/\O acc+1<=i+j/\0<O acc/\acc=dH xs (i+j)) ?_ (k:=O xs - i - 1) ⟨1,xs.take i,by rw [hli];rfl,by rw [hli,List.take_append_drop],V,V,V,V,hc1.symm⟩;rintro k2 _ _ ⟨j,acc,rfl,rfl,hk2,hj,bl9,bV0,hacc⟩;refine Ex.seq ?_;have bQ:O acc<O xs:=V
    have hdr:=E0 bQ;refine tB (F6 j (O xs - i:Nat)) ?_ (λh6=>?_) (λh6=>?_)
    .repeat' (first|refine lnr ?_|refine gx ?_|refine fq (λhw=>?_) λhw=>?_|refine ⟨rfl,rfl,_,rfl,?_⟩|refine ⟨rfl,rfl⟩|fail)
     all_goals exact cc
    .have h7:=C4 h6
     have hjl:j<O xs - i:=V
     have hjo:0<=(j:Int) - 1/\(j:Int) - 1<((O xs - i:Nat):Int):=V
     have hx:∀q,O acc<=q->q<O xs->rd [o0,o1,.cells (J6 (acc++xs.drop (O acc)))] 2 (0+q * 5) 5=J ((Y xs q).enc.map .d):=by
      intro q h1 h2;rw [<- MT h1 h2];exact Ee (enc:=A3.enc) (λ_=>rfl) rfl D
     have r3:=hx (i+j) V V;rw [show 0+(i+j) * 5=0+i * 5+j * 5 by omega] at r3;have r4:=hx (i+j - 1) V V;rw [show 0+(i+j - 1) * 5=0+i * 5+((j:Int) - 1).toNat * 5 by omega] at r4;refine gr ?_;refine tB (!rP (Y xs (i+j)) (Y xs (i+j - 1))) ?_ (λh8=>?_) (λh8=>?_)
     .repeat' (first|refine lqV r3 rfl ?_|refine lqV r4 rfl ?_|refine bk8 (aL7 _ _) ?_|refine ixs hjl ?_|refine ixo hjo ?_|refine gx ?_|refine fq (λhw=>?_) λhw=>?_|refine ⟨rfl,rfl,_,rfl,?_⟩|refine ⟨rfl,rfl⟩|fail)
      exact rfl
     .have w1:wr [o0,o1,.cells (J6 (acc++xs.drop (O acc)))] 2 (0+O acc * 5) ((Y xs (i+j)).enc.map .d)=J [o0,o1,.cells (J6 (acc++Y xs (i+j)::xs.drop (O acc+1)))]:=by
       rw [hdr];exact am2 (enc:=A3.enc) (λ_=>rfl) rfl _
      have hb0:C5 ((Y xs (i+j)).enc.map .d)<=2+1:=by rw [jD];omega
      repeat' (first|refine lqV r3 rfl ?_|refine ixs hjl ?_|refine ixs bQ ?_|refine ox rfl ⟨rfl,rfl⟩ rfl rfl rfl hb0 w1 ?_|refine gx ?_|fail)
      have PS:O (acc++[Y xs (i+j)])=O acc+1:=U
      exact ⟨k2 - 1,V,_,_,O3 (j9 rfl) (QF _),j+1,acc++[Y xs (i+j)],by rw [PS];rfl,by rw [PS,D3];rfl,V,V,V,V,by rw [<- O8,dH,<- hacc];simp at h8;rw [h8];simp⟩
     .refine gr ?_
      exact ⟨k2 - 1,V,_,_,O3 (j9 rfl) (QF _),j+1,acc,rfl,rfl,V,V,V,V,by rw [<- O8,dH,<- hacc];simp at h8;rw [h8];simp;omega⟩
    .have h7:=B5 h6
     have hij:i+j=O xs:=V
     rw [hij] at hacc;rw [<- hacc];have w2:=am1 o0 o1 acc (xs.drop (O acc));rw [List.length_drop] at w2
     repeat' (first|refine svr bQ ?_|refine clS w2 ?_|refine svf (Nat.le_of_lt bQ) bV0 ?_|refine gx ?_|fail)
     exact ⟨_,_,rfl,_,rfl,rfl⟩
   .refine gr ?_
    exact kk ⟨_,_,O3 (j9 rfl) (QF _),i+1,rfl,rfl,V,V,by rw [dH,hc,h5,E2 Af];simp⟩
  .have h4:=B5 h2
   obtain rfl:i=O xs:=V
   rw [hc,H8];refine gr ?_;exact ⟨_,_,rfl,[],rfl,U⟩
 obtain ⟨r,H1,⟨zs,rfl,rfl⟩,h⟩:=key;exact ⟨zs,h⟩
theorem uV:∀l:List A3,qS (l.flatMap A3.enc)=J l
 |[]=>rfl
 |f::l=>by
  show qS ([Z f.src.1,Z f.src.2,Z f.dst.1,Z f.dst.2,.bool f.dat]++l.flatMap A3.enc)=_
  simp only [A8,B3,Z,qS,uV l]
def by8 (o0 o1:y6)(fl:List A3)(hn:O fl<=1000000)(l:I7)(hm:l.may 2=W):Pm A 163 [.B8 2 5 0 (O fl),.func 164 [] []] [o0,o1,.cells (J6 fl)] l (.tuple []) [o0,o1,.cells (J6 (bH fl))]:=by
 refine ⟨1,λk hk=>?_⟩;obtain ⟨k,rfl⟩:∃j,k=j+1:=⟨k - 1,V⟩;have h1:A.cM 163=J (zg 164):=rfl;have l1:∀q:List A3,O (J6 q)=O q * 5:=λl=>by rw [J6,A7,Z1 (sz:=5) (λ_=>rfl)]
 have e1:rd [o0,o1,.cells (J6 fl)] 2 0 (O fl * 5)=J (J6 fl):=by
  simp only [rd,List.getElem?_cons_succ,List.getElem?_cons_zero,l1,Nat.zero_add,l6,if_true,List.drop_zero];rw [z7 (by rw [l1];exact l6 _)]
 have e2:P7 (J6 fl)=J (fl.flatMap A3.enc):=cF _;have e3:wr [o0,o1,.cells (J6 fl)] 2 0 (J6 (bH fl))=J [o0,o1,.cells (J6 (bH fl))]:=by
  simp only [wr,List.getElem?_cons_succ,List.getElem?_cons_zero,l1,tF,Nat.zero_add,l6,if_true,splice,List.take_zero,B3];rw [n9 (by rw [l1];exact l6 _),List.append_nil];rfl
 simp only [call,h1,zg,hm,hn,and_self,if_true,e1,e2,uV];show (match wr [o0,o1,.cells (J6 fl)] 2 0 (J6 (bH fl)) with|some H1=>J (c8.tuple [],H1)|none=>K)=_
 rw [e3]
def au9 {o0 o1:y6}(h0:o0.L7<=3)(h1:o1.L7<=3)(ys:List A3)(st:Nat):G6 [o0,o1,.cells (J6 ys)] st 8 3=3:=by
 have:=Jh h0 h1 ys st;show G6 _ st (7+1) 3=3
 rw [G6];split
 .rfl
 .exact if_pos (Nat.max_eq_left this)
set_option maxHeartbeats 16000000 in
def bx9 (o0:y6)(h0:o0.L7<=3)(st:Nat)(fl:List A3)(hn:O fl<=1000000)(hp:0<O fl) :
  ∃zs,Pm A 105 [.ptr 1 0] [o0,.cells [.B8 2 5 0 (O fl)],.cells (J6 fl)] ⟨0,0,3,st⟩ (.B8 2 5 0 (O (dH (bH fl) (O fl)))) [o0,.cells [.B8 2 5 0 (O fl)],.cells (J6 (dH (bH fl) (O fl))++zs)]:=by
 have h1:(y6.cells [.B8 2 5 0 (O fl)]).L7<=3:=l6 _;have vN:=tF fl;have key:Pq A 105 [.ptr 1 0] [o0,.cells [.B8 2 5 0 (O fl)],.cells (J6 fl)] ⟨0,0,3,st⟩ λr H1=>∃zs,r= .B8 2 5 0 (O (dH (bH fl) (O fl)))/\H1=[o0,.cells [.B8 2 5 0 (O fl)],.cells (J6 (dH (bH fl) (O fl))++zs)]:=by
  refine Pq.go 1 ?_;have p1:=by8 o0 (.cells [.B8 2 5 0 (O fl)]) fl hn;obtain ⟨zs,p2⟩:=by9 o0 (.cells [.B8 2 5 0 (O fl)]) h0 h1 (E9 [o0,.cells [.B8 2 5 0 (O fl)],.cells (J6 (bH fl))] st 3) (bH fl) V V;rw [vN] at p2
  repeat' (first|refine c0 (qm:=Jh h0 h1 _ _) (hcl:=au9 h0 h1 _ _) (p1 _ rfl) rfl (h2:=?_)|refine c0 (qm:=Jh h0 h1 _ _) (hcl:=au9 h0 h1 _ _) p2 rfl (h2:=?_)|refine gx ?_|fail)
  exact ⟨_,_,rfl,zs,rfl,rfl⟩
 obtain ⟨r,H1,⟨zs,rfl,rfl⟩,h⟩:=key;exact ⟨zs,h⟩
def kr (c:s5):Nat->List A3
 |0=>[]
 |i+1=>kr c i++(if u7 (Y c.k9 i).erase 1 then iM i (O (Y c.k9 i).s6) (kX c i) else [])
def xD (c:s5)(L R:Nat->List C7):Nat->List A3
 |0=>[]
 |i+1=>xD c L R i++mF ((O c.k9:Int)+(i:Int)) (Y c.views i) (L i) (R i)
structure aH6 (c:s5)(i:Nat)(L R:List C7):Prop where
 ok:Jd (Y c.views i) L R
 pl:Pf A 159 [cat c,.d (.str (Y c.views i).left)] (.d (J1 L))
 pr:P8 (Y c.views i).right []=F->Pf A 159 [cat c,.d (.str (Y c.views i).right)] (.d (J1 R))
 r0:P8 (Y c.views i).right []=W->R=[]
 len:∀s,O (mF s (Y c.views i) L R)<=6000
def aw1 (a:A1.Data):(c8.d a).forget.L7=0:=by
 cases a with
 |slice n cs=>cases cs<;>rfl
 |_=>rfl
theorem Qz:∀l:List A1.Data,C5 (T8 (l.map .d))=0
 |[]=>rfl
 |a::l=>by simp only [K0,T8,C5,Qz l,aw1];rfl
def JC (l:List A1.Data):(y6.cells (l.map .d)).forget.L7<=3:=by
 simp only [y6.forget,y6.L7,Qz];omega
def bT6 (l:List A1.Data):(y6.cells (l.map .d)).L7<=2:=by
 simp only [y6.L7,jD];omega
def bk5 {o0:y6}{n:Nat}(h0:o0.L7<=3)(ys:List A3):G6 [o0,.cells [.B8 2 5 0 n],.cells (J6 ys)] 0 8 2=3:=by
 have h1:P0 (([o0,.cells [.B8 2 5 0 n],.cells (J6 ys)].take 2).drop 0)=3:=by
  have:(y6.cells [.B8 2 5 0 n]).L7=3:=rfl;simp [P0,this];omega
 have h2:=Jh h0 (o1:= .cells [.B8 2 5 0 n]) (l6 _) ys 0;show G6 _ 0 (6+1+1) 2=3
 rw [G6,h1];show G6 _ 0 (6+1) 3=3
 rw [G6];exact if_pos (Nat.max_eq_left h2)
theorem Zi (H:q6)(n:Nat):∀(xs:List A1.Data) (f:Nat),O xs<f->cV H n f (xs.map .d)=J (xs.map .d)
 |[],f+1,_=>rfl
 |x::xs,f+1,h=>by
  have ih:=Zi H n xs f (by simp at h;omega);simp only [K0,cV,ih]
def YZ {a:q9}{s p:Nat}{T:List c8}{H:q6}{ds:List A3}{zs:List c8}(hT:T[s]? =J (.B8 p 5 0 (O ds)))(hH:H[p]? =J (.cells (J6 ds++zs)))(hl:O ds<=100000)(ha:a.results=[.slot s]:=by rfl)(hp:a.bw=F:=by rfl):ep a 0 (J (.ret,⟨T,H⟩))=J (.d (C6 A3.enc ds),[]):=by
 have l1:O (ds.flatMap A3.enc)=O ds * 5:=Z1 (sz:=5) (λ_=>rfl) ds;have l2:O (J6 ds)=O ds * 5:=by rw [J6,A7,l1]
 have h1:rd H p 0 (O ds * 5)=J (J6 ds):=by
  simp only [rd,hH,n5,l2,Nat.zero_add];rw [if_pos V,List.drop_zero,<- l2,List.take_left]
 have h2:=Zi H 0 (ds.flatMap A3.enc) 999999 V;unfold ep;simp only [ha,hp,bz,kZ,hT];rw [J6] at h1;simp only [finish,j4,if_false,j3,cV,Nat.not_lt_zero,h1,h2,cF];simp [c8.L7,C6]
theorem CU (xs:List A3):∀k,O (dH xs k)<=k
 |0=>l6 _
 |k+1=>by
  have:=CU xs k;simp only [dH,n5];split<;>simp<;>omega
def ba9 (l:I7):Pm A 166 [.d (.slice 0 []),.func 167 [] []] [] l (.d (.slice 0 [])) []:=by
 have key:Pq A 166 [.d (.slice 0 []),.func 167 [] []] [] l λr H1=>r= .d (.slice 0 [])/\H1=[]:=by
  refine Pq.go 4 ?_;refine gr ?_;refine tb (F6 0 2) (λh=>?_) (λh=>?_)
  .refine gr ?_
   exact ⟨_,_,rfl,rfl,rfl⟩
  .cases B5 h
 obtain ⟨r,H1,⟨rfl,rfl⟩,h⟩:=key;exact h
def ba8 (l:I7):Pm A 163 [.d (.slice 0 []),.func 164 [] []] [] l (.tuple []) []:=Pm.cM rfl rfl
def ba7 (o0:y6)(h0:o0.L7<=2)(st:Nat):Pm A 105 [.ptr 1 0] [o0,.cells [.own 5 0 []]] ⟨0,0,2,st⟩ (.d (.slice 0 [])) [o0,.cells [.own 5 0 []]]:=by
 have key:Pq A 105 [.ptr 1 0] [o0,.cells [.own 5 0 []]] ⟨0,0,2,st⟩ λr H1=>r= .d (.slice 0 [])/\H1=[o0,.cells [.own 5 0 []]]:=by
  refine Pq.go 1 ?_
  repeat' (first|refine c0 (qm:=by simp [P0]) (hcl:=by simp [G6,C5,c8.L7]) (ba8 _) rfl (h2:=?_)|refine c0 (qm:=by simp [P0]) (hcl:=by simp [G6,C5,c8.L7]) (ba9 _) rfl (h2:=?_)|refine gx ?_|fail)
  exact ⟨_,_,rfl,rfl,rfl⟩
 obtain ⟨r,H1,⟨rfl,rfl⟩,h⟩:=key;exact h
set_option maxHeartbeats 16000000 in
def ca4 (c:s5)(hs:G4 c)(hv:F0 c=W)(h8:O c.k9<=8)(hc8:∀i,i<O c.k9->O (Y c.k9 i).s6<=8)(h9:O c.views<=12)(L R:Nat->List C7)(hsr:∀i,i<O c.views->aH6 c i (L i) (R i)):Pf A 47 [cat c] (.d (C6 A3.enc (dH (bH (kr c (O c.k9)++xD c L R (O c.views))) (O (kr c (O c.k9)++xD c L R (O c.views)))))):=by
 refine Pf.gr 13 ?_;refine Ex.au (λk T H=>∃(i:Nat) (fl:List A3),T=[.any,.ptr 0 0,.any,.ptr 1 0,.any,.any,.any,.any,.d (C6 jV.enc c.k9),.d (Z (O c.k9)),.d (Z i),.any,.any,.any]/\H=HC c fl/\i+k=O c.k9/\fl=kr c i/\O fl<=i * 64) ?_ (k:=O c.k9) ⟨0,[],rfl,rfl,U,rfl,U⟩;rintro k _ _ ⟨i,fl,rfl,rfl,hk,hfl,hfn⟩;unfold HC;refine Ex.seq ?_;refine tb (F6 i (O c.k9)) (λh2=>?_) (λh2=>?_)
 .have h3:=C4 h2
  have e1:F6 (i:Int) 0=F:=by simp [s9]
  have e2:cg (O c.k9:Int) i=F:=by simp [s8];omega
  have hit:tY c i=W:=by rw [yT,e1,e2,hv];rfl
  have hcl:=hc8 i V;have Du:O (kX c i)<=8:=by have:=od (Y c.k9 (i:Int).toNat).s6 (O (Y c.k9 (i:Int).toNat).s6);simp at this;unfold kX;simp;omega
  have p1:=bw2 c hs i hit;have p2:=bx7 c fl i (O (Y c.k9 i).s6) (kX c i) V V V;unfold HC at p2;refine gr ?_;refine tb (u7 (Y c.k9 i).erase 1) (λh4=>?_) (λh4=>?_)
  .repeat' (first|refine cl (p1) ?_|refine c0 p2 rfl (h2:=?_)|refine gx ?_|fail)
   have htl:=rZ i (O (Y c.k9 i).s6) (kX c i);have h64:O (kX c i) * O (Y c.k9 i).s6<=8 * 8:=Nat.mul_le_mul Du hcl;exact kk ⟨_,_,O3 (j9 rfl) (j9 rfl),i+1,fl++iM i (O (Y c.k9 i).s6) (kX c i),rfl,rfl,V,by rw [hfl,kr,h4];simp,by rw [n5];omega⟩
  .refine gr ?_
   exact kk ⟨_,_,O3 (j9 rfl) (j9 rfl),i+1,fl,rfl,rfl,V,by rw [hfl,kr,h4];simp,V⟩
 have h3:=B5 h2;obtain rfl:i=O c.k9:=V
 refine gr ?_;refine Ex.au (λk T H=>∃(i:Nat) (fs:List A3),T=[.any,.ptr 0 0,.any,.ptr 1 0,.any,.any,.any,.any,.any,.any,.any,.d (C6 Vw.enc c.views),.d (Z (O c.views)),.d (Z i)]/\H=[.cells (c.enc.map .d),.cells [D9 5 A3.enc fs]]/\i+k=O c.views/\fs=fl++xD c L R i/\O fs<=512+i * 6000) ?_ (k:=O c.views) ⟨0,fl,rfl,rfl,U,by simp [xD],V⟩;rintro k _ _ ⟨i,fs,rfl,rfl,hk,BO,cE5⟩;refine Ex.seq ?_;refine tb (F6 i (O c.views)) (λh4=>?_) (λh4=>?_)
 .have h5:=C4 h4
  obtain ⟨ok,pl,pr,r0,len⟩:=hsr i V;have hlen:=len ((O c.k9:Int)+(i:Int));have p1:=bx8 c fs (Y c.views i) ((O c.k9:Int)+(i:Int)) (L i) (R i) ok V pl pr r0;unfold HC at p1
  repeat' (first|refine c0 p1 rfl (h2:=?_)|refine gx ?_|fail)
  exact kk ⟨_,_,O3 (j9 rfl) (j9 rfl),i+1,_,rfl,rfl,V,by rw [BO,xD,D3],by rw [n5];omega⟩
 have h5:=B5 h4;obtain rfl:i=O c.views:=V
 rw [hfl] at BO;rw [<- BO]
 rcases Nat.eq_zero_or_pos (O fs) with hz|hz
 .obtain rfl:=List.length_eq_zero_iff.1 hz
  refine gr ?_;refine Ex.fz (Zj (p:=1) (z:=5) (xs:=[]) rfl rfl) ?_;have p5:=ba7 (y6.cells (c.enc.map .d)) (bT6 _)
  repeat' (first|refine c0 (p5 _) rfl (h2:=?_)|refine gx ?_|fail)
  exact ⟨_,rfl,rfl⟩
 refine gr ?_;refine Ex.fz (aw7 (p:=1) (z:=5) (n:=O fs) (xs:=fs.flatMap A3.enc) rfl rfl V rfl rfl (wE (λ_=>rfl) _)) ?_;obtain ⟨zs,p5⟩:=bx9 (y6.cells (c.enc.map .d)).forget (JC _) (E9 [(y6.cells (c.enc.map .d)).forget,.cells [.B8 2 5 0 (O fs)],.cells (J6 fs)] 0 3) fs V hz;have hcl:G6 [(y6.cells (c.enc.map .d)).forget,.cells [.B8 2 5 0 (O fs)],.cells (J6 fs)] 0 8 2=3:=by
  have h:=bk5 (o0:=(y6.cells (c.enc.map .d)).forget) (n:=O fs) (JC _) fs;exact h
 have qm:=Jh (o0:=(y6.cells (c.enc.map .d)).forget) (o1:= .cells [.B8 2 5 0 (O fs)]) (JC _) (l6 _) fs 0;show Ex A W8 0 _ ⟨[.any,.ptr 0 0,.any,.ptr 1 0,.any,.any,.any,.any,.any,.any,.any,_,_,_],[(y6.cells (c.enc.map .d)).forget,.cells [.B8 2 5 0 (O fs)],.cells (J6 fs)]⟩ _
 repeat' (first|refine c0 (qm:=qm) (hcl:=hcl) p5 rfl (h2:=?_)|refine gx ?_|fail)
 exact ⟨_,YZ rfl rfl (by have:=CU (bH fs) (O fs);omega),rfl⟩
end Go.Proofs.YtibjocmpkoepoaaGreat


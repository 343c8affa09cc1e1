import Derived.Test.YtibjocmpkoepoaaGreatX0
set_option linter.all false
open Bool renaming false_eq_true → j4
open List renaming append_assoc → D2, cons_append → F8, drop_of_length_le → l6, length_append → k9, length_cons → p8, length_map → B9, length_nil → y8, map_cons → L8, mem_map → L1, mem_singleton → s8, nil_append → E0, replicate → c9, set_cons_succ → s4, set_cons_zero → s5, take_of_length_le → y6
open Nat renaming add_assoc → M6, le_of_ble_eq_true → j5, le_refl → n5
namespace Go.Proofs.YtibjocmpkoepoaaGreat
open Go.A2 Go.A2.S
attribute [local irreducible] Rx Ry Rn Ex Pf
def Z4 (p:S8):List A2.Data:=[num p.1,num p.2]
def O9 (l:List S8):A2.Data:=B0 Z4 l
def Dl (s:Int):Nat->List S8
 |0=>[]
 |n+1=>Dl s n++[(s,(n:Int))]
theorem ee (s:Int):∀ n,(Dl s n).length=n
 |0=>rfl
 |n+1=>by simp [Dl,ee s n]
def aq7 (c:r9)(hs:J7 c)(name:K4)(h:bp c (bz c name)=true)(hl:(R6 c (bz c name).toNat).length<=2000):Pf A 159 [cat c,.d (.str name)] (.d (O9 (Dl (bz c name) (R6 c (bz c name).toNat).length))):=by
 have p1:=bD2 c hs name;have p2:=aY4 c hs _ h;obtain ⟨s,hs0⟩:∃ s,bz c name=s:=⟨_,rfl⟩;rw [hs0] at p1 p2 hl ⊢;obtain ⟨ty,tu⟩:∃ ty,R6 c s.toNat=ty:=⟨_,rfl⟩;rw [tu] at p2 hl ⊢;refine Pf.run [cat c,.d (.str name),.any,.any,.any,.any,.any,.any,.any] rfl rfl rfl rfl ?_
 repeat' (first|refine cl (p1) ?_|refine cl (p2) ?_|refine gx ?_|fail)
 refine Ex.I7 (fun k T H=>∃ (i:Nat) (acc:List S8) (w0 w1 w2 w3 w6:c8),T=[w0,w1,w2,w3,.d (num s),E7 2 Z4 acc,w6,.d (num ty.length),.d (num i)]/\H=[.cells (c.enc.map .d)]/\i+k=ty.length/\acc=Dl s i) (by rintro _ _ _ ⟨_,_,_,_,_,_,_,rfl,rfl,_⟩;rfl) ?_ (k:=ty.length) ⟨0,[],_,_,_,_,_,rfl,rfl,by simp,rfl⟩;rintro k _ _ ⟨i,acc,w0,w1,w2,w3,w6,rfl,rfl,hk,hacc⟩;have ya:acc.length<=10000:=by rw [hacc,ee];omega
 refine Ex.nT ?_;refine Ex.seq ?_;refine tb (E4 i ty.length) (fun h2=> ?_) (fun h2=> ?_)
 .have h3:=A6 h2
  repeat' (first|refine Dv (cs:=(Z4 (s,(i:Int))).map .d) ?_|refine oN (enc:=Z4) (s,(i:Int)) ?_|refine apN (ys:=[(s,(i:Int))]) (h2:= ?_)|refine gx ?_|fail)
  exact ⟨k - 1,by omega,i+1,acc++[(s,(i:Int))],_,_,_,_,_,rfl,rfl,by omega,by rw [hacc];rfl⟩
 .have h3:=A3 h2
  have h4:i=ty.length:=by omega
  subst h4;refine gr ?_;exact ⟨_,rfl,by rw [hacc];simp [j3,O9,B0]⟩
def iY (e:List X0):Nat->List Int
 |0=>[]
 |i+1=>iY e i++(if s9 (nth e i).op 2 then [(nth e i).col] else [])
theorem wH (e:List X0):∀ i,(iY e i).length<=i
 |0=>n5 _
 |i+1=>by
  have:=wH e i;simp only [iY,k9];split<;>simp<;>omega
def aa7 {e:List X0}{i:Nat}(h:s9 (nth e i).op 2=true):iY e (i+1)=iY e i++[(nth e i).col]:=by simp only [iY,h,if_true]
def aa6 {e:List X0}{i:Nat}(h:s9 (nth e i).op 2=false):iY e (i+1)=iY e i:=by simp [iY,h]
theorem ED {e:List X0}{x:Int}:∀ i,i<=e.length->x ∈ iY e i->∃ t ∈ e,s9 t.op 2=true/\t.col=x
 |0,_,h=>by cases h
 |i+1,hi,h=>by
  simp only [iY,List.mem_append] at h
  rcases h with h|h
  .exact ED i (by omega) h
  .split at h
   .rename_i h1
    simp only [s8] at h;exact ⟨_,S9 (by omega),h1,h.symm⟩
   .cases h
def iB (e:List X0):List Int:=bH (cZ (iY e e.length))
def TG {e:List X0}{x:Int}(h:x ∈ iB e):∃ t ∈ e,s9 t.op 2=true/\t.col=x:=by
 rw [iB,uC,qX] at h;exact ED _ (n5 _) h
def Ee (e:List X0):(iB e).length<=e.length:=by
 have h1:=um (cZ (iY e e.length));have h2:=wH e e.length;rw [rD] at h1;unfold iB;omega
def HI (xs:List Int):p9:=[.cells (xs.map iv)]
def lI:H7:=⟨0,0,1,1⟩
def UJ (xs:List Int):Z9 (HI xs)=0:=by
 simp only [HI,Z9,A1.O5,MV];rfl
def ZT (xs:List Int):ah (HI xs) 0=true:=by
 simp only [HI,ah,A1.O5,MV];rfl
section
variable {b:Nat} {l5 ops:List o9} {T:List c8} {n:Nat} {rl:List c8} {p7:List A2.Touch} {Q:List c8->p9->List c8->Prop}
def c0I {xs ys:List Int}{f:FuncId}{os:List y5}{u:List Nat}{v:c8}{args:List c8}(hc:Pm A f args (HI xs) lI v (HI ys))(h2:Ry A an b false l5 ops T (HI ys) (n+1) (v::rl) (.below 1::p7) Q)
  (ha:os.map (rq T n rl)=args:=by rfl) (hb:C5 args=1:=by rfl) (lD:A.prom f=false:=by rfl) (hm:A.mode f=0:=by rfl):Ry A an b false l5 (⟨.call f os,none,none,u⟩::ops) T (HI xs) n rl p7 Q:=by
 refine c0 hc rfl (m:=1) ?_ ?_ rfl rfl ?_ (fun h=>by cases h) ha lD hm rfl (HD:=[]) (H2:=HI ys) rfl h2
 .show Z9 (HI xs)<=1
  rw [UJ];omega
 .rw [hb]
  exact wE (by show Z9 (HI xs)<=1;rw [UJ];omega)
 .show H7.mk 0 0 1 (F7 _ 0 1)=lI
  have:F7 (HI xs) 0 1=1:=by
   unfold F7;rw [if_neg (by decide),if_pos (by show ah (HI xs) 0=true;exact ZT xs)]
  rw [this];rfl
end
def bG0 (xs:List Int)(h:xs.length<=1000000):Pm A 263 [.B4 0 1 0 xs.length] (HI xs) lI (.tuple []) (HI (cZ xs)):=Pm.fP rfl (WR rfl rfl rfl (Nat.ble_eq_true_of_le h))
def bF8 (xs:List Int)(h:xs.length<=1000000):Pm A 134 [.B4 0 1 0 xs.length] (HI xs) lI (.B4 0 1 0 (bH xs).length) (HI (bH xs++c9 (xs.length - (bH xs).length) 0)):=Pm.fP rfl (Kq rfl rfl rfl (Nat.ble_eq_true_of_le h))
def bF9 (l:H7):Pm A 263 [.d (.slice 0 [])] [] l (.tuple []) []:=Pm.fP rfl rfl
def bF7 (l:H7):Pm A 134 [.d (.slice 0 [])] [] l (.d (.slice 0 [])) []:=Pm.fP rfl rfl
def aw7 {T:List c8}{H:p9}{ds zs:List Int}(hT:T[1]? =some (.B4 0 1 0 ds.length))(hH:H[0]? =some (.cells ((ds++zs).map iv)))(hl:ds.length<=900):jL av1 0 (some (.ret,⟨T,H⟩))=some (.d (ints ds),[]):=by
 have h1:rd H 0 0 (ds.length * 1)=some (ds.map iv):=by
  simp only [rd,hH];rw [if_pos (by simp)];simp
 have h2:=VJ H 0 ds 999999 (by omega);have h3:=Nu ds;have h4:cR T H av1.results=some [.B4 0 1 0 ds.length]:=by
  show cR T H [.slot 1]=_
  simp only [cR,lH,hT]
 unfold jL;simp only [h4];show finish false 0 [.B4 0 1 0 ds.length] H=_
 simp only [finish,j4,if_false,j3,cr,Nat.not_lt_zero,h1,h2,Vk];simp [c8.O5,ints,B0,h3]
def Xd (e:List X0)(he:e.length<=800)(hv:X7 e=false):Pf A 225 [aD e] (.own 1 0 []):=by
 have p1:=Xb e (by omega);rw [hv] at p1;refine Pf.run [aD e,.any,.any,.any,.any,.any,.any] rfl rfl rfl rfl ?_;refine gr ?_;refine tB (true) ?_ (fun h1=> ?_) (fun h1=> ?_)
 .repeat' (first|refine cl (p1) ?_|refine gx ?_|refine fk (h1:=fun hw=> ?_) (h2:=fun hw=> ?_)|refine U1 (h1:=fun hw=> ?_) (h2:=fun hw=> ?_)|refine ⟨rfl,rfl,_,rfl,?_⟩|refine ⟨rfl,rfl⟩|fail)
  all_goals exact cc
 .refine gr ?_
  exact ⟨_,rfl,rfl⟩
 .cases h1
set_option maxHeartbeats 8000000 in
def ar2 (e:List X0)(he:e.length<=800)(hv:X7 e=true):Pf A 225 [aD e] (.d (ints (iB e))):=by
 have p1:=Xb e (by omega);rw [hv] at p1;refine Pf.run [aD e,.any,.any,.any,.any,.any,.any] rfl rfl rfl rfl ?_;refine gr ?_;refine tB (false) ?_ (fun h1=> ?_) (fun h1=> ?_)
 .repeat' (first|refine cl (p1) ?_|refine gx ?_|refine fk (h1:=fun hw=> ?_) (h2:=fun hw=> ?_)|refine U1 (h1:=fun hw=> ?_) (h2:=fun hw=> ?_)|refine ⟨rfl,rfl,_,rfl,?_⟩|refine ⟨rfl,rfl⟩|fail)
  all_goals exact cc
 .cases h1
 refine gr ?_;refine Ex.cV (fun k T H=>∃ (i:Nat) (acc:List Int),T=[.any,.any,E7 1 (fun n=>[num n]) acc,.any,aD e,.d (num e.length),.d (num i)]/\H=[]/\i+k=e.length/\acc=iY e i) ?_ (k:=e.length) ⟨0,[],rfl,rfl,by simp,rfl⟩;rintro k _ _ ⟨i,acc,rfl,rfl,hk,hacc⟩;have ya:=wH e i;rw [<- hacc] at ya;refine Ex.seq ?_;refine tb (E4 i e.length) (fun h2=> ?_) (fun h2=> ?_)
 .have h3:=A6 h2
  refine gr ?_;refine tb (s9 (nth e i).op 2) (fun h4=> ?_) (fun h4=> ?_)
  .refine gr ?_
   refine ⟨k - 1,by omega,_,_,V8 (j5 rfl) (Nat.zero_le _),i+1,acc++[(nth e i).col],rfl,rfl,by omega,by rw [hacc,aa7 h4]⟩
  .refine gr ?_
   refine ⟨k - 1,by omega,_,_,V8 (j5 rfl) (Nat.zero_le _),i+1,acc,rfl,rfl,by omega,by rw [hacc,aa6 h4]⟩
 .have h3:=A3 h2
  obtain rfl:i=e.length:=by omega
  cases acc with
  |nil =>
   refine gr ?_;refine Ex.fz (VL rfl) ?_
   repeat' (first|refine c0 (bF9 _) rfl (h2:= ?_)|refine c0 (bF7 _) rfl (h2:= ?_)|refine gx ?_|fail)
   refine ⟨_,rfl,?_⟩;simp [iB,<- hacc,cZ,bH,ints,B0,j3]
  |cons a r =>
   refine gr ?_;refine Ex.fz (Pr rfl (by simp) rfl rfl (AZ (fun _=>rfl) _)) ?_;have e1:((a::r).flatMap fun n=>[num n]).map c8.d=(a::r).map iv:=by rw [Nu,List.map_map];rfl
   have tQ:=rD (a::r);have hlen:(a::r).length<=1000000:=by omega
   have pS:=bG0 (a::r) hlen;have pC:=bF8 (cZ (a::r)) (by rw [tQ];exact hlen);rw [tQ] at pC;have hdl:=um (cZ (a::r));simp only [R9,s4,s5,List.map_nil,E0,y8,e1];generalize (aD e).forget=w;have eI:[A1.cells ((a::r).map iv)]=HI (a::r):=rfl;rw [eI]
   repeat' (first|refine c0I pS ?_|refine c0I pC ?_|refine gx ?_|fail)
   refine ⟨_,aw7 rfl rfl (by omega),?_⟩;simp only [iB,<- hacc]
def bb4 (n:Nat)(h0:0<n)(h:n<=1000000)(l:H7):Pm A 226 [.O2,.d (num n)] [] l (.own 2 0 []) []:=by
 refine ⟨1,fun k hk=> ?_⟩;obtain ⟨k,rfl⟩:∃ j,k=j+1:=⟨k - 1,by omega⟩;have h1:A.fP 226=some (xb 2):=rfl;simp only [call,h1,xb,num];rw [if_pos (by omega)]
def kD (l:List S8):List A2.Data:=[O9 l]
set_option maxHeartbeats 4000000 in
def aq8 (xss:List (List S8))(h0:xss.length<=100)(h1:∀ i,i<xss.length->(nth xss i).length<=10000)(hp:0<xss.flatten.length):Pf A 162 [.d (B0 kD xss)] (E7 2 Z4 xss.flatten):=by
 refine Pf.run [.d (B0 kD xss),.any,.any,.any,.any,.any,.any,.any,.any,.any,.any,.any] rfl rfl rfl rfl ?_;refine gr ?_;refine Ex.I7 (fun k T H=>∃ (i m:Nat) (w1 w3 w4 w5 w9 iL iM:c8),T=[.d (B0 kD xss),w1,.d (num m),w3,w4,w5,.d (B0 kD xss),.d (num xss.length),.d (num i),w9,iL,iM]/\H=[]/\i+k=xss.length/\m<=i * 10000/\xss.flatten.length=m+(xss.drop i).flatten.length) (by rintro _ _ _ ⟨_,_,_,_,_,_,_,_,_,_,rfl,_⟩;rfl) ?_ (k:=xss.length) ⟨0,0,_,_,_,_,_,_,_,rfl,rfl,by simp,by simp,by simp⟩;rintro k _ _ ⟨i,m,w1,w3,w4,w5,w9,iL,iM,rfl,rfl,hk,hm,hfl⟩;refine Ex.nT ?_;refine Ex.seq ?_;refine tb (E4 i xss.length) (fun h2=> ?_) (fun h2=> ?_)
 .have h3:=A6 h2
  have h4:=h1 i (by omega);have h5:m<=1000000:=by omega
  rw [D3 (by omega)] at hfl;refine gr ?_;refine tb (false) (fun h6=> ?_) (fun h6=> ?_)
  .cases h6
  refine gr ?_;exact ⟨k - 1,by omega,i+1,m+(nth xss i).length,_,_,_,_,_,_,_,rfl,rfl,by omega,by omega,by simp at hfl ⊢;omega⟩
 have h3:=A3 h2;have h5:m<=1000000:=by omega
 rw [l6 (by omega)] at hfl;have p1:=bb4 m (by simp only [List.flatten_nil,y8] at hfl;omega) h5;clear h2 hm hfl
 repeat' (first|refine c1 (p1 _) rfl ?_|refine gx ?_|fail)
 refine Ex.I7 (fun k T H=>∃ (i:Nat) (acc:List S8) (w0 w1 w2 w3 w5 w6 w7 w8:c8),T=[w0,w1,w2,w3,E7 2 Z4 acc,w5,w6,w7,w8,.d (B0 kD xss),.d (num xss.length),.d (num i)]/\H=[]/\i+k=xss.length/\acc.length<=i * 10000/\xss.flatten=acc++(xss.drop i).flatten) (by rintro _ _ _ ⟨_,_,_,_,_,_,_,_,_,_,_,rfl,_⟩;rfl) ?_ (k:=xss.length) ⟨0,[],_,_,_,_,_,_,_,_,rfl,rfl,by simp,by simp,by simp⟩;rintro k _ _ ⟨i,acc,w0,w1,w2,w3,w5,w6,w7,w8,rfl,rfl,hk,hl,hacc⟩;refine Ex.nT ?_;refine Ex.seq ?_;refine tb (E4 i xss.length) (fun h2=> ?_) (fun h2=> ?_)
 .have h6:=A6 h2
  have h7:=h1 i (by omega);rw [D3 (by omega)] at hacc;have h8:acc.length<=1000000:=by omega
  refine gr ?_;exact ⟨k - 1,by omega,i+1,acc++nth xss i,_,_,_,_,_,_,_,_,rfl,rfl,by omega,by simp;omega,by rw [hacc];simp⟩
 .have h6:=A3 h2
  rw [l6 (by omega)] at hacc
  repeat' (first|refine owS ?_|refine gx ?_|fail)
  exact ⟨_,rfl,by rw [hacc];simp [j3,E7]⟩
def jP (e:List X0)(ps:List S8):List S8:=(iB e).map fun x=>nth ps x.toNat
def pK (e:List X0)(ps:List S8):(jP e ps).length<=e.length:=by
 have:=Ee e;simp [jP];omega
def Ef:iB []=[]:=rfl
set_option maxHeartbeats 8000000 in
def Xa (e:List X0)(l r:List S8)(he:e.length<=800)(hv:X7 e=true\/e=[])(hl:l.length<=1000)(hr:r.length<=1000)(h0:0<l.length)(hc:∀ x,x ∈ iB e->0<=x/\x<(l++r).length) :
  Pf A 161 [aD e,.d (O9 l),.d (O9 r)] (.d (O9 (jP e (l++r)))):=by
 have p1:∃ w,Pf A 225 [aD e] w/\(w= .d (ints (iB e))\/∃ z,w= .own z 0 []/\ints (iB e)= .slice 0 []):=by
  rcases hv with hv|rfl
  .exact ⟨_,ar2 e he hv,.inl rfl⟩
  .exact ⟨_,Xd [] (by simp) (by simp [X7,s6]),.inr ⟨1,rfl,by rw [Ef];rfl⟩⟩
 obtain ⟨w,p1,hw⟩:=p1;have p2:=aq8 [l,r] (by simp) (fun i hi=>by
  match i,hi with
  |0,_=>rw [F2 (by simp)];show l.length<=10000;omega
  |1,_=>rw [F2 (by simp)];show r.length<=10000;omega) (by simp;omega)
 have e2:[l,r].flatten=l++r:=by simp
 rw [e2] at p2;have hcl:=Ee e;obtain ⟨ps,hps⟩:∃ ps,l++r=ps:=⟨_,rfl⟩;have Bj:ps.length<=2000:=by rw [<- hps];simp;omega
 rw [hps] at p2 hc ⊢;unfold jP;obtain ⟨cs,hcs⟩:∃ cs,iB e=cs:=⟨_,rfl⟩;rw [hcs] at hw hcl hc ⊢;have hnl:cs.length<=1000:=by omega
 have run:∀ w:c8,(w= .d (ints cs)\/(w= .own 1 0 []/\cs=[]))->Pf A 225 [aD e] w->Pf A 161 [aD e,.d (O9 l),.d (O9 r)] (.d (O9 (cs.map fun x=>nth ps x.toNat))):=by
  rintro w (rfl|⟨rfl,rfl⟩) p1
  all_goals refine Pf.run [aD e,.d (O9 l),.d (O9 r),.any,.any,.any,.any,.any,.any,.any] rfl rfl rfl rfl ?_
  .repeat' (first|refine cl (p2) ?_|refine clT p1 (h2:= ?_)|refine gx ?_|fail)
   refine Ex.I7 (fun k T H=>∃ (i:Nat) (acc:List S8) (w0 w1 w2 w3 w6:c8),T=[w0,w1,w2,w3,E7 2 Z4 ps,E7 2 Z4 acc,w6,.d (ints cs),.d (num cs.length),.d (num i)]/\H=[]/\i+k=cs.length/\acc=(cs.take i).map fun x=>nth ps x.toNat) (by rintro _ _ _ ⟨_,_,_,_,_,_,_,rfl,rfl,_⟩;rfl) ?_ (k:=cs.length) ⟨0,[],_,_,_,_,_,rfl,rfl,by simp,by simp⟩;rintro k _ _ ⟨i,acc,w0,w1,w2,w3,w6,rfl,rfl,hk,hacc⟩;have ya:acc.length<=10000:=by rw [hacc];simp;omega
   refine Ex.nT ?_;refine Ex.seq ?_;refine tb (E4 i cs.length) (fun h2=> ?_) (fun h2=> ?_)
   .have h3:=A6 h2
    have h4:=hc _ (S9 (l:=cs) (i:=i) (by omega))
    repeat' (first|refine oN (enc:=Z4) (nth ps (nth cs i).toNat) ?_|refine apN (ys:=[nth ps (nth cs i).toNat]) (h2:= ?_)|refine gx ?_|fail)
    exact ⟨k - 1,by omega,i+1,acc++[nth ps (nth cs i).toNat],_,_,_,_,_,rfl,rfl,by omega,by rw [hacc,H9 (by omega)];simp⟩
   .have h3:=A3 h2
    obtain rfl:i=cs.length:=by omega
    refine gr ?_;exact ⟨_,rfl,by rw [hacc];simp [j3,O9,B0]⟩
  .repeat' (first|refine cl (p2) ?_|refine bs1 p1 (h2:= ?_)|refine bA7 (h2:= ?_)|refine gx ?_|fail)
   refine Ex.I7 (fun k T H=>∃ (w0 w1 w2 w3 w4 w6 w7:c8),T=[w0,w1,w2,w3,w4,.own 2 0 [],w6,w7,.d (num 0),.d (num 0)]/\H=[]/\k=0) (by rintro _ _ _ ⟨_,_,_,_,_,_,_,rfl,rfl,_⟩;rfl) ?_ (k:=0) ⟨_,_,_,_,_,_,_,rfl,rfl,rfl⟩;rintro k _ _ ⟨w0,w1,w2,w3,w4,w6,w7,rfl,rfl,hk⟩;refine Ex.nT ?_;refine Ex.seq ?_;refine tb (E4 0 0) (fun h2=> ?_) (fun h2=> ?_)
   .have h3:=A6 h2
    omega
   .refine gr ?_
    exact ⟨_,rfl,by simp [j3,O9,B0]⟩
 rcases hw with rfl|⟨z,rfl,h⟩
 .exact run _ (.inl rfl) p1
 .have hz:cs=[]:=by
   cases cs with
   |nil=>rfl
   |cons a q=>simp [ints,B0] at h
  rcases hv with hv|rfl
  .exact run _ (.inl rfl) (by have:=ar2 e he hv;rw [hcs] at this;exact this)
  .exact run _ (.inr ⟨rfl,hz⟩) (Xd [] (by simp) (by simp [X7,s6]))
def HC (c:r9)(fl:List C4):p9:=[.cells (c.enc.map .d),.cells [E7 5 C4.enc fl]]
def lCo:H7:=⟨0,0,2,2⟩
def Xg (p:S8):c8:= .agg [.d (num p.1),.d (num p.2)]
def xX (ps:List S8)(to:S8)(d:Bool):List C4:=ps.map fun p=>⟨p,to,d⟩
set_option maxHeartbeats 8000000 in
def Kv (c:r9)(fl:List C4)(ps:List S8)(to:S8)(d:Bool)(h:fl.length+ps.length<=1000000):Pm A 157 [.ptr 1 0,.d (O9 ps),Xg to,.d (.bool d)] (HC c fl) lCo (.tuple []) (HC c (fl++xX ps to d)):=by
 have key:Pq A 157 [.ptr 1 0,.d (O9 ps),Xg to,.d (.bool d)] (HC c fl) lCo fun v H1=>v= .tuple []/\H1=HC c (fl++xX ps to d):=by
  refine Pq.run (b:=2) [.ptr 1 0,.d (O9 ps),Xg to,.d (.bool d),.any,.any,.any,.any,.any] rfl rfl rfl rfl rfl ?_;unfold HC Xg;refine gr ?_;refine Ex.cV (fun k T H=>∃ i:Nat,T=[.ptr 1 0,.any,.any,.d (.bool d),.ptr 2 0,.any,.d (O9 ps),.d (num ps.length),.d (num i)]/\H=[.cells (c.enc.map .d),.cells [E7 5 C4.enc (fl++xX (ps.take i) to d)],.cells [.d (num to.1),.d (num to.2)]]/\i+k=ps.length) ?_ (k:=ps.length) ⟨0,rfl,by simp [xX],by simp⟩;rintro k _ _ ⟨i,rfl,rfl,hk⟩;refine Ex.seq ?_;refine tb (E4 i ps.length) (fun h2=> ?_) (fun h2=> ?_)
  .have h3:=A6 h2
   have h4:(fl++xX (ps.take i) to d).length<=1000000:=by simp [xX];omega
   have hr:roomFor ((fl++xX (ps.take i) to d).length+1) 40=true:=by simp only [roomFor,decide_eq_true_eq];omega
   have h5:xX (ps.take (i+1)) to d=xX (ps.take i) to d++[⟨nth ps i,to,d⟩]:=by
    unfold xX;rw [H9 (by omega)];simp
   repeat' (first|refine Dv (cs:=(C4.enc ⟨nth ps i,to,d⟩).map .d) ?_|refine oN (enc:=C4.enc) ⟨nth ps i,to,d⟩ ?_|refine acN (enc:=C4.enc) (xs:=fl++xX (ps.take i) to d) ⟨nth ps i,to,d⟩ hr (h2:= ?_)|refine soO (h2:= ?_)|refine gx ?_|fail)
   exact ⟨k - 1,by omega,_,_,V8 (j5 rfl) (j5 rfl),i+1,rfl,by rw [h5,<- D2];rfl,by omega⟩
  .have h3:=A3 h2
   obtain rfl:i=ps.length:=by omega
   refine gr ?_;exact ⟨_,_,rfl,rfl,by rw [List.take_length];rfl⟩
 obtain ⟨v,H1,⟨rfl,rfl⟩,h⟩:=key;exact h
def oq (s p:Int):Nat->List C4
 |0=>[]
 |k+1=>oq s p k++(if !s9 k p then xX [(s,p)] (s,(k:Int)) false else [])
theorem uW (s p:Int):∀ k,(oq s p k).length<=k
 |0=>n5 _
 |k+1=>by
  have:=uW s p k;simp only [oq,k9];split<;>simp [xX]<;>omega
def gO (s:Int)(n:Nat)(tS:List Int):List C4:=tS.flatMap fun p=>oq s p n
theorem qo (s:Int)(n:Nat):∀ tS:List Int,(gO s n tS).length<=tS.length * n
 |[]=>by simp [gO]
 |p::tS=>by
  have h1:=qo s n tS;have h2:=uW s p n;simp only [gO,List.flatMap_cons,k9,p8,Nat.add_mul,Nat.one_mul] at h1 ⊢;omega
set_option maxHeartbeats 8000000 in
def ba0 (c:r9)(fl:List C4)(s:Int)(n:Nat)(tS:List Int)(hf:fl.length<=100000)(hn:n<=100)(hp:tS.length<=100) :
  Pm A 102 [.ptr 1 0,.d (num s),.d (num n),.d (ints tS)] (HC c fl) lCo (.tuple []) (HC c (fl++gO s n tS)):=by
 have key:Pq A 102 [.ptr 1 0,.d (num s),.d (num n),.d (ints tS)] (HC c fl) lCo fun v H1=>v= .tuple []/\H1=HC c (fl++gO s n tS):=by
  refine Pq.run (b:=2) [.ptr 1 0,.d (num s),.d (num n),.d (ints tS),.any,.any,.any,.any,.any,.any,.any] rfl rfl rfl rfl rfl ?_;refine gr ?_;refine Ex.I7 (fun k T H=>∃ (i:Nat) (w3 w4 w5 w9 iL:c8),T=[.ptr 1 0,.d (num s),.d (num n),w3,w4,w5,.d (ints tS),.d (num tS.length),.d (num i),w9,iL]/\H=HC c (fl++gO s n (tS.take i))/\i+k=tS.length) (by rintro _ _ _ ⟨_,_,_,_,_,_,rfl,rfl,_⟩;rfl) ?_ (k:=tS.length) ⟨0,_,_,_,_,_,rfl,by simp [gO],by simp⟩;rintro k _ _ ⟨i,w3,w4,w5,w9,iL,rfl,rfl,hk⟩;refine Ex.nT ?_;refine Ex.seq ?_;refine tb (E4 i tS.length) (fun h2=> ?_) (fun h2=> ?_)
  .have h3:=A6 h2
   have h4:=qo s n (tS.take i);have h5:(tS.take i).length * n<=100 * 100:=Nat.mul_le_mul (by simp;omega) hn;have h6:gO s n (tS.take (i+1))=gO s n (tS.take i)++oq s (nth tS i) n:=by
    unfold gO;rw [H9 (by omega)];simp
   refine gr ?_;obtain ⟨p,hpe⟩:∃ p,nth tS i=p:=⟨_,rfl⟩;rw [hpe] at h6 ⊢;refine Ex.I7 (fun k T H=>∃ (j:Nat) (w3 w5:c8),T=[.ptr 1 0,.d (num s),.d (num n),w3,.d (num p),w5,.d (ints tS),.d (num tS.length),.d (num i),.d (num n),.d (num j)]/\H=HC c ((fl++gO s n (tS.take i))++oq s p j)/\j+k=n) (by rintro _ _ _ ⟨_,_,_,rfl,rfl,_⟩;rfl) ?_ (k:=n) ⟨0,_,_,rfl,by simp [oq],by simp⟩;rintro m _ _ ⟨j,w3,w5,rfl,rfl,hm⟩;refine Ex.nT ?_;refine Ex.seq ?_;refine tb (E4 j n) (fun g2=> ?_) (fun g2=> ?_)
   .have g3:=A6 g2
    have g4:=uW s p j;refine gr ?_;refine tb (!s9 j p) (fun g5=> ?_) (fun g5=> ?_)
    .have pa:=Kv c ((fl++gO s n (tS.take i))++oq s p j) [(s,p)] (s,(j:Int)) false (by simp only [k9,List.length_singleton];omega)
     repeat' (first|refine Dv (cs:=(Z4 (s,p)).map .d) ?_|refine Dv (cs:=(Z4 (s,(j:Int))).map .d) ?_|refine oN (enc:=Z4) (s,p) ?_|refine c0 pa rfl (h2:= ?_)|refine gx ?_|fail)
     exact ⟨m - 1,by omega,j+1,_,_,rfl,by simp only [oq,g5,if_true,D2];rfl,by omega⟩
    .refine gr ?_
     exact ⟨m - 1,by omega,j+1,_,_,rfl,by simp only [oq,g5,j4,if_false,List.append_nil],by omega⟩
   .have g3:=A3 g2
    obtain rfl:j=n:=by omega
    refine gr ?_;exact ⟨k - 1,by omega,i+1,_,_,_,_,_,rfl,by rw [h6,D2],by omega⟩
  .have h3:=A3 h2
   obtain rfl:i=tS.length:=by omega
   refine gr ?_;exact ⟨_,_,rfl,rfl,by rw [List.take_length];rfl⟩
 obtain ⟨v,H1,⟨rfl,rfl⟩,h⟩:=key;exact h
def xD (s:Int)(l r:List S8):Nat->List C4
 |0=>[]
 |k+1=>xD s l r k++(xX [nth l k,nth r k] (s,(k:Int)) true++xX [nth l 0,nth r 0] (s,(k:Int)) false)
theorem Cy (s:Int)(l r:List S8):∀ k,(xD s l r k).length=4 * k
 |0=>rfl
 |k+1=>by
  have:=Cy s l r k;simp only [xD,k9,xX,B9,p8,y8];omega
set_option maxHeartbeats 8000000 in
def ba9 (c:r9)(fl:List C4)(s:Int)(l r:List S8)(hf:fl.length<=100000)(hl:l.length<=100)(hr:l.length<=r.length) :
  Pm A 160 [.ptr 1 0,.d (num s),.d (O9 l),.d (O9 r)] (HC c fl) lCo (.tuple []) (HC c (fl++xD s l r l.length)):=by
 have key:Pq A 160 [.ptr 1 0,.d (num s),.d (O9 l),.d (O9 r)] (HC c fl) lCo fun v H1=>v= .tuple []/\H1=HC c (fl++xD s l r l.length):=by
  refine Pq.run (b:=2) [.ptr 1 0,.d (num s),.d (O9 l),.d (O9 r),.any,.any,.any,.any] rfl rfl rfl rfl rfl ?_;refine gr ?_;refine Ex.cV (fun k T H=>∃ i:Nat,T=[.ptr 1 0,.d (num s),.d (O9 l),.d (O9 r),.any,.any,.d (num l.length),.d (num i)]/\H=HC c (fl++xD s l r i)/\i+k=l.length) ?_ (k:=l.length) ⟨0,rfl,by simp [xD],by simp⟩;rintro k _ _ ⟨i,rfl,rfl,hk⟩;have hul:=Cy s l r i;refine Ex.seq ?_;refine tb (E4 i l.length) (fun h2=> ?_) (fun h2=> ?_)
  .have h3:=A6 h2
   have p1:=Kv c (fl++xD s l r i) [nth l i,nth r i] (s,(i:Int)) true (by simp only [k9,p8,y8];omega);have p2:=Kv c ((fl++xD s l r i)++xX [nth l i,nth r i] (s,(i:Int)) true) [nth l 0,nth r 0] (s,(i:Int)) false (by simp only [k9,p8,y8,xX,B9];omega);unfold HC Xg at *
   repeat' (first|refine Dv (cs:=(Z4 (s,(i:Int))).map .d) ?_|refine ZE (Z4 (nth l i)++Z4 (nth r i)) ?_|refine c0 p1 rfl (h2:= ?_)|refine ZE (Z4 (nth l 0)++Z4 (nth r 0)) ?_|refine c0 p2 rfl (h2:= ?_)|refine ixZ (h2:= ?_)|refine gx ?_|fail)
   exact ⟨k - 1,by omega,_,_,V8 (j5 rfl) (j5 rfl),i+1,rfl,by simp only [xD,<- D2];rfl,by omega⟩
  .have h3:=A3 h2
   obtain rfl:i=l.length:=by omega
   refine gr ?_;exact ⟨_,_,rfl,rfl,rfl⟩
 obtain ⟨v,H1,⟨rfl,rfl⟩,h⟩:=key;exact h
structure Gd (e:List X0)(n:Nat):Prop where
 len:e.length<=64
 ok:X7 e=true\/e=[]
 col:∀ x,x ∈ iB e->0<=x/\x<n
def nG (v:Vw)(ps:List S8)(i:Nat):List (List S8):=(v.items.take i).map fun x=>jP x.expr ps
def GA (v:Vw)(ps:List S8)(i:Nat):List (List S8):=(v.D5.take i).map fun x=>jP x.expr ps
def uk (v:Vw)(ps:List S8):List (List S8):=nG v ps v.items.length++GA v ps v.D5.length
def onP (v:Vw)(L R:List S8)(i:Nat):List S8:=(v.on.take i).flatMap fun p=>[nth L p.1.toNat,nth R p.2.toNat]
def Ng (v:Vw)(L R:List S8):List S8:=jP v.wh (L++R)++[nth L 0]++(if E4 0 R.length then [nth R 0] else [])++onP v L R v.on.length++(if s9 v.kind 1||v.distinct then (nG v (L++R) v.items.length).flatten else [])
def BH (s:Int)(ds:List (List S8))(cs:List S8):Nat->List C4
 |0=>[]
 |k+1=>BH s ds cs k++(xX (nth ds k) (s,(k:Int)) true++xX cs (s,(k:Int)) false)
def qu (s:Int)(v:Vw)(L R:List S8):List C4:=if s9 v.kind 2 then xD s L R L.length else BH s (uk v (L++R)) (Ng v L R) (uk v (L++R)).length
structure UN (v:Vw)(L R:List S8):Prop where
 l0:0<L.length
 l8:L.length<=8
 r8:R.length<=8
 q7:v.items.length+v.D5.length<=8
 on8:v.on.length<=8
 on:∀ i,i<v.on.length->0<=(nth v.on i).1/\(nth v.on i).1<L.length/\0<=(nth v.on i).2/\(nth v.on i).2<R.length
 wh:Gd v.wh (L++R).length
 it:∀ i,i<v.items.length->Gd (nth v.items i).expr (L++R).length
 ag:∀ i,i<v.D5.length->Gd (nth v.D5 i).expr (L++R).length
 un:s9 v.kind 2=true->L.length<=R.length
def Hh (v:Vw)(L R:List S8)(i:Nat):(onP v L R i).length<=2 * v.on.length:=by
 have:∀ l:List (Int×Int),(l.flatMap fun p=>[nth L p.1.toNat,nth R p.2.toNat]).length=2 * l.length:=by
  intro l
  induction l with
  |nil=>rfl
  |cons a l ih=>simp only [List.flatMap_cons,k9,ih,p8,y8];omega
 unfold onP;rw [this,List.length_take];omega
def th {D:List (List S8)}(h:∀ d,d ∈ D->d.length<=64):D.flatten.length<=64 * D.length:=by
 induction D with
 |nil=>simp
 |cons a l ih =>
  have:=h a (by simp);have:=ih fun d hd=>h d (by simp [hd])
  simp only [List.flatten_cons,k9,p8];omega
theorem BI (s:Int)(ds:List (List S8))(cs:List S8)(h:∀ i,i<ds.length->(nth ds i).length<=64):∀ i,i<=ds.length->(BH s ds cs i).length<=i * (64+cs.length)
 |0,_=>by simp [BH]
 |k+1,hk=>by
  have h1:=BI s ds cs h k (by omega);have h2:=h k (by omega);simp only [BH,k9,xX,B9,Nat.succ_mul];omega
def AL {v:Vw}{ps:List S8}(hi:∀ i,i<v.items.length->Gd (nth v.items i).expr ps.length)(ha:∀ i,i<v.D5.length->Gd (nth v.D5 i).expr ps.length):∀ d,d ∈ uk v ps->d.length<=64:=by
 intro d hd;simp only [uk,nG,GA,List.mem_append,L1] at hd
 rcases hd with ⟨x,hx,rfl⟩|⟨x,hx,rfl⟩
 .obtain ⟨q,hq,rfl⟩:=List.getElem_of_mem (List.mem_of_mem_take hx)
  have h1:=(hi q hq).len;rw [F2 hq] at h1;have:=pK v.items[q].expr ps;omega
 .obtain ⟨q,hq,rfl⟩:=List.getElem_of_mem (List.mem_of_mem_take hx)
  have h1:=(ha q hq).len;rw [F2 hq] at h1;have:=pK v.D5[q].expr ps;omega
set_option maxHeartbeats 32000000 in
def ba1 (c:r9)(fl:List C4)(v:Vw)(s:Int)(L R:List S8)(h:UN v L R)(hf:fl.length<=100000)(pl:Pf A 159 [cat c,.d (.str v.left)] (.d (O9 L)))(pr:O1 v.right []=false->Pf A 159 [cat c,.d (.str v.right)] (.d (O9 R)))(hr0:O1 v.right []=true->R=[]) :
  Pm A 104 [.ptr 1 0,cat c,.d (num s),vw' v] (HC c fl) lCo (.tuple []) (HC c (fl++qu s v L R)):=by
 have key:Pq A 104 [.ptr 1 0,cat c,.d (num s),vw' v] (HC c fl) lCo fun r H1=>r= .tuple []/\H1=HC c (fl++qu s v L R):=by
  obtain ⟨l0,l8,r8,q7,on8,on,wh,it,ag,un⟩:=h;have hlr:(L++R).length<=16:=by simp;omega
  have hb0:∀ w7:c8,(w7= .d (O9 R)\/∃ z,w7= .own z 0 []/\O9 R= .slice 0 [])->w7.O5=0:=by
   rintro _ (rfl|⟨_,rfl,_⟩)<;>rfl
  refine Pq.run (b:=2) [.ptr 1 0,cat c,.d (num s),vw' v,.any,.any,.any,.any,.any,.any,.any,.any,.any,.any,.any,.any,.any,.any,.any,.any,.any,.any,.any,.any,.any,.any,.any,.any,.any,.any,.any,.any] rfl rfl rfl rfl rfl ?_;unfold HC
  repeat' (first|refine IW pl ?_|refine gx ?_|fail)
  refine Ex.OA (fun st=>∃ w7:c8,(w7= .d (O9 R)\/∃ z,w7= .own z 0 []/\O9 R= .slice 0 [])/\st=⟨[.ptr 1 0,cat c,.d (num s),vw' v,.ptr 2 0,.ptr 3 0,.d (O9 L),w7,.any,.any,.any,.any,.any,.any,.any,.any,.any,.any,.any,.any,.any,.any,.any,.any,.any,.any,.any,.any,.any,.any,.any,.any],[.cells (c.enc.map .d),.cells [E7 5 C4.enc fl],.cells (c.enc.map .d),.cells (v.enc.map .d)]⟩) ?_ ?_
  .skip
   refine tb (!O1 v.right []) (fun h=> ?_) (fun h=> ?_)
   .have pr:=pr (by simpa using h)
    repeat' (first|refine IW pr ?_|refine gx ?_|fail)
    exact ⟨_,.inl rfl,rfl⟩
   .refine gr ?_
    exact ⟨_,.inr ⟨2,rfl,by rw [hr0 (by simpa using h)];rfl⟩,rfl⟩
  rintro _ ⟨w7,VZ,rfl⟩;refine gr ?_;refine tb (s9 v.kind 2) (fun hk=> ?_) (fun hk=> ?_)
  .have p:=ba9 c fl s L R hf (by omega) (un hk)
   unfold HC at p
   repeat' (first|refine msv VZ ?_|refine c0 p rfl (h2:= ?_)|refine gx ?_|fail)
   exact ⟨_,_,rfl,rfl,by rw [qu,hk];rfl⟩
  refine gr ?_;refine Ex.cV (fun k T H=>∃ i:Nat,T=[.ptr 1 0,.any,.d (num s),.any,.any,.ptr 3 0,.d (O9 L),w7,E7 1 kD (nG v (L++R) i),.any,.any,.any,.any,.any,.any,.any,.any,.d (B0 OK.enc v.items),.d (num v.items.length),.d (num i),.any,.any,.any,.any,.any,.any,.any,.any,.any,.any,.any,.any]/\H=[.cells (c.enc.map .d),.cells [E7 5 C4.enc fl],.cells (c.enc.map .d),.cells (v.enc.map .d)]/\i+k=v.items.length) ?_ (k:=v.items.length) ⟨0,rfl,rfl,by simp⟩;rintro k _ _ ⟨i,rfl,rfl,hk1⟩;have hdl:(nG v (L++R) i).length<=8:=by simp [nG];omega
  refine Ex.seq ?_;refine tb (E4 i v.items.length) (fun h2=> ?_) (fun h2=> ?_)
  .have h3:=A6 h2
   obtain ⟨e1,e2,e3⟩:=it i (by omega);have p1:=Xa (nth v.items i).expr L R (by omega) e2 (by omega) (by omega) l0 e3;have e4:nG v (L++R) (i+1)=nG v (L++R) i++[jP (nth v.items i).expr (L++R)]:=by
    unfold nG;rw [H9 (by omega)];simp
   repeat' (first|refine msv VZ ?_|refine IW p1 ?_|refine gx ?_|fail)
   exact ⟨k - 1,by omega,_,_,V8 (by rcases VZ with rfl|⟨_,rfl,_⟩<;>exact j5 rfl) (j5 rfl),i+1,by rw [e4];rfl,rfl,by omega⟩
  have h3:=A3 h2;obtain rfl:i=v.items.length:=by omega
  have pw:=Xa v.wh L R (by have:=wh.len;omega) wh.ok (by omega) (by omega) l0 wh.col;have ZK:=pK v.wh (L++R);have cg2:=wh.len;have Tt:L.take 1=[nth L 0]:=by
   cases L with
   |nil=>simp at l0
   |cons a q=>simp [nth]
  have pc:=aq8 [jP v.wh (L++R),L.take 1] (by simp) (fun i hi=>by
   match i,hi with
   |0,_=>rw [F2 (by simp)];show (jP v.wh (L++R)).length<=10000;omega
   |1,_=>rw [F2 (by simp)];show (L.take 1).length<=10000;simp;omega) (by simp;omega)
  have et:[jP v.wh (L++R),L.take 1].flatten=jP v.wh (L++R)++[nth L 0]:=by simp [Tt]
  rw [et] at pc;obtain ⟨C0,hC0⟩:∃ C0,jP v.wh (L++R)++[nth L 0]=C0:=⟨_,rfl⟩;have cc0:C0.length<=65:=by rw [<- hC0];simp;omega
  rw [hC0] at pc;obtain ⟨D,hD⟩:∃ D,nG v (L++R) v.items.length=D:=⟨_,rfl⟩;have hDl:D.length=v.items.length:=by rw [<- hD];simp [nG]
  have ax0:∀ d,d ∈ D->d.length<=64:=by
   intro d hd;rw [<- hD] at hd;simp only [nG,L1] at hd;obtain ⟨x,hx,rfl⟩:=hd;obtain ⟨q,hq,rfl⟩:=List.getElem_of_mem (List.mem_of_mem_take hx);have h1:=(it q hq).len;rw [F2 hq] at h1;have:=pK v.items[q].expr (L++R);omega
  rw [hD] at hdl ⊢
  repeat' (first|refine msv VZ ?_|refine IW pw ?_|refine cl (pc) ?_|refine gx ?_|fail)
  refine Ex.OA (fun st=>st=⟨[.ptr 1 0,.any,.d (num s),.any,.any,.ptr 3 0,.d (O9 L),w7,E7 1 kD D,.any,E7 2 Z4 (C0++(if E4 0 R.length then [nth R 0] else [])),.any,.any,.any,.any,.any,.any,.d (B0 OK.enc v.items),.d (num v.items.length),.d (num v.items.length),.any,.any,.any,.any,.any,.any,.any,.any,.any,.any,.any,.any],[.cells (c.enc.map .d),.cells [E7 5 C4.enc fl],.cells (c.enc.map .d),.cells (v.enc.map .d)]⟩) ?_ ?_
  .skip
   refine tB (E4 0 R.length) ?_ (fun h=> ?_) (fun h=> ?_)
   .repeat' (first|refine msv VZ ?_|refine gx ?_|refine fk (h1:=fun hw=> ?_) (h2:=fun hw=> ?_)|refine U1 (h1:=fun hw=> ?_) (h2:=fun hw=> ?_)|refine ⟨rfl,rfl,_,rfl,?_⟩|refine ⟨rfl,rfl⟩|fail)
    all_goals exact cc
   .have h3:=A6 h
    have h4:0<R.length:=by omega
    rw [h];simp only [if_true]
    repeat' (first|refine msv VZ ?_|refine oN (enc:=Z4) (nth R 0) ?_|refine apN (ys:=[nth R 0]) (h2:= ?_)|refine gx ?_|fail)
    exact rfl
   .rw [h]
    simp only [j4,if_false,List.append_nil];refine gr ?_;exact rfl
  rintro _ rfl;obtain ⟨C1,hC1⟩:∃ C1,C0++(if E4 0 R.length then [nth R 0] else [])=C1:=⟨_,rfl⟩;have cc1:C1.length<=66:=by rw [<- hC1];split<;>simp<;>omega
  rw [hC1];refine gr ?_;refine Ex.cV (fun k T H=>∃ (i:Nat) (acc:List S8),T=[.ptr 1 0,.any,.d (num s),.any,.any,.ptr 3 0,.d (O9 L),w7,E7 1 kD D,.any,E7 2 Z4 acc,.any,.any,.any,.any,.any,.any,.any,.any,.any,.d (B0 (fun p=>[num p.1,num p.2]) v.on),.d (num v.on.length),.d (num i),.any,.any,.any,.any,.any,.any,.any,.any,.any]/\H=[.cells (c.enc.map .d),.cells [E7 5 C4.enc fl],.cells (c.enc.map .d),.cells (v.enc.map .d)]/\i+k=v.on.length/\acc=C1++onP v L R i) ?_ (k:=v.on.length) ⟨0,C1,rfl,rfl,by simp,by simp [onP]⟩;rintro k _ _ ⟨i,acc,rfl,rfl,hk2,hacc⟩;refine Ex.seq ?_;refine tb (E4 i v.on.length) (fun h2=> ?_) (fun h2=> ?_)
  .have h3:=A6 h2
   obtain ⟨q1,q2,q3,q4⟩:=on i (by omega);have hol:=Hh v L R i;have ya:acc.length<=82:=by rw [hacc,k9];omega
   repeat' (first|refine msv VZ ?_|refine ZE (Z4 (nth L (nth v.on i).1.toNat)++Z4 (nth R (nth v.on i).2.toNat)) ?_|refine apN (ys:=[nth L (nth v.on i).1.toNat,nth R (nth v.on i).2.toNat]) (h2:= ?_)|refine gx ?_|fail)
   exact ⟨k - 1,by omega,_,_,V8 (by rcases VZ with rfl|⟨_,rfl,_⟩<;>exact j5 rfl) (j5 rfl),i+1,_,rfl,rfl,by omega,by rw [hacc];unfold onP;rw [H9 (by omega)];simp⟩
  have h3:=A3 h2;obtain rfl:i=v.on.length:=by omega
  obtain ⟨C2,hC2⟩:∃ C2,C1++onP v L R v.on.length=C2:=⟨_,rfl⟩;have ce2:=Hh v L R v.on.length;have cc2:C2.length<=82:=by rw [<- hC2];simp only [k9];omega
  rw [hC2] at hacc;rw [hacc];clear hacc acc;refine gr ?_;refine Ex.OA (fun st=>∃ w20 w21 w22 w23 w24 w25:c8,(w20.O5=0/\w21.O5=0/\w22.O5=0/\w23.O5=0/\w24.O5=0/\w25.O5=0)/\st=⟨[.ptr 1 0,.any,.d (num s),.any,.any,.ptr 3 0,.d (O9 L),w7,E7 1 kD D,.any,E7 2 Z4 (C2++(if s9 v.kind 1||v.distinct then D.flatten else [])),.any,.any,.any,.any,.any,.any,.any,.any,.any,w20,w21,w22,w23,w24,w25,.any,.any,.any,.any,.any,.any],[.cells (c.enc.map .d),.cells [E7 5 C4.enc fl],.cells (c.enc.map .d),.cells (v.enc.map .d)]⟩) ?_ ?_
  .skip
   refine tb ((s9 v.kind 1||v.distinct)) (fun h=> ?_) (fun h=> ?_)
   .repeat' (first|refine moT (h2:= ?_)|refine gx ?_|fail)
    refine Ex.cV (fun k T H=>∃ (i:Nat) (acc:List S8),T=[.ptr 1 0,.any,.d (num s),.any,.any,.ptr 3 0,.d (O9 L),w7,E7 1 kD D,.any,E7 2 Z4 acc,.any,.any,.any,.any,.any,.any,.any,.any,.any,.any,.any,.any,.d (B0 kD D),.d (num D.length),.d (num i),.any,.any,.any,.any,.any,.any]/\H=[.cells (c.enc.map .d),.cells [E7 5 C4.enc fl],.cells (c.enc.map .d),.cells (v.enc.map .d)]/\i+k=D.length/\acc=C2++(D.take i).flatten) ?_ (k:=D.length) ⟨0,C2,rfl,rfl,by simp,by simp⟩;rintro k _ _ ⟨i,acc,rfl,rfl,hk3,hacc⟩;refine Ex.seq ?_;refine tb (E4 i D.length) (fun h2=> ?_) (fun h2=> ?_)
    .have h3:=A6 h2
     have h4:=ax0 (nth D i) (S9 (by omega));have h5:=th (D:=D.take i) fun d hd=>ax0 d (List.mem_of_mem_take hd)
     have h6:(D.take i).length<=8:=by rw [List.length_take];omega
     have ya:acc.length<=600:=by rw [hacc,k9];omega
     refine gr ?_;exact ⟨k - 1,by omega,_,_,V8 (by rcases VZ with rfl|⟨_,rfl,_⟩<;>exact j5 rfl) (j5 rfl),i+1,acc++nth D i,rfl,rfl,by omega,by rw [hacc,H9 (by omega)];simp⟩
    have h3:=A3 h2;obtain rfl:i=D.length:=by omega
    have ha:acc=C2++(if s9 v.kind 1||v.distinct then D.flatten else []):=by rw [hacc,h];simp
    rw [<- ha];refine gr ?_;exact ⟨.any,.any,.any,.d (B0 kD D),.d (num D.length),.d (num D.length),⟨rfl,rfl,rfl,rfl,rfl,rfl⟩,rfl⟩
   .rw [h]
    simp only [j4,if_false,List.append_nil];refine gr ?_;exact ⟨.d (B0 (fun p=>[num p.1,num p.2]) v.on),.d (num v.on.length),.d (num v.on.length),.any,.any,.any,⟨rfl,rfl,rfl,rfl,rfl,rfl⟩,rfl⟩
  rintro _ ⟨w20,w21,w22,w23,w24,w25,hb,rfl⟩;obtain ⟨C3,hC3⟩:∃ C3,C2++(if s9 v.kind 1||v.distinct then D.flatten else [])=C3:=⟨_,rfl⟩;have cc3:C3.length<=600:=by
   have:=th ax0;rw [<- hC3];simp only [k9];split<;>(try simp only [y8])<;>omega
  rw [hC3];refine gr ?_;refine Ex.cV (fun k T H=>∃ (i:Nat) (acc:List (List S8)),T=[.ptr 1 0,.any,.d (num s),.any,.any,.any,.d (O9 L),w7,E7 1 kD acc,.any,E7 2 Z4 C3,.any,.any,.any,.any,.any,.any,.any,.any,.any,.any,.any,.any,.any,.any,.any,.d (B0 Io.enc v.D5),.d (num v.D5.length),.d (num i),.any,.any,.any]/\H=[.cells (c.enc.map .d),.cells [E7 5 C4.enc fl],.cells (c.enc.map .d),.cells (v.enc.map .d)]/\i+k=v.D5.length/\acc=D++GA v (L++R) i) ?_ (k:=v.D5.length) ⟨0,D,rfl,rfl,by simp,by simp [GA]⟩;rintro k _ _ ⟨i,acc,rfl,rfl,hk4,hacc⟩;have ya:acc.length<=8:=by rw [hacc];simp [GA];omega
  refine Ex.seq ?_;refine tb (E4 i v.D5.length) (fun h2=> ?_) (fun h2=> ?_)
  .have h3:=A6 h2
   obtain ⟨e1,e2,e3⟩:=ag i (by omega);have p1:=Xa (nth v.D5 i).expr L R (by omega) e2 (by omega) (by omega) l0 e3
   repeat' (first|refine msv VZ ?_|refine IW p1 ?_|refine gx ?_|fail)
   exact ⟨k - 1,by omega,_,_,V8 (by rcases VZ with rfl|⟨_,rfl,_⟩<;>exact j5 rfl) (j5 rfl),i+1,acc++[jP (nth v.D5 i).expr (L++R)],rfl,rfl,by omega,by rw [hacc];unfold GA;rw [H9 (by omega)];simp⟩
  have h3:=A3 h2;obtain rfl:i=v.D5.length:=by omega
  obtain ⟨DV,hDV⟩:∃ DV,uk v (L++R)=DV:=⟨_,rfl⟩;have hacc:acc=DV:=by rw [hacc,<- hDV,<- hD];rfl
  subst hacc;have ax6:∀ i,i<acc.length->(nth acc i).length<=64:=by
   intro i hi;refine AL it ag _ ?_;rw [hDV];exact S9 hi
  have tq:qu s v L R=BH s acc C3 acc.length:=by
   unfold qu;rw [hk,hDV,<- hC3,<- hC2,<- hC1,<- hC0,<- hD];rfl
  rw [tq]
  repeat' (first|refine moT (h2:= ?_)|refine gx ?_|fail)
  refine Ex.cV (fun k T H=>∃ (i:Nat) (fs:List C4),T=[.ptr 1 0,.any,.d (num s),.any,.any,.any,.any,.any,.any,.any,E7 2 Z4 C3,.any,.any,.any,.any,.any,.any,.any,.any,.any,.any,.any,.any,.any,.any,.any,.any,.any,.any,.d (B0 kD acc),.d (num acc.length),.d (num i)]/\H=[.cells (c.enc.map .d),.cells [E7 5 C4.enc fs],.cells (c.enc.map .d),.cells (v.enc.map .d)]/\i+k=acc.length/\fs=fl++BH s acc C3 i) ?_ (k:=acc.length) ⟨0,fl,rfl,rfl,by simp,by simp [BH]⟩;rintro k _ _ ⟨i,fs,rfl,rfl,hk5,GO⟩;refine Ex.seq ?_;refine tb (E4 i acc.length) (fun h2=> ?_) (fun h2=> ?_)
  .have h3:=A6 h2
   have hol:=BI s acc C3 ax6 i (by omega);have p1:=Kv c fs (nth acc i) (s,(i:Int)) true (by have:=ax6 i (by omega);rw [GO];simp only [k9];have:i * (64+C3.length)<=8 * (64+C3.length):=Nat.mul_le_mul_right _ (by omega);omega);have p2:=Kv c (fs++xX (nth acc i) (s,(i:Int)) true) C3 (s,(i:Int)) false (by have:=ax6 i (by omega);rw [GO];simp only [k9,xX,B9];have:i * (64+C3.length)<=8 * (64+C3.length):=Nat.mul_le_mul_right _ (by omega);omega);unfold HC Xg at *
   repeat' (first|refine Dv (cs:=(Z4 (s,(i:Int))).map .d) ?_|refine c0 p1 rfl (h2:= ?_)|refine c0 p2 rfl (h2:= ?_)|refine gx ?_|fail)
   exact ⟨k - 1,by omega,_,_,V8 (j5 rfl) (j5 rfl),i+1,_,rfl,rfl,by omega,by rw [GO];simp only [BH,D2]⟩
  have h3:=A3 h2;obtain rfl:i=acc.length:=by omega
  refine gr ?_;exact ⟨_,_,rfl,rfl,by rw [GO];rfl⟩
 obtain ⟨r,H1,⟨rfl,rfl⟩,h⟩:=key;exact h
def flw (f:C4):c8:= .agg (f.enc.map .d)
def qd (a b:C4):Bool:=(a.src.1==b.src.1&&(a.src.2==b.src.2&&true))&&(a.dst.1==b.dst.1&&(a.dst.2==b.dst.2&&true))
set_option maxHeartbeats 8000000 in
def aq1 (a b:C4):Pf A 167 [flw a,flw b] (.d (.bool (qd a b))):=by
 refine Pf.run [flw a,flw b,.any,.any,.any] rfl rfl rfl rfl ?_;simp only [flw,C4.enc,L8,List.map_nil]
 repeat' (first|refine lqV rfl rfl ?_|refine gx ?_|refine fk (h1:=fun hw=> ?_) (h2:=fun hw=> ?_)|refine U1 (h1:=fun hw=> ?_) (h2:=fun hw=> ?_)|refine Ex.M8 ?_|refine Ex.N6 ?_|refine Ex.cond rfl (fun ht=> ?_) (fun ht=> ?_)|refine Ex.test (Rn.text ?_)|refine Ex.test (Rn.draw ?_)|refine ⟨_,rfl,fun ht=> ?_,fun ht=> ?_⟩|refine ⟨_,rfl,?_⟩|fail)
 .simp at hw
  simp [j3,qd,hw]
 .simp at hw
  simp [j3,qd];intro h1 h2;exact absurd h2 (hw h1)
def TY (a b:C4):qd a b=true↔a.src=b.src/\a.dst=b.dst:=by
 obtain ⟨⟨a1,a2⟩,⟨a3,a4⟩,a5⟩:=a;obtain ⟨⟨b1,b2⟩,⟨b3,b4⟩,b5⟩:=b;simp [qd]
def cI (xs:List C4):Nat->List C4
 |0=>[]
 |k+1=>cI xs k++(if decide (0<k)&&qd (nth xs k) (nth xs (k - 1)) then [] else [nth xs k])
def S3 (l:List C4):List c8:=(l.flatMap C4.enc).map .d
theorem Gn:∀ l:List A2.Data,C5 (l.map .d)=0
 |[]=>rfl
 |a::l=>by simp [C5,c8.O5,Gn l]
def SP {o0 o1:A1}(h0:o0.O5<=3)(h1:o1.O5<=3)(ys:List C4)(st:Nat):Z9 (([o0,o1,.cells (S3 ys)].take 3).drop st)<=3:=by
 have h2:(A1.cells (S3 ys)).O5<=3:=by simp only [A1.O5,S3,Gn];omega
 match st with
 |0=>simp [Z9];omega
 |1=>simp [Z9];omega
 |2=>simp [Z9];omega
 |_+3=>simp [Z9]
def zF:List c8:=[.d (num 0),.d (num 0),.d (num 0),.d (num 0),.d (.bool false)]
theorem YD:∀ n:Nat,((c9 n zF).flatten).length=n * 5
 |0=>rfl
 |n+1=>by
  have:=YD n;rw [List.replicate_succ,List.flatten_cons,k9,this];simp [zF];omega
def aI1 (o0 o1:A1)(acc rest:List C4):wr [o0,o1,.cells (S3 (acc++rest))] 2 (0+acc.length * 5) ((c9 rest.length zF).flatten)=some [o0,o1,.cells (S3 acc++(c9 rest.length zF).flatten)]:=by
 have l1:∀ l:List C4,(S3 l).length=l.length * 5:=fun l=>by rw [S3,B9,aS (sz:=5) (fun _=>rfl)]
 have e:S3 (acc++rest)=S3 acc++S3 rest:=by simp [S3]
 have hz:=YD rest.length;simp only [wr,List.getElem?_cons_succ,List.getElem?_cons_zero,splice,e,Nat.zero_add];rw [if_pos (by simp only [k9,l1,hz];omega),<- l1 acc,List.take_left,l6 (by simp only [k9,l1,hz];omega)];simp
def WE {acc xs:List C4}{q:Nat}(h1:acc.length<=q)(h2:q<xs.length):nth (acc++xs.drop acc.length) q=nth xs q:=by
 rw [F2 (by simp;omega),F2 h2,List.getElem_append_right h1,List.getElem_drop];have:acc.length+(q - acc.length)=q:=by omega
 simp [this]
set_option maxHeartbeats 16000000 in
def bb1 (o0 o1:A1)(h0:o0.O5<=3)(h1:o1.O5<=3)(st:Nat)(xs:List C4)(hn:xs.length<=1000000)(hp:0<xs.length) :
  ∃ zs,Pm A 166 [.B4 2 5 0 xs.length,.func 167 [] []] [o0,o1,.cells (S3 xs)] ⟨0,0,3,st⟩ (.B4 2 5 0 (cI xs xs.length).length) [o0,o1,.cells (S3 (cI xs xs.length)++zs)]:=by
 have key:Pq A 166 [.B4 2 5 0 xs.length,.func 167 [] []] [o0,o1,.cells (S3 xs)] ⟨0,0,3,st⟩ fun r H1=>∃ zs,r= .B4 2 5 0 (cI xs xs.length).length/\H1=[o0,o1,.cells (S3 (cI xs xs.length)++zs)]:=by
  have hob:∀ ys:List C4,Z9 (([o0,o1,.cells (S3 ys)].take 3).drop st)<=3:=fun ys=>SP h0 h1 ys st
  refine Pq.run (b:=3) [.B4 2 5 0 xs.length,.func 167 [] [],.any,.any,.any,.any] rfl rfl rfl rfl rfl ?_;refine gr ?_;refine tB (E4 xs.length 2) ?_ (fun h=> ?_) (fun h=> ?_)
  .repeat' (first|refine lnr ?_|refine gx ?_|refine fk (h1:=fun hw=> ?_) (h2:=fun hw=> ?_)|refine U1 (h1:=fun hw=> ?_) (h2:=fun hw=> ?_)|refine ⟨rfl,rfl,_,rfl,?_⟩|refine ⟨rfl,rfl⟩|fail)
   all_goals exact cc
  .have h3:=A6 h
   refine gr ?_;have e:cI xs xs.length=xs:=by
    match xs,hp,h3 with
    |[x],_,_=>simp [cI,nth]
    |_::_::_,_,h=>simp at h;omega
   exact ⟨_,_,rfl,[],by rw [e],by rw [e];simp [S3]⟩
  have h3:=A3 h;have i0:cI xs 1=xs.take 1:=by
   match xs,hp with
   |x::_,_=>simp [cI,nth]
  refine gr ?_;refine Ex.cV (fun k T H=>∃ i:Nat,T=[.B4 2 5 0 xs.length,.func 167 [] [],.any,.d (num i),.any,.any]/\H=[o0,o1,.cells (S3 xs)]/\i+k=xs.length/\0<i/\cI xs i=xs.take i) ?_ (k:=xs.length - 1) ⟨1,rfl,rfl,by omega,by omega,i0⟩;rintro k _ _ ⟨i,rfl,rfl,hk,hi,hc⟩;refine Ex.seq ?_;refine tB (E4 i xs.length) ?_ (fun h2=> ?_) (fun h2=> ?_)
  .repeat' (first|refine lnr ?_|refine gx ?_|refine fk (h1:=fun hw=> ?_) (h2:=fun hw=> ?_)|refine U1 (h1:=fun hw=> ?_) (h2:=fun hw=> ?_)|refine ⟨rfl,rfl,_,rfl,?_⟩|refine ⟨rfl,rfl⟩|fail)
   all_goals exact cc
  .have h4:=A6 h2
   have r1:rd [o0,o1,.cells (S3 xs)] 2 (0+i * 5) 5=some ((nth xs i).enc.map .d):=Oc (enc:=C4.enc) (fun _=>rfl) rfl (by omega);have r2:rd [o0,o1,.cells (S3 xs)] 2 (0+((i:Int) - 1).toNat * 5) 5=some ((nth xs (i - 1)).enc.map .d):=by
    rw [show ((i:Int) - 1).toNat=i - 1 by omega];exact Oc (enc:=C4.enc) (fun _=>rfl) rfl (by omega)
   refine gr ?_;have DG:i<xs.length:=by omega
   have hio:0<=(i:Int) - 1/\(i:Int) - 1<xs.length:=by omega
   refine tB (qd (nth xs i) (nth xs (i - 1))) ?_ (fun h5=> ?_) (fun h5=> ?_)
   .repeat' (first|refine lqV r1 rfl ?_|refine lqV r2 rfl ?_|refine aO5 (aq1 _ _) ?_|refine ixs DG ?_|refine ixo hio ?_|refine gx ?_|refine fk (h1:=fun hw=> ?_) (h2:=fun hw=> ?_)|refine U1 (h1:=fun hw=> ?_) (h2:=fun hw=> ?_)|refine ⟨rfl,rfl,_,rfl,?_⟩|refine ⟨rfl,rfl⟩|fail)
    exact rfl
   .repeat' (first|refine svr DG ?_|refine gx ?_|fail)
    have hli:(xs.take i).length=i:=by rw [List.length_take];omega
    have hc1:cI xs (i+1)=xs.take i:=by rw [cI,hc,h5];simp [hi]
    refine Ex.cV (fun k2 T H=>∃ (j:Nat) (acc:List C4),T=[.B4 2 5 0 xs.length,.func 167 [] [],.any,.d (num acc.length),.B4 2 5 (0+i * 5) (xs.length - i),.d (num j)]/\H=[o0,o1,.cells (S3 (acc++xs.drop acc.length))]/\i+j+k2=xs.length/\0<j/\acc.length+1<=i+j/\0<acc.length/\acc=cI xs (i+j)) ?_ (k:=xs.length - i - 1) ⟨1,xs.take i,by rw [hli];rfl,by rw [hli,List.take_append_drop],by omega,by omega,by omega,by omega,hc1.symm⟩;rintro k2 _ _ ⟨j,acc,rfl,rfl,hk2,hj,cb2,bv3,hacc⟩;refine Ex.seq ?_;have bS:acc.length<xs.length:=by omega
    have hdr:=D3 bS;refine tB (E4 j (xs.length - i:Nat)) ?_ (fun h6=> ?_) (fun h6=> ?_)
    .repeat' (first|refine lnr ?_|refine gx ?_|refine fk (h1:=fun hw=> ?_) (h2:=fun hw=> ?_)|refine U1 (h1:=fun hw=> ?_) (h2:=fun hw=> ?_)|refine ⟨rfl,rfl,_,rfl,?_⟩|refine ⟨rfl,rfl⟩|fail)
     all_goals exact cc
    .have h7:=A6 h6
     have hjl:j<xs.length - i:=by omega
     have hjo:0<=(j:Int) - 1/\(j:Int) - 1<((xs.length - i:Nat):Int):=by omega
     have hx:∀ q,acc.length<=q->q<xs.length->rd [o0,o1,.cells (S3 (acc++xs.drop acc.length))] 2 (0+q * 5) 5=some ((nth xs q).enc.map .d):=by
      intro q h1 h2;rw [<- WE h1 h2];exact Oc (enc:=C4.enc) (fun _=>rfl) rfl (by simp;omega)
     have r3:=hx (i+j) (by omega) (by omega);rw [show 0+(i+j) * 5=0+i * 5+j * 5 by omega] at r3;have r4:=hx (i+j - 1) (by omega) (by omega);rw [show 0+(i+j - 1) * 5=0+i * 5+((j:Int) - 1).toNat * 5 by omega] at r4;refine gr ?_;refine tB (!qd (nth xs (i+j)) (nth xs (i+j - 1))) ?_ (fun h8=> ?_) (fun h8=> ?_)
     .repeat' (first|refine lqV r3 rfl ?_|refine lqV r4 rfl ?_|refine aO5 (aq1 _ _) ?_|refine ixs hjl ?_|refine ixo hjo ?_|refine gx ?_|refine fk (h1:=fun hw=> ?_) (h2:=fun hw=> ?_)|refine U1 (h1:=fun hw=> ?_) (h2:=fun hw=> ?_)|refine ⟨rfl,rfl,_,rfl,?_⟩|refine ⟨rfl,rfl⟩|fail)
      exact rfl
     .have w1:wr [o0,o1,.cells (S3 (acc++xs.drop acc.length))] 2 (0+acc.length * 5) ((nth xs (i+j)).enc.map .d)=some [o0,o1,.cells (S3 (acc++nth xs (i+j)::xs.drop (acc.length+1)))]:=by
       rw [hdr];exact aI2 (enc:=C4.enc) (fun _=>rfl) rfl _
      have hb0:C5 ((nth xs (i+j)).enc.map .d)<=2+1:=by rw [Gn];omega
      repeat' (first|refine lqV r3 rfl ?_|refine ixs hjl ?_|refine ixs bS ?_|refine rF rfl ⟨rfl,rfl⟩ rfl rfl rfl hb0 w1 ?_|refine gx ?_|fail)
      have Tt:(acc++[nth xs (i+j)]).length=acc.length+1:=by simp
      exact ⟨k2 - 1,by omega,_,_,V8 (j5 rfl) (hob _),j+1,acc++[nth xs (i+j)],by rw [Tt];rfl,by rw [Tt,D2];rfl,by omega,by omega,by omega,by omega,by rw [<- M6,cI,<- hacc];simp at h8;rw [h8];simp⟩
     .refine gr ?_
      exact ⟨k2 - 1,by omega,_,_,V8 (j5 rfl) (hob _),j+1,acc,rfl,rfl,by omega,by omega,by omega,by omega,by rw [<- M6,cI,<- hacc];simp at h8;rw [h8];simp;omega⟩
    .have h7:=A3 h6
     have hij:i+j=xs.length:=by omega
     rw [hij] at hacc;rw [<- hacc];have w2:=aI1 o0 o1 acc (xs.drop acc.length);rw [List.length_drop] at w2
     repeat' (first|refine svr bS ?_|refine clS w2 ?_|refine svf (Nat.le_of_lt bS) bv3 ?_|refine gx ?_|fail)
     exact ⟨_,_,rfl,_,rfl,rfl⟩
   .refine gr ?_
    exact ⟨k - 1,by omega,_,_,V8 (j5 rfl) (hob _),i+1,rfl,rfl,by omega,by omega,by rw [cI,hc,h5,H9 DG];simp⟩
  .have h4:=A3 h2
   obtain rfl:i=xs.length:=by omega
   rw [hc,List.take_length];refine gr ?_;exact ⟨_,_,rfl,[],rfl,by simp⟩
 obtain ⟨r,H1,⟨zs,rfl,rfl⟩,h⟩:=key;exact ⟨zs,h⟩
theorem Bb:∀ l:List C4,pF (l.flatMap C4.enc)=some l
 |[]=>rfl
 |f::l=>by
  show pF ([num f.src.1,num f.src.2,num f.dst.1,num f.dst.2,.bool f.dat]++l.flatMap C4.enc)=_
  simp only [F8,E0,num,pF,Bb l]
def bb0 (o0 o1:A1)(fl:List C4)(hn:fl.length<=1000000)(l:H7)(hm:l.may 2=true):Pm A 163 [.B4 2 5 0 fl.length,.func 164 [] []] [o0,o1,.cells (S3 fl)] l (.tuple []) [o0,o1,.cells (S3 (aX fl))]:=by
 refine ⟨1,fun k hk=> ?_⟩;obtain ⟨k,rfl⟩:∃ j,k=j+1:=⟨k - 1,by omega⟩;have h1:A.fP 163=some (xe 164):=rfl;have l1:∀ q:List C4,(S3 q).length=q.length * 5:=fun l=>by rw [S3,B9,aS (sz:=5) (fun _=>rfl)]
 have e1:rd [o0,o1,.cells (S3 fl)] 2 0 (fl.length * 5)=some (S3 fl):=by
  simp only [rd,List.getElem?_cons_succ,List.getElem?_cons_zero,l1,Nat.zero_add,n5,if_true,List.drop_zero];rw [y6 (by rw [l1];exact n5 _)]
 have e2:O0 (S3 fl)=some (fl.flatMap C4.enc):=cL _;have e3:wr [o0,o1,.cells (S3 fl)] 2 0 (S3 (aX fl))=some [o0,o1,.cells (S3 (aX fl))]:=by
  simp only [wr,List.getElem?_cons_succ,List.getElem?_cons_zero,l1,rC,Nat.zero_add,n5,if_true,splice,List.take_zero,E0];rw [l6 (by rw [l1];exact n5 _),List.append_nil];rfl
 simp only [call,h1,xe,hm,hn,and_self,if_true,e1,e2,Bb];show (match wr [o0,o1,.cells (S3 fl)] 2 0 (S3 (aX fl)) with|some H1=>some (c8.tuple [],H1)|none=>none)=_
 rw [e3]
def aO2 {o0 o1:A1}(h0:o0.O5<=3)(h1:o1.O5<=3)(ys:List C4)(st:Nat):F6 [o0,o1,.cells (S3 ys)] st 8 3=3:=by
 have:=SP h0 h1 ys st;show F6 _ st (7+1) 3=3
 rw [F6];split
 .rfl
 .exact if_pos (Nat.max_eq_left this)
set_option maxHeartbeats 16000000 in
def ba2 (o0:A1)(h0:o0.O5<=3)(st:Nat)(fl:List C4)(hn:fl.length<=1000000)(hp:0<fl.length) :
  ∃ zs,Pm A 105 [.ptr 1 0] [o0,.cells [.B4 2 5 0 fl.length],.cells (S3 fl)] ⟨0,0,3,st⟩ (.B4 2 5 0 (cI (aX fl) fl.length).length) [o0,.cells [.B4 2 5 0 fl.length],.cells (S3 (cI (aX fl) fl.length)++zs)]:=by
 have h1:(A1.cells [.B4 2 5 0 fl.length]).O5<=3:=n5 _;have tQ:=rC fl;have key:Pq A 105 [.ptr 1 0] [o0,.cells [.B4 2 5 0 fl.length],.cells (S3 fl)] ⟨0,0,3,st⟩ fun r H1=>∃ zs,r= .B4 2 5 0 (cI (aX fl) fl.length).length/\H1=[o0,.cells [.B4 2 5 0 fl.length],.cells (S3 (cI (aX fl) fl.length)++zs)]:=by
  refine Pq.run (b:=3) [.ptr 1 0,.any] rfl rfl rfl rfl rfl ?_;have p1:=bb0 o0 (.cells [.B4 2 5 0 fl.length]) fl hn;obtain ⟨zs,p2⟩:=bb1 o0 (.cells [.B4 2 5 0 fl.length]) h0 h1 (F7 [o0,.cells [.B4 2 5 0 fl.length],.cells (S3 (aX fl))] st 3) (aX fl) (by omega) (by omega);rw [tQ] at p2
  repeat' (first|refine c0 (Bh:=SP h0 h1 _ _) (hcl:=aO2 h0 h1 _ _) (p1 _ rfl) rfl (h2:= ?_)|refine c0 (Bh:=SP h0 h1 _ _) (hcl:=aO2 h0 h1 _ _) p2 rfl (h2:= ?_)|refine gx ?_|fail)
  exact ⟨_,_,rfl,zs,rfl,rfl⟩
 obtain ⟨r,H1,⟨zs,rfl,rfl⟩,h⟩:=key;exact ⟨zs,h⟩
def lP (c:r9):Nat->List C4
 |0=>[]
 |i+1=>lP c i++(if s9 (nth c.j9 i).erase 1 then gO i (nth c.j9 i).q7.length (jW c i) else [])
def Lt (c:r9)(L R:Nat->List S8):Nat->List C4
 |0=>[]
 |i+1=>Lt c L R i++qu ((c.j9.length:Int)+(i:Int)) (nth c.views i) (L i) (R i)
structure am0 (c:r9)(i:Nat)(L R:List S8):Prop where
 ok:UN (nth c.views i) L R
 pl:Pf A 159 [cat c,.d (.str (nth c.views i).left)] (.d (O9 L))
 pr:O1 (nth c.views i).right []=false->Pf A 159 [cat c,.d (.str (nth c.views i).right)] (.d (O9 R))
 r0:O1 (nth c.views i).right []=true->R=[]
 len:∀ s,(qu s (nth c.views i) L R).length<=6000
def ab0 (a:A2.Data):(c8.d a).forget.O5=0:=by
 cases a with
 |slice n cs=>cases cs<;>rfl
 |_=>rfl
theorem Vt:∀ l:List A2.Data,C5 (R9 (l.map .d))=0
 |[]=>rfl
 |a::l=>by simp only [L8,R9,C5,Vt l,ab0];rfl
def GK (l:List A2.Data):(A1.cells (l.map .d)).forget.O5<=3:=by
 simp only [A1.forget,A1.O5,Vt];omega
def bu0 (l:List A2.Data):(A1.cells (l.map .d)).O5<=2:=by
 simp only [A1.O5,Gn];omega
def aO3 {o0:A1}{n:Nat}(h0:o0.O5<=3)(ys:List C4):F6 [o0,.cells [.B4 2 5 0 n],.cells (S3 ys)] 0 8 2=3:=by
 have h1:Z9 (([o0,.cells [.B4 2 5 0 n],.cells (S3 ys)].take 2).drop 0)=3:=by
  have:(A1.cells [.B4 2 5 0 n]).O5=3:=rfl;simp [Z9,this];omega
 have h2:=SP h0 (o1:= .cells [.B4 2 5 0 n]) (n5 _) ys 0;show F6 _ 0 (6+1+1) 2=3
 rw [F6,h1];show F6 _ 0 (6+1) 3=3
 rw [F6];exact if_pos (Nat.max_eq_left h2)
theorem VI (H:p9)(n:Nat):∀ (xs:List A2.Data) (f:Nat),xs.length<f->cr H n f (xs.map .d)=some (xs.map .d)
 |[],f+1,_=>rfl
 |x::xs,f+1,h=>by
  have ih:=VI H n xs f (by simp at h;omega);simp only [L8,cr,ih]
def Vy {a:q9}{s p:Nat}{T:List c8}{H:p9}{ds:List C4}{zs:List c8}(hT:T[s]? =some (.B4 p 5 0 ds.length))(hH:H[p]? =some (.cells (S3 ds++zs)))(hl:ds.length<=100000)(ha:a.results=[.slot s]:=by rfl)(hp:a.aK=false:=by rfl):jL a 0 (some (.ret,⟨T,H⟩))=some (.d (B0 C4.enc ds),[]):=by
 have l1:(ds.flatMap C4.enc).length=ds.length * 5:=aS (sz:=5) (fun _=>rfl) ds;have l2:(S3 ds).length=ds.length * 5:=by rw [S3,B9,l1]
 have h1:rd H p 0 (ds.length * 5)=some (S3 ds):=by
  simp only [rd,hH,k9,l2,Nat.zero_add];rw [if_pos (by omega),List.drop_zero,<- l2,List.take_left]
 have h2:=VI H 0 (ds.flatMap C4.enc) 999999 (by omega);unfold jL;simp only [ha,hp,cR,lH,hT];rw [S3] at h1;simp only [finish,j4,if_false,j3,cr,Nat.not_lt_zero,h1,h2,cL];simp [c8.O5,B0]
theorem Ja (xs:List C4):∀ k,(cI xs k).length<=k
 |0=>n5 _
 |k+1=>by
  have:=Ja xs k;simp only [cI,k9];split<;>simp<;>omega
def aE3 (l:H7):Pm A 166 [.d (.slice 0 []),.func 167 [] []] [] l (.d (.slice 0 [])) []:=by
 have key:Pq A 166 [.d (.slice 0 []),.func 167 [] []] [] l fun r H1=>r= .d (.slice 0 [])/\H1=[]:=by
  refine Pq.run (b:=0) [.d (.slice 0 []),.func 167 [] [],.any,.any,.any,.any] rfl rfl rfl rfl rfl ?_;refine gr ?_;refine tb (E4 0 2) (fun h=> ?_) (fun h=> ?_)
  .refine gr ?_
   exact ⟨_,_,rfl,rfl,rfl⟩
  .cases A3 h
 obtain ⟨r,H1,⟨rfl,rfl⟩,h⟩:=key;exact h
def aE2 (l:H7):Pm A 163 [.d (.slice 0 []),.func 164 [] []] [] l (.tuple []) []:=Pm.fP rfl rfl
def aE1 (o0:A1)(h0:o0.O5<=2)(st:Nat):Pm A 105 [.ptr 1 0] [o0,.cells [.own 5 0 []]] ⟨0,0,2,st⟩ (.d (.slice 0 [])) [o0,.cells [.own 5 0 []]]:=by
 have key:Pq A 105 [.ptr 1 0] [o0,.cells [.own 5 0 []]] ⟨0,0,2,st⟩ fun r H1=>r= .d (.slice 0 [])/\H1=[o0,.cells [.own 5 0 []]]:=by
  refine Pq.run (b:=2) [.ptr 1 0,.any] rfl rfl rfl rfl rfl ?_
  repeat' (first|refine c0 (Bh:=by simp [Z9]) (hcl:=by simp [F6,C5,c8.O5]) (aE2 _) rfl (h2:= ?_)|refine c0 (Bh:=by simp [Z9]) (hcl:=by simp [F6,C5,c8.O5]) (aE3 _) rfl (h2:= ?_)|refine gx ?_|fail)
  exact ⟨_,_,rfl,rfl,rfl⟩
 obtain ⟨r,H1,⟨rfl,rfl⟩,h⟩:=key;exact h
set_option maxHeartbeats 16000000 in
def bA5 (c:r9)(hs:J7 c)(hv:L6 c=true)(h8:c.j9.length<=8)(hc8:∀ i,i<c.j9.length->(nth c.j9 i).q7.length<=8)(h9:c.views.length<=12)(L R:Nat->List S8)(hsr:∀ i,i<c.views.length->am0 c i (L i) (R i)):Pf A 47 [cat c] (.d (B0 C4.enc (cI (aX (lP c c.j9.length++Lt c L R c.views.length)) (lP c c.j9.length++Lt c L R c.views.length).length))):=by
 refine Pf.run [cat c,.any,.any,.any,.any,.any,.any,.any,.any,.any,.any,.any,.any,.any] rfl rfl rfl rfl ?_;refine gr ?_;refine Ex.cV (fun k T H=>∃ (i:Nat) (fl:List C4),T=[.any,.ptr 0 0,.any,.ptr 1 0,.any,.any,.any,.any,.d (B0 jj.enc c.j9),.d (num c.j9.length),.d (num i),.any,.any,.any]/\H=HC c fl/\i+k=c.j9.length/\fl=lP c i/\fl.length<=i * 64) ?_ (k:=c.j9.length) ⟨0,[],rfl,rfl,by simp,rfl,by simp⟩;rintro k _ _ ⟨i,fl,rfl,rfl,hk,hfl,hfn⟩;unfold HC;refine Ex.seq ?_;refine tb (E4 i c.j9.length) (fun h2=> ?_) (fun h2=> ?_)
 .have h3:=A6 h2
  have e1:E4 (i:Int) 0=false:=by simp [u0]
  have e2:bV (c.j9.length:Int) i=false:=by simp [s6];omega
  have hit:rU c i=true:=by rw [wT,e1,e2,hv];rfl
  have hcl:=hc8 i (by omega);have Bj:(jW c i).length<=8:=by have:=mQ (nth c.j9 (i:Int).toNat).q7 (nth c.j9 (i:Int).toNat).q7.length;simp at this;unfold jW;simp;omega
  have p1:=aY7 c hs i hit;have p2:=ba0 c fl i (nth c.j9 i).q7.length (jW c i) (by omega) (by omega) (by omega);unfold HC at p2;refine gr ?_;refine tb (s9 (nth c.j9 i).erase 1) (fun h4=> ?_) (fun h4=> ?_)
  .repeat' (first|refine cl (p1) ?_|refine c0 p2 rfl (h2:= ?_)|refine gx ?_|fail)
   have htl:=qo i (nth c.j9 i).q7.length (jW c i);have h64:(jW c i).length * (nth c.j9 i).q7.length<=8 * 8:=Nat.mul_le_mul Bj hcl;exact ⟨k - 1,by omega,_,_,V8 (j5 rfl) (j5 rfl),i+1,fl++gO i (nth c.j9 i).q7.length (jW c i),rfl,rfl,by omega,by rw [hfl,lP,h4];simp,by rw [k9];omega⟩
  .refine gr ?_
   exact ⟨k - 1,by omega,_,_,V8 (j5 rfl) (j5 rfl),i+1,fl,rfl,rfl,by omega,by rw [hfl,lP,h4];simp,by omega⟩
 have h3:=A3 h2;obtain rfl:i=c.j9.length:=by omega
 refine gr ?_;refine Ex.cV (fun k T H=>∃ (i:Nat) (fs:List C4),T=[.any,.ptr 0 0,.any,.ptr 1 0,.any,.any,.any,.any,.any,.any,.any,.d (B0 Vw.enc c.views),.d (num c.views.length),.d (num i)]/\H=[.cells (c.enc.map .d),.cells [E7 5 C4.enc fs]]/\i+k=c.views.length/\fs=fl++Lt c L R i/\fs.length<=512+i * 6000) ?_ (k:=c.views.length) ⟨0,fl,rfl,rfl,by simp,by simp [Lt],by omega⟩;rintro k _ _ ⟨i,fs,rfl,rfl,hk,GO,cd1⟩;refine Ex.seq ?_;refine tb (E4 i c.views.length) (fun h4=> ?_) (fun h4=> ?_)
 .have h5:=A6 h4
  obtain ⟨ok,pl,pr,r0,len⟩:=hsr i (by omega);have hlen:=len ((c.j9.length:Int)+(i:Int));have p1:=ba1 c fs (nth c.views i) ((c.j9.length:Int)+(i:Int)) (L i) (R i) ok (by omega) pl pr r0;unfold HC at p1
  repeat' (first|refine c0 p1 rfl (h2:= ?_)|refine gx ?_|fail)
  exact ⟨k - 1,by omega,_,_,V8 (j5 rfl) (j5 rfl),i+1,_,rfl,rfl,by omega,by rw [GO,Lt,D2],by rw [k9];omega⟩
 have h5:=A3 h4;obtain rfl:i=c.views.length:=by omega
 rw [hfl] at GO;rw [<- GO]
 rcases Nat.eq_zero_or_pos fs.length with hz|hz
 .obtain rfl:=List.length_eq_zero_iff.1 hz
  refine gr ?_;refine Ex.fz (VK (p:=1) (z:=5) (xs:=[]) rfl rfl) ?_;have p5:=aE1 (A1.cells (c.enc.map .d)) (bu0 _)
  repeat' (first|refine c0 (p5 _) rfl (h2:= ?_)|refine gx ?_|fail)
  exact ⟨_,rfl,rfl⟩
 refine gr ?_;refine Ex.fz (ab6 (p:=1) (z:=5) (n:=fs.length) (xs:=fs.flatMap C4.enc) rfl rfl (by omega) rfl rfl (AZ (fun _=>rfl) _)) ?_;obtain ⟨zs,p5⟩:=ba2 (A1.cells (c.enc.map .d)).forget (GK _) (F7 [(A1.cells (c.enc.map .d)).forget,.cells [.B4 2 5 0 fs.length],.cells (S3 fs)] 0 3) fs (by omega) hz;have hcl:F6 [(A1.cells (c.enc.map .d)).forget,.cells [.B4 2 5 0 fs.length],.cells (S3 fs)] 0 8 2=3:=by
  have h:=aO3 (o0:=(A1.cells (c.enc.map .d)).forget) (n:=fs.length) (GK _) fs;exact h
 have Bh:=SP (o0:=(A1.cells (c.enc.map .d)).forget) (o1:= .cells [.B4 2 5 0 fs.length]) (GK _) (n5 _) fs 0;show Ex A an 0 _ ⟨[.any,.ptr 0 0,.any,.ptr 1 0,.any,.any,.any,.any,.any,.any,.any,_,_,_],[(A1.cells (c.enc.map .d)).forget,.cells [.B4 2 5 0 fs.length],.cells (S3 fs)]⟩ _
 repeat' (first|refine c0 (Bh:=Bh) (hcl:=hcl) p5 rfl (h2:= ?_)|refine gx ?_|fail)
 exact ⟨_,Vy rfl rfl (by have:=Ja (aX fs) fs.length;omega),rfl⟩
end Go.Proofs.YtibjocmpkoepoaaGreat


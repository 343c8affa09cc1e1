import Derived.Test.YtibjocmpkoepoaaGreatUX0
set_option linter.all false
open Bool renaming false_eq_true → j3
open List renaming append_assoc → E8, cons_append → A5, drop_of_length_le → l5, length_append → o8, length_cons → p7, length_map → B0, length_nil → A3, map_cons → F4, mem_append → M4, mem_map → F5, mem_singleton → q6, nil_append → D8, replicate → c9, set_cons_succ → q7, set_cons_zero → q8, take_of_length_le → B5
open Nat renaming le_of_ble_eq_true → j5, le_refl → o5, zero_le → I7
namespace Go.Proofs.YtibjocmpkoepoaaGreat
open Go.x9 Go.x9.S
attribute [local irreducible] Rx Ry Rn Ex Pf
def W4 (p:G8):List x9.Data:=[num p.1,num p.2]
def W5 (l:List G8):x9.Data:=z8 W4 l
def Se (s:Int):Nat->List G8
 |0=>[]
 |n+1=>Se s n++[(s,(n:Int))]
theorem tw (s:Int):∀ n,(Se s n).length=n
 |0=>rfl
 |n+1=>by simp [Se,tw s n]
def ae2 (c:y5)(hs:O4 c)(name:L3)(h:aS c (aR c name)=true)(hl:(P4 c (aR c name).toNat).length<=2000):Pf A 159 [cat c,.d (.str name)] (.d (W5 (Se (aR c name) (P4 c (aR c name).toNat).length))):=by
 have p1:=bl8 c hs name;have p2:=ae3 c hs _ h;obtain ⟨s,hs0⟩:∃ s,aR c name=s:=⟨_,rfl⟩;rw [hs0] at p1 p2 hl ⊢;obtain ⟨ty,yh⟩:∃ ty,P4 c s.toNat=ty:=⟨_,rfl⟩;rw [yh] at p2 hl ⊢;refine Pf.run [cat c,.d (.str name),.any,.any,.any,.any,.any,.any,.any] rfl rfl rfl rfl ?_
 repeat' (first|refine cl (p1) ?_|refine cl (p2) ?_|refine gx ?_|fail)
 refine Ex.M5 (fun k T H=>∃ (i:Nat) (acc:List G8) (w0 w1 w2 w3 w6:c8),T=[w0,w1,w2,w3,.d (num s),C4 2 W4 acc,w6,.d (num ty.length),.d (num i)]/\H=[.cells (c.enc.map .d)]/\i+k=ty.length/\acc=Se s i) (by rintro _ _ _ ⟨_,_,_,_,_,_,_,rfl,rfl,_⟩;rfl) ?_ (k:=ty.length) ⟨0,[],_,_,_,_,_,rfl,rfl,by simp,rfl⟩;rintro k _ _ ⟨i,acc,w0,w1,w2,w3,w6,rfl,rfl,hk,hacc⟩;have zW:acc.length<=10000:=by rw [hacc,tw];omega
 refine Ex.nT ?_;refine Ex.seq ?_;refine tb (F0 i ty.length) (fun h2=> ?_) (fun h2=> ?_)
 .have h3:=A9 h2
  repeat' (first|refine rV (cs:=(W4 (s,(i:Int))).map .d) ?_|refine oN (enc:=W4) (s,(i:Int)) ?_|refine ZY (ys:=[(s,(i:Int))]) (h2:= ?_)|refine gx ?_|fail)
  exact ⟨k - 1,by omega,i+1,acc++[(s,(i:Int))],_,_,_,_,_,rfl,rfl,by omega,by rw [hacc];rfl⟩
 .have h3:=B8 h2
  have h4:i=ty.length:=by omega
  subst h4;refine gr ?_;exact ⟨_,rfl,by rw [hacc];simp [j7,W5,z8]⟩
def jw (e:List Y6):Nat->List Int
 |0=>[]
 |i+1=>jw e i++(if s8 (nth e i).op 2 then [(nth e i).col] else [])
theorem uL (e:List Y6):∀ i,(jw e i).length<=i
 |0=>o5 _
 |i+1=>by
  have:=uL e i;simp only [jw,o8];split<;>simp<;>omega
def XL {e:List Y6}{i:Nat}(h:s8 (nth e i).op 2=true):jw e (i+1)=jw e i++[(nth e i).col]:=by simp only [jw,h,if_true]
def XK {e:List Y6}{i:Nat}(h:s8 (nth e i).op 2=false):jw e (i+1)=jw e i:=by simp [jw,h]
theorem Dp {e:List Y6}{x:Int}:∀ i,i<=e.length->x ∈ jw e i->∃ t ∈ e,s8 t.op 2=true/\t.col=x
 |0,_,h=>by cases h
 |i+1,hi,h=>by
  simp only [jw,M4] at h
  rcases h with h|h
  .exact Dp i (by omega) h
  .split at h
   .rename_i h1
    simp only [q6] at h;exact ⟨_,O7 (by omega),h1,h.symm⟩
   .cases h
def jv (e:List Y6):List Int:=aP (bZ (jw e e.length))
def Rb {e:List Y6}{x:Int}(h:x ∈ jv e):∃ t ∈ e,s8 t.op 2=true/\t.col=x:=by
 rw [jv,Ip,Dq] at h;exact Dp _ (o5 _) h
def CL (e:List Y6):(jv e).length<=e.length:=by
 have h1:=sK (bZ (jw e e.length));have h2:=uL e e.length;rw [qc] at h1;unfold jv;omega
def HI (xs:List Int):o9:=[.cells (xs.map iv)]
def lI:F2:=⟨0,0,1,1⟩
def Sm (xs:List Int):L8 (HI xs)=0:=by
 simp only [HI,L8,u0.K5,Lw];rfl
def Xz (xs:List Int):T6 (HI xs) 0=true:=by
 simp only [HI,T6,u0.K5,Lw];rfl
section
variable {b:Nat} {j9 ops:List p6} {T:List c8} {n:Nat} {rl:List c8} {o7:List x9.Touch} {Q:List c8->o9->List c8->Prop}
def c0I {xs ys:List Int}{f:FuncId}{os:List y6}{u:List Nat}{v:c8}{args:List c8}(hc:Pm A f args (HI xs) lI v (HI ys))(h2:Ry A S8 b false j9 ops T (HI ys) (n+1) (v::rl) (.below 1::o7) Q)
  (ha:os.map (rq T n rl)=args:=by rfl) (hb:A4 args=1:=by rfl) (gj:A.prom f=false:=by rfl) (hm:A.mode f=0:=by rfl):Ry A S8 b false j9 (⟨.call f os,none,none,u⟩::ops) T (HI xs) n rl o7 Q:=by
 refine c0 hc rfl (m:=1) ?_ ?_ rfl rfl ?_ (fun h=>by cases h) ha gj hm rfl (HD:=[]) (H2:=HI ys) rfl h2
 .show L8 (HI xs)<=1
  rw [Sm];omega
 .rw [hb]
  exact bS (by show L8 (HI xs)<=1;rw [Sm];omega)
 .show F2.mk 0 0 1 (C9 _ 0 1)=lI
  have:C9 (HI xs) 0 1=1:=by
   unfold C9;rw [if_neg (by decide),if_pos (by show T6 (HI xs) 0=true;exact Xz xs)]
  rw [this];rfl
end
def bn7 (xs:List Int)(h:xs.length<=1000000):Pm A 263 [.A8 0 1 0 xs.length] (HI xs) lI (.tuple []) (HI (bZ xs)):=Pm.cw rfl (UF rfl rfl rfl (Nat.ble_eq_true_of_le h))
def bn5 (xs:List Int)(h:xs.length<=1000000):Pm A 134 [.A8 0 1 0 xs.length] (HI xs) lI (.A8 0 1 0 (aP xs).length) (HI (aP xs++c9 (xs.length - (aP xs).length) 0)):=Pm.cw rfl (IP rfl rfl rfl (Nat.ble_eq_true_of_le h))
def bn6 (l:F2):Pm A 263 [.d (.slice 0 [])] [] l (.tuple []) []:=Pm.cw rfl rfl
def bn4 (l:F2):Pm A 134 [.d (.slice 0 [])] [] l (.d (.slice 0 [])) []:=Pm.cw rfl rfl
def ai8 {T:List c8}{H:o9}{ds zs:List Int}(hT:T[1]? =some (.A8 0 1 0 ds.length))(hH:H[0]? =some (.cells ((ds++zs).map iv)))(hl:ds.length<=900):iK ah5 0 (some (.ret,⟨T,H⟩))=some (.d (ints ds),[]):=by
 have h1:rd H 0 0 (ds.length * 1)=some (ds.map iv):=by
  simp only [rd,hH];rw [if_pos (by simp)];simp
 have h2:=Ts H 0 ds 999999 (by omega);have h3:=LS ds;have h4:aN T H ah5.results=some [.A8 0 1 0 ds.length]:=by
  show aN T H [.slot 1]=_
  simp only [aN,jT,hT]
 unfold iK;simp only [h4];show finish false 0 [.A8 0 1 0 ds.length] H=_
 simp only [finish,j3,if_false,j7,bF,Nat.not_lt_zero,h1,h2,SQ];simp [c8.K5,ints,z8,h3]
def UM (e:List Y6)(he:e.length<=800)(hv:Z6 e=false):Pf A 225 [aW e] (.own 1 0 []):=by
 have p1:=UK e (by omega);rw [hv] at p1;refine Pf.run [aW e,.any,.any,.any,.any,.any,.any] rfl rfl rfl rfl ?_;refine gr ?_;refine tB (true) ?_ (fun h1=> ?_) (fun h1=> ?_)
 .repeat' (first|refine cl (p1) ?_|refine gx ?_|refine fk (h1:=fun hw=> ?_) (h2:=fun hw=> ?_)|refine R8 (h1:=fun hw=> ?_) (h2:=fun hw=> ?_)|refine ⟨rfl,rfl,_,rfl,?_⟩|refine ⟨rfl,rfl⟩|fail)
  all_goals exact cc
 .refine gr ?_
  exact ⟨_,rfl,rfl⟩
 .cases h1
set_option maxHeartbeats 8000000 in
def ae8 (e:List Y6)(he:e.length<=800)(hv:Z6 e=true):Pf A 225 [aW e] (.d (ints (jv e))):=by
 have p1:=UK e (by omega);rw [hv] at p1;refine Pf.run [aW e,.any,.any,.any,.any,.any,.any] rfl rfl rfl rfl ?_;refine gr ?_;refine tB (false) ?_ (fun h1=> ?_) (fun h1=> ?_)
 .repeat' (first|refine cl (p1) ?_|refine gx ?_|refine fk (h1:=fun hw=> ?_) (h2:=fun hw=> ?_)|refine R8 (h1:=fun hw=> ?_) (h2:=fun hw=> ?_)|refine ⟨rfl,rfl,_,rfl,?_⟩|refine ⟨rfl,rfl⟩|fail)
  all_goals exact cc
 .cases h1
 refine gr ?_;refine Ex.T7 (fun k T H=>∃ (i:Nat) (acc:List Int),T=[.any,.any,C4 1 (fun n=>[num n]) acc,.any,aW e,.d (num e.length),.d (num i)]/\H=[]/\i+k=e.length/\acc=jw e i) ?_ (k:=e.length) ⟨0,[],rfl,rfl,by simp,rfl⟩;rintro k _ _ ⟨i,acc,rfl,rfl,hk,hacc⟩;have zW:=uL e i;rw [<- hacc] at zW;refine Ex.seq ?_;refine tb (F0 i e.length) (fun h2=> ?_) (fun h2=> ?_)
 .have h3:=A9 h2
  refine gr ?_;refine tb (s8 (nth e i).op 2) (fun h4=> ?_) (fun h4=> ?_)
  .refine gr ?_
   refine ⟨k - 1,by omega,_,_,L5 (j5 rfl) (I7 _),i+1,acc++[(nth e i).col],rfl,rfl,by omega,by rw [hacc,XL h4]⟩
  .refine gr ?_
   refine ⟨k - 1,by omega,_,_,L5 (j5 rfl) (I7 _),i+1,acc,rfl,rfl,by omega,by rw [hacc,XK h4]⟩
 .have h3:=B8 h2
  obtain rfl:i=e.length:=by omega
  cases acc with
  |nil =>
   refine gr ?_;refine Ex.fz (Tu rfl) ?_
   repeat' (first|refine c0 (bn6 _) rfl (h2:= ?_)|refine c0 (bn4 _) rfl (h2:= ?_)|refine gx ?_|fail)
   refine ⟨_,rfl,?_⟩;simp [jv,<- hacc,bZ,aP,ints,z8,j7]
  |cons a r =>
   refine gr ?_;refine Ex.fz (XZ rfl (by simp) rfl rfl (HE (fun _=>rfl) _)) ?_;have e1:((a::r).flatMap fun n=>[num n]).map c8.d=(a::r).map iv:=by rw [LS,List.map_map];rfl
   have wM:=qc (a::r);have hlen:(a::r).length<=1000000:=by omega
   have pS:=bn7 (a::r) hlen;have pC:=bn5 (bZ (a::r)) (by rw [wM];exact hlen);rw [wM] at pC;have hdl:=sK (bZ (a::r));simp only [R4,q7,q8,List.map_nil,D8,A3,e1];generalize (aW e).forget=w;have eI:[u0.cells ((a::r).map iv)]=HI (a::r):=rfl;rw [eI]
   repeat' (first|refine c0I pS ?_|refine c0I pC ?_|refine gx ?_|fail)
   refine ⟨_,ai8 rfl rfl (by omega),?_⟩;simp only [jv,<- hacc]
def aJ8 (n:Nat)(h0:0<n)(h:n<=1000000)(l:F2):Pm A 226 [.N7,.d (num n)] [] l (.own 2 0 []) []:=by
 refine ⟨1,fun k hk=> ?_⟩;obtain ⟨k,rfl⟩:∃ j,k=j+1:=⟨k - 1,by omega⟩;have h1:A.cw 226=some (vq 2):=rfl;simp only [call,h1,vq,num];rw [if_pos (by omega)]
def jx (l:List G8):List x9.Data:=[W5 l]
set_option maxHeartbeats 4000000 in
def ae4 (xss:List (List G8))(h0:xss.length<=100)(h1:∀ i,i<xss.length->(nth xss i).length<=10000)(hp:0<xss.flatten.length):Pf A 162 [.d (z8 jx xss)] (C4 2 W4 xss.flatten):=by
 refine Pf.run [.d (z8 jx xss),.any,.any,.any,.any,.any,.any,.any,.any,.any,.any,.any] rfl rfl rfl rfl ?_;refine gr ?_;refine Ex.M5 (fun k T H=>∃ (i m:Nat) (w1 w3 w4 w5 w9 mR kW:c8),T=[.d (z8 jx xss),w1,.d (num m),w3,w4,w5,.d (z8 jx xss),.d (num xss.length),.d (num i),w9,mR,kW]/\H=[]/\i+k=xss.length/\m<=i * 10000/\xss.flatten.length=m+(xss.drop i).flatten.length) (by rintro _ _ _ ⟨_,_,_,_,_,_,_,_,_,_,rfl,_⟩;rfl) ?_ (k:=xss.length) ⟨0,0,_,_,_,_,_,_,_,rfl,rfl,by simp,by simp,by simp⟩;rintro k _ _ ⟨i,m,w1,w3,w4,w5,w9,mR,kW,rfl,rfl,hk,hm,hfl⟩;refine Ex.nT ?_;refine Ex.seq ?_;refine tb (F0 i xss.length) (fun h2=> ?_) (fun h2=> ?_)
 .have h3:=A9 h2
  have h4:=h1 i (by omega);have h5:m<=1000000:=by omega
  rw [B9 (by omega)] at hfl;refine gr ?_;refine tb (false) (fun h6=> ?_) (fun h6=> ?_)
  .cases h6
  refine gr ?_;exact ⟨k - 1,by omega,i+1,m+(nth xss i).length,_,_,_,_,_,_,_,rfl,rfl,by omega,by omega,by simp at hfl ⊢;omega⟩
 have h3:=B8 h2;have h5:m<=1000000:=by omega
 rw [l5 (by omega)] at hfl;have p1:=aJ8 m (by simp only [List.flatten_nil,A3] at hfl;omega) h5;clear h2 hm hfl
 repeat' (first|refine c1 (p1 _) rfl ?_|refine gx ?_|fail)
 refine Ex.M5 (fun k T H=>∃ (i:Nat) (acc:List G8) (w0 w1 w2 w3 w5 w6 w7 w8:c8),T=[w0,w1,w2,w3,C4 2 W4 acc,w5,w6,w7,w8,.d (z8 jx xss),.d (num xss.length),.d (num i)]/\H=[]/\i+k=xss.length/\acc.length<=i * 10000/\xss.flatten=acc++(xss.drop i).flatten) (by rintro _ _ _ ⟨_,_,_,_,_,_,_,_,_,_,_,rfl,_⟩;rfl) ?_ (k:=xss.length) ⟨0,[],_,_,_,_,_,_,_,_,rfl,rfl,by simp,by simp,by simp⟩;rintro k _ _ ⟨i,acc,w0,w1,w2,w3,w5,w6,w7,w8,rfl,rfl,hk,hl,hacc⟩;refine Ex.nT ?_;refine Ex.seq ?_;refine tb (F0 i xss.length) (fun h2=> ?_) (fun h2=> ?_)
 .have h6:=A9 h2
  have h7:=h1 i (by omega);rw [B9 (by omega)] at hacc;have h8:acc.length<=1000000:=by omega
  refine gr ?_;exact ⟨k - 1,by omega,i+1,acc++nth xss i,_,_,_,_,_,_,_,_,rfl,rfl,by omega,by simp;omega,by rw [hacc];simp⟩
 .have h6:=B8 h2
  rw [l5 (by omega)] at hacc
  repeat' (first|refine owS ?_|refine gx ?_|fail)
  exact ⟨_,rfl,by rw [hacc];simp [j7,C4]⟩
def rI (e:List Y6)(ps:List G8):List G8:=(jv e).map fun x=>nth ps x.toNat
def nW (e:List Y6)(ps:List G8):(rI e ps).length<=e.length:=by
 have:=CL e;simp [rI];omega
def CM:jv []=[]:=rfl
set_option maxHeartbeats 8000000 in
def UJ (e:List Y6)(l r:List G8)(he:e.length<=800)(hv:Z6 e=true\/e=[])(hl:l.length<=1000)(hr:r.length<=1000)(h0:0<l.length)(hc:∀ x,x ∈ jv e->0<=x/\x<(l++r).length) :
  Pf A 161 [aW e,.d (W5 l),.d (W5 r)] (.d (W5 (rI e (l++r)))):=by
 have p1:∃ w,Pf A 225 [aW e] w/\(w= .d (ints (jv e))\/∃ z,w= .own z 0 []/\ints (jv e)= .slice 0 []):=by
  rcases hv with hv|rfl
  .exact ⟨_,ae8 e he hv,.inl rfl⟩
  .exact ⟨_,UM [] (by simp) (by simp [Z6,s9]),.inr ⟨1,rfl,by rw [CM];rfl⟩⟩
 obtain ⟨w,p1,hw⟩:=p1;have p2:=ae4 [l,r] (by simp) (fun i hi=>by
  match i,hi with
  |0,_=>rw [I9 (by simp)];show l.length<=10000;omega
  |1,_=>rw [I9 (by simp)];show r.length<=10000;omega) (by simp;omega)
 have e2:[l,r].flatten=l++r:=by simp
 rw [e2] at p2;have hcl:=CL e;obtain ⟨ps,hps⟩:∃ ps,l++r=ps:=⟨_,rfl⟩;have HY:ps.length<=2000:=by rw [<- hps];simp;omega
 rw [hps] at p2 hc ⊢;unfold rI;obtain ⟨cs,hcs⟩:∃ cs,jv e=cs:=⟨_,rfl⟩;rw [hcs] at hw hcl hc ⊢;have hnl:cs.length<=1000:=by omega
 have run:∀ w:c8,(w= .d (ints cs)\/(w= .own 1 0 []/\cs=[]))->Pf A 225 [aW e] w->Pf A 161 [aW e,.d (W5 l),.d (W5 r)] (.d (W5 (cs.map fun x=>nth ps x.toNat))):=by
  rintro w (rfl|⟨rfl,rfl⟩) p1
  all_goals refine Pf.run [aW e,.d (W5 l),.d (W5 r),.any,.any,.any,.any,.any,.any,.any] rfl rfl rfl rfl ?_
  .repeat' (first|refine cl (p2) ?_|refine clT p1 (h2:= ?_)|refine gx ?_|fail)
   refine Ex.M5 (fun k T H=>∃ (i:Nat) (acc:List G8) (w0 w1 w2 w3 w6:c8),T=[w0,w1,w2,w3,C4 2 W4 ps,C4 2 W4 acc,w6,.d (ints cs),.d (num cs.length),.d (num i)]/\H=[]/\i+k=cs.length/\acc=(cs.take i).map fun x=>nth ps x.toNat) (by rintro _ _ _ ⟨_,_,_,_,_,_,_,rfl,rfl,_⟩;rfl) ?_ (k:=cs.length) ⟨0,[],_,_,_,_,_,rfl,rfl,by simp,by simp⟩;rintro k _ _ ⟨i,acc,w0,w1,w2,w3,w6,rfl,rfl,hk,hacc⟩;have zW:acc.length<=10000:=by rw [hacc];simp;omega
   refine Ex.nT ?_;refine Ex.seq ?_;refine tb (F0 i cs.length) (fun h2=> ?_) (fun h2=> ?_)
   .have h3:=A9 h2
    have h4:=hc _ (O7 (l:=cs) (i:=i) (by omega))
    repeat' (first|refine oN (enc:=W4) (nth ps (nth cs i).toNat) ?_|refine ZY (ys:=[nth ps (nth cs i).toNat]) (h2:= ?_)|refine gx ?_|fail)
    exact ⟨k - 1,by omega,i+1,acc++[nth ps (nth cs i).toNat],_,_,_,_,_,rfl,rfl,by omega,by rw [hacc,J3 (by omega)];simp⟩
   .have h3:=B8 h2
    obtain rfl:i=cs.length:=by omega
    refine gr ?_;exact ⟨_,rfl,by rw [hacc];simp [j7,W5,z8]⟩
  .repeat' (first|refine cl (p2) ?_|refine ba2 p1 (h2:= ?_)|refine bk0 (h2:= ?_)|refine gx ?_|fail)
   refine Ex.M5 (fun k T H=>∃ (w0 w1 w2 w3 w4 w6 w7:c8),T=[w0,w1,w2,w3,w4,.own 2 0 [],w6,w7,.d (num 0),.d (num 0)]/\H=[]/\k=0) (by rintro _ _ _ ⟨_,_,_,_,_,_,_,rfl,rfl,_⟩;rfl) ?_ (k:=0) ⟨_,_,_,_,_,_,_,rfl,rfl,rfl⟩;rintro k _ _ ⟨w0,w1,w2,w3,w4,w6,w7,rfl,rfl,hk⟩;refine Ex.nT ?_;refine Ex.seq ?_;refine tb (F0 0 0) (fun h2=> ?_) (fun h2=> ?_)
   .have h3:=A9 h2
    omega
   .refine gr ?_
    exact ⟨_,rfl,by simp [j7,W5,z8]⟩
 rcases hw with rfl|⟨z,rfl,h⟩
 .exact run _ (.inl rfl) p1
 .have hz:cs=[]:=by
   cases cs with
   |nil=>rfl
   |cons a q=>simp [ints,z8] at h
  rcases hv with hv|rfl
  .exact run _ (.inl rfl) (by have:=ae8 e he hv;rw [hcs] at this;exact this)
  .exact run _ (.inr ⟨rfl,hz⟩) (UM [] (by simp) (by simp [Z6,s9]))
def HC (c:y5)(fl:List C5):o9:=[.cells (c.enc.map .d),.cells [C4 5 C5.enc fl]]
def lCo:F2:=⟨0,0,2,2⟩
def yx (p:G8):c8:= .agg [.d (num p.1),.d (num p.2)]
def yf (ps:List G8)(to:G8)(d:Bool):List C5:=ps.map fun p=>⟨p,to,d⟩
set_option maxHeartbeats 8000000 in
def Ja (c:y5)(fl:List C5)(ps:List G8)(to:G8)(d:Bool)(h:fl.length+ps.length<=1000000):Pm A 157 [.ptr 1 0,.d (W5 ps),yx to,.d (.bool d)] (HC c fl) lCo (.tuple []) (HC c (fl++yf ps to d)):=by
 have key:Pq A 157 [.ptr 1 0,.d (W5 ps),yx to,.d (.bool d)] (HC c fl) lCo fun v H1=>v= .tuple []/\H1=HC c (fl++yf ps to d):=by
  refine Pq.run (b:=2) [.ptr 1 0,.d (W5 ps),yx to,.d (.bool d),.any,.any,.any,.any,.any] rfl rfl rfl rfl rfl ?_;unfold HC yx;refine gr ?_;refine Ex.T7 (fun k T H=>∃ i:Nat,T=[.ptr 1 0,.any,.any,.d (.bool d),.ptr 2 0,.any,.d (W5 ps),.d (num ps.length),.d (num i)]/\H=[.cells (c.enc.map .d),.cells [C4 5 C5.enc (fl++yf (ps.take i) to d)],.cells [.d (num to.1),.d (num to.2)]]/\i+k=ps.length) ?_ (k:=ps.length) ⟨0,rfl,by simp [yf],by simp⟩;rintro k _ _ ⟨i,rfl,rfl,hk⟩;refine Ex.seq ?_;refine tb (F0 i ps.length) (fun h2=> ?_) (fun h2=> ?_)
  .have h3:=A9 h2
   have h4:(fl++yf (ps.take i) to d).length<=1000000:=by simp [yf];omega
   have hr:roomFor ((fl++yf (ps.take i) to d).length+1) 40=true:=by simp only [roomFor,decide_eq_true_eq];omega
   have h5:yf (ps.take (i+1)) to d=yf (ps.take i) to d++[⟨nth ps i,to,d⟩]:=by
    unfold yf;rw [J3 (by omega)];simp
   repeat' (first|refine rV (cs:=(C5.enc ⟨nth ps i,to,d⟩).map .d) ?_|refine oN (enc:=C5.enc) ⟨nth ps i,to,d⟩ ?_|refine acN (enc:=C5.enc) (xs:=fl++yf (ps.take i) to d) ⟨nth ps i,to,d⟩ hr (h2:= ?_)|refine soO (h2:= ?_)|refine gx ?_|fail)
   exact ⟨k - 1,by omega,_,_,L5 (j5 rfl) (j5 rfl),i+1,rfl,by rw [h5,<- E8];rfl,by omega⟩
  .have h3:=B8 h2
   obtain rfl:i=ps.length:=by omega
   refine gr ?_;exact ⟨_,_,rfl,rfl,by rw [List.take_length];rfl⟩
 obtain ⟨v,H1,⟨rfl,rfl⟩,h⟩:=key;exact h
def vQ (s p:Int):Nat->List C5
 |0=>[]
 |k+1=>vQ s p k++(if !s8 k p then yf [(s,p)] (s,(k:Int)) false else [])
theorem Bj (s p:Int):∀ k,(vQ s p k).length<=k
 |0=>o5 _
 |k+1=>by
  have:=Bj s p k;simp only [vQ,o8];split<;>simp [yf]<;>omega
def tQ (s:Int)(n:Nat)(rX:List Int):List C5:=rX.flatMap fun p=>vQ s p n
theorem tR (s:Int)(n:Nat):∀ rX:List Int,(tQ s n rX).length<=rX.length * n
 |[]=>by simp [tQ]
 |p::rX=>by
  have h1:=tR s n rX;have h2:=Bj s p n;simp only [tQ,List.flatMap_cons,o8,p7,Nat.add_mul,Nat.one_mul] at h1 ⊢;omega
set_option maxHeartbeats 8000000 in
def aJ0 (c:y5)(fl:List C5)(s:Int)(n:Nat)(rX:List Int)(hf:fl.length<=100000)(hn:n<=100)(hp:rX.length<=100) :
  Pm A 102 [.ptr 1 0,.d (num s),.d (num n),.d (ints rX)] (HC c fl) lCo (.tuple []) (HC c (fl++tQ s n rX)):=by
 have key:Pq A 102 [.ptr 1 0,.d (num s),.d (num n),.d (ints rX)] (HC c fl) lCo fun v H1=>v= .tuple []/\H1=HC c (fl++tQ s n rX):=by
  refine Pq.run (b:=2) [.ptr 1 0,.d (num s),.d (num n),.d (ints rX),.any,.any,.any,.any,.any,.any,.any] rfl rfl rfl rfl rfl ?_;refine gr ?_;refine Ex.M5 (fun k T H=>∃ (i:Nat) (w3 w4 w5 w9 mR:c8),T=[.ptr 1 0,.d (num s),.d (num n),w3,w4,w5,.d (ints rX),.d (num rX.length),.d (num i),w9,mR]/\H=HC c (fl++tQ s n (rX.take i))/\i+k=rX.length) (by rintro _ _ _ ⟨_,_,_,_,_,_,rfl,rfl,_⟩;rfl) ?_ (k:=rX.length) ⟨0,_,_,_,_,_,rfl,by simp [tQ],by simp⟩;rintro k _ _ ⟨i,w3,w4,w5,w9,mR,rfl,rfl,hk⟩;refine Ex.nT ?_;refine Ex.seq ?_;refine tb (F0 i rX.length) (fun h2=> ?_) (fun h2=> ?_)
  .have h3:=A9 h2
   have h4:=tR s n (rX.take i);have h5:(rX.take i).length * n<=100 * 100:=Nat.mul_le_mul (by simp;omega) hn;have h6:tQ s n (rX.take (i+1))=tQ s n (rX.take i)++vQ s (nth rX i) n:=by
    unfold tQ;rw [J3 (by omega)];simp
   refine gr ?_;obtain ⟨p,hpe⟩:∃ p,nth rX i=p:=⟨_,rfl⟩;rw [hpe] at h6 ⊢;refine Ex.M5 (fun k T H=>∃ (j:Nat) (w3 w5:c8),T=[.ptr 1 0,.d (num s),.d (num n),w3,.d (num p),w5,.d (ints rX),.d (num rX.length),.d (num i),.d (num n),.d (num j)]/\H=HC c ((fl++tQ s n (rX.take i))++vQ s p j)/\j+k=n) (by rintro _ _ _ ⟨_,_,_,rfl,rfl,_⟩;rfl) ?_ (k:=n) ⟨0,_,_,rfl,by simp [vQ],by simp⟩;rintro m _ _ ⟨j,w3,w5,rfl,rfl,hm⟩;refine Ex.nT ?_;refine Ex.seq ?_;refine tb (F0 j n) (fun g2=> ?_) (fun g2=> ?_)
   .have g3:=A9 g2
    have g4:=Bj s p j;refine gr ?_;refine tb (!s8 j p) (fun g5=> ?_) (fun g5=> ?_)
    .have pa:=Ja c ((fl++tQ s n (rX.take i))++vQ s p j) [(s,p)] (s,(j:Int)) false (by simp only [o8,List.length_singleton];omega)
     repeat' (first|refine rV (cs:=(W4 (s,p)).map .d) ?_|refine rV (cs:=(W4 (s,(j:Int))).map .d) ?_|refine oN (enc:=W4) (s,p) ?_|refine c0 pa rfl (h2:= ?_)|refine gx ?_|fail)
     exact ⟨m - 1,by omega,j+1,_,_,rfl,by simp only [vQ,g5,if_true,E8];rfl,by omega⟩
    .refine gr ?_
     exact ⟨m - 1,by omega,j+1,_,_,rfl,by simp only [vQ,g5,j3,if_false,List.append_nil],by omega⟩
   .have g3:=B8 g2
    obtain rfl:j=n:=by omega
    refine gr ?_;exact ⟨k - 1,by omega,i+1,_,_,_,_,_,rfl,by rw [h6,E8],by omega⟩
  .have h3:=B8 h2
   obtain rfl:i=rX.length:=by omega
   refine gr ?_;exact ⟨_,_,rfl,rfl,by rw [List.take_length];rfl⟩
 obtain ⟨v,H1,⟨rfl,rfl⟩,h⟩:=key;exact h
def rS (s:Int)(l r:List G8):Nat->List C5
 |0=>[]
 |k+1=>rS s l r k++(yf [nth l k,nth r k] (s,(k:Int)) true++yf [nth l 0,nth r 0] (s,(k:Int)) false)
theorem By (s:Int)(l r:List G8):∀ k,(rS s l r k).length=4 * k
 |0=>rfl
 |k+1=>by
  have:=By s l r k;simp only [rS,o8,yf,B0,p7,A3];omega
set_option maxHeartbeats 8000000 in
def aJ4 (c:y5)(fl:List C5)(s:Int)(l r:List G8)(hf:fl.length<=100000)(hl:l.length<=100)(hr:l.length<=r.length) :
  Pm A 160 [.ptr 1 0,.d (num s),.d (W5 l),.d (W5 r)] (HC c fl) lCo (.tuple []) (HC c (fl++rS s l r l.length)):=by
 have key:Pq A 160 [.ptr 1 0,.d (num s),.d (W5 l),.d (W5 r)] (HC c fl) lCo fun v H1=>v= .tuple []/\H1=HC c (fl++rS s l r l.length):=by
  refine Pq.run (b:=2) [.ptr 1 0,.d (num s),.d (W5 l),.d (W5 r),.any,.any,.any,.any] rfl rfl rfl rfl rfl ?_;refine gr ?_;refine Ex.T7 (fun k T H=>∃ i:Nat,T=[.ptr 1 0,.d (num s),.d (W5 l),.d (W5 r),.any,.any,.d (num l.length),.d (num i)]/\H=HC c (fl++rS s l r i)/\i+k=l.length) ?_ (k:=l.length) ⟨0,rfl,by simp [rS],by simp⟩;rintro k _ _ ⟨i,rfl,rfl,hk⟩;have hul:=By s l r i;refine Ex.seq ?_;refine tb (F0 i l.length) (fun h2=> ?_) (fun h2=> ?_)
  .have h3:=A9 h2
   have p1:=Ja c (fl++rS s l r i) [nth l i,nth r i] (s,(i:Int)) true (by simp only [o8,p7,A3];omega);have p2:=Ja c ((fl++rS s l r i)++yf [nth l i,nth r i] (s,(i:Int)) true) [nth l 0,nth r 0] (s,(i:Int)) false (by simp only [o8,p7,A3,yf,B0];omega);unfold HC yx at *
   repeat' (first|refine rV (cs:=(W4 (s,(i:Int))).map .d) ?_|refine bsv (W4 (nth l i)++W4 (nth r i)) ?_|refine c0 p1 rfl (h2:= ?_)|refine bsv (W4 (nth l 0)++W4 (nth r 0)) ?_|refine c0 p2 rfl (h2:= ?_)|refine ixZ (h2:= ?_)|refine gx ?_|fail)
   exact ⟨k - 1,by omega,_,_,L5 (j5 rfl) (j5 rfl),i+1,rfl,by simp only [rS,<- E8];rfl,by omega⟩
  .have h3:=B8 h2
   obtain rfl:i=l.length:=by omega
   refine gr ?_;exact ⟨_,_,rfl,rfl,rfl⟩
 obtain ⟨v,H1,⟨rfl,rfl⟩,h⟩:=key;exact h
structure Cf (e:List Y6)(n:Nat):Prop where
 len:e.length<=64
 ok:Z6 e=true\/e=[]
 col:∀ x,x ∈ jv e->0<=x/\x<n
def nI (v:Vw)(ps:List G8)(i:Nat):List (List G8):=(v.items.take i).map fun x=>rI x.expr ps
def Hr (v:Vw)(ps:List G8)(i:Nat):List (List G8):=(v.D4.take i).map fun x=>rI x.expr ps
def xQ (v:Vw)(ps:List G8):List (List G8):=nI v ps v.items.length++Hr v ps v.D4.length
def onP (v:Vw)(L R:List G8)(i:Nat):List G8:=(v.on.take i).flatMap fun p=>[nth L p.1.toNat,nth R p.2.toNat]
def Hq (v:Vw)(L R:List G8):List G8:=rI v.wh (L++R)++[nth L 0]++(if F0 0 R.length then [nth R 0] else [])++onP v L R v.on.length++(if s8 v.kind 1||v.distinct then (nI v (L++R) v.items.length).flatten else [])
def vi (s:Int)(ds:List (List G8))(cs:List G8):Nat->List C5
 |0=>[]
 |k+1=>vi s ds cs k++(yf (nth ds k) (s,(k:Int)) true++yf cs (s,(k:Int)) false)
def jK (s:Int)(v:Vw)(L R:List G8):List C5:=if s8 v.kind 2 then rS s L R L.length else vi s (xQ v (L++R)) (Hq v L R) (xQ v (L++R)).length
structure EL (v:Vw)(L R:List G8):Prop where
 l0:0<L.length
 l8:L.length<=8
 r8:R.length<=8
 p8:v.items.length+v.D4.length<=8
 on8:v.on.length<=8
 on:∀ i,i<v.on.length->0<=(nth v.on i).1/\(nth v.on i).1<L.length/\0<=(nth v.on i).2/\(nth v.on i).2<R.length
 wh:Cf v.wh (L++R).length
 it:∀ i,i<v.items.length->Cf (nth v.items i).expr (L++R).length
 ag:∀ i,i<v.D4.length->Cf (nth v.D4 i).expr (L++R).length
 un:s8 v.kind 2=true->L.length<=R.length
def FG (v:Vw)(L R:List G8)(i:Nat):(onP v L R i).length<=2 * v.on.length:=by
 have:∀ l:List (Int×Int),(l.flatMap fun p=>[nth L p.1.toNat,nth R p.2.toNat]).length=2 * l.length:=by
  intro l
  induction l with
  |nil=>rfl
  |cons a l ih=>simp only [List.flatMap_cons,o8,ih,p7,A3];omega
 unfold onP;rw [this,List.length_take];omega
def rD {D:List (List G8)}(h:∀ d,d ∈ D->d.length<=64):D.flatten.length<=64 * D.length:=by
 induction D with
 |nil=>simp
 |cons a l ih =>
  have:=h a (by simp);have:=ih fun d hd=>h d (by simp [hd])
  simp only [List.flatten_cons,o8,p7];omega
theorem AE (s:Int)(ds:List (List G8))(cs:List G8)(h:∀ i,i<ds.length->(nth ds i).length<=64):∀ i,i<=ds.length->(vi s ds cs i).length<=i * (64+cs.length)
 |0,_=>by simp [vi]
 |k+1,hk=>by
  have h1:=AE s ds cs h k (by omega);have h2:=h k (by omega);simp only [vi,o8,yf,B0,Nat.succ_mul];omega
def zx {v:Vw}{ps:List G8}(hi:∀ i,i<v.items.length->Cf (nth v.items i).expr ps.length)(ha:∀ i,i<v.D4.length->Cf (nth v.D4 i).expr ps.length):∀ d,d ∈ xQ v ps->d.length<=64:=by
 intro d hd;simp only [xQ,nI,Hr,M4,F5] at hd
 rcases hd with ⟨x,hx,rfl⟩|⟨x,hx,rfl⟩
 .obtain ⟨q,hq,rfl⟩:=List.getElem_of_mem (List.mem_of_mem_take hx)
  have h1:=(hi q hq).len;rw [I9 hq] at h1;have:=nW v.items[q].expr ps;omega
 .obtain ⟨q,hq,rfl⟩:=List.getElem_of_mem (List.mem_of_mem_take hx)
  have h1:=(ha q hq).len;rw [I9 hq] at h1;have:=nW v.D4[q].expr ps;omega
set_option maxHeartbeats 32000000 in
def aJ1 (c:y5)(fl:List C5)(v:Vw)(s:Int)(L R:List G8)(h:EL v L R)(hf:fl.length<=100000)(pl:Pf A 159 [cat c,.d (.str v.left)] (.d (W5 L)))(pr:M0 v.right []=false->Pf A 159 [cat c,.d (.str v.right)] (.d (W5 R)))(hr0:M0 v.right []=true->R=[]) :
  Pm A 104 [.ptr 1 0,cat c,.d (num s),vw' v] (HC c fl) lCo (.tuple []) (HC c (fl++jK s v L R)):=by
 have key:Pq A 104 [.ptr 1 0,cat c,.d (num s),vw' v] (HC c fl) lCo fun r H1=>r= .tuple []/\H1=HC c (fl++jK s v L R):=by
  obtain ⟨l0,l8,r8,p8,on8,on,wh,it,ag,un⟩:=h;have hlr:(L++R).length<=16:=by simp;omega
  have hb0:∀ w7:c8,(w7= .d (W5 R)\/∃ z,w7= .own z 0 []/\W5 R= .slice 0 [])->w7.K5=0:=by
   rintro _ (rfl|⟨_,rfl,_⟩)<;>rfl
  refine Pq.run (b:=2) [.ptr 1 0,cat c,.d (num s),vw' v,.any,.any,.any,.any,.any,.any,.any,.any,.any,.any,.any,.any,.any,.any,.any,.any,.any,.any,.any,.any,.any,.any,.any,.any,.any,.any,.any,.any] rfl rfl rfl rfl rfl ?_;unfold HC
  repeat' (first|refine sG pl ?_|refine gx ?_|fail)
  refine Ex.MZ (fun st=>∃ w7:c8,(w7= .d (W5 R)\/∃ z,w7= .own z 0 []/\W5 R= .slice 0 [])/\st=⟨[.ptr 1 0,cat c,.d (num s),vw' v,.ptr 2 0,.ptr 3 0,.d (W5 L),w7,.any,.any,.any,.any,.any,.any,.any,.any,.any,.any,.any,.any,.any,.any,.any,.any,.any,.any,.any,.any,.any,.any,.any,.any],[.cells (c.enc.map .d),.cells [C4 5 C5.enc fl],.cells (c.enc.map .d),.cells (v.enc.map .d)]⟩) ?_ ?_
  .skip
   refine tb (!M0 v.right []) (fun h=> ?_) (fun h=> ?_)
   .have pr:=pr (by simpa using h)
    repeat' (first|refine sG pr ?_|refine gx ?_|fail)
    exact ⟨_,.inl rfl,rfl⟩
   .refine gr ?_
    exact ⟨_,.inr ⟨2,rfl,by rw [hr0 (by simpa using h)];rfl⟩,rfl⟩
  rintro _ ⟨w7,TN,rfl⟩;refine gr ?_;refine tb (s8 v.kind 2) (fun hk=> ?_) (fun hk=> ?_)
  .have p:=aJ4 c fl s L R hf (by omega) (un hk)
   unfold HC at p
   repeat' (first|refine msv TN ?_|refine c0 p rfl (h2:= ?_)|refine gx ?_|fail)
   exact ⟨_,_,rfl,rfl,by rw [jK,hk];rfl⟩
  refine gr ?_;refine Ex.T7 (fun k T H=>∃ i:Nat,T=[.ptr 1 0,.any,.d (num s),.any,.any,.ptr 3 0,.d (W5 L),w7,C4 1 jx (nI v (L++R) i),.any,.any,.any,.any,.any,.any,.any,.any,.d (z8 GL.enc v.items),.d (num v.items.length),.d (num i),.any,.any,.any,.any,.any,.any,.any,.any,.any,.any,.any,.any]/\H=[.cells (c.enc.map .d),.cells [C4 5 C5.enc fl],.cells (c.enc.map .d),.cells (v.enc.map .d)]/\i+k=v.items.length) ?_ (k:=v.items.length) ⟨0,rfl,rfl,by simp⟩;rintro k _ _ ⟨i,rfl,rfl,hk1⟩;have hdl:(nI v (L++R) i).length<=8:=by simp [nI];omega
  refine Ex.seq ?_;refine tb (F0 i v.items.length) (fun h2=> ?_) (fun h2=> ?_)
  .have h3:=A9 h2
   obtain ⟨e1,e2,e3⟩:=it i (by omega);have p1:=UJ (nth v.items i).expr L R (by omega) e2 (by omega) (by omega) l0 e3;have e4:nI v (L++R) (i+1)=nI v (L++R) i++[rI (nth v.items i).expr (L++R)]:=by
    unfold nI;rw [J3 (by omega)];simp
   repeat' (first|refine msv TN ?_|refine sG p1 ?_|refine gx ?_|fail)
   exact ⟨k - 1,by omega,_,_,L5 (by rcases TN with rfl|⟨_,rfl,_⟩<;>exact j5 rfl) (j5 rfl),i+1,by rw [e4];rfl,rfl,by omega⟩
  have h3:=B8 h2;obtain rfl:i=v.items.length:=by omega
  have pw:=UJ v.wh L R (by have:=wh.len;omega) wh.ok (by omega) (by omega) l0 wh.col;have Ia:=nW v.wh (L++R);have bJ3:=wh.len;have NH:L.take 1=[nth L 0]:=by
   cases L with
   |nil=>simp at l0
   |cons a q=>simp [nth]
  have pc:=ae4 [rI v.wh (L++R),L.take 1] (by simp) (fun i hi=>by
   match i,hi with
   |0,_=>rw [I9 (by simp)];show (rI v.wh (L++R)).length<=10000;omega
   |1,_=>rw [I9 (by simp)];show (L.take 1).length<=10000;simp;omega) (by simp;omega)
  have et:[rI v.wh (L++R),L.take 1].flatten=rI v.wh (L++R)++[nth L 0]:=by simp [NH]
  rw [et] at pc;obtain ⟨C0,hC0⟩:∃ C0,rI v.wh (L++R)++[nth L 0]=C0:=⟨_,rfl⟩;have bF1:C0.length<=65:=by rw [<- hC0];simp;omega
  rw [hC0] at pc;obtain ⟨D,hD⟩:∃ D,nI v (L++R) v.items.length=D:=⟨_,rfl⟩;have hDl:D.length=v.items.length:=by rw [<- hD];simp [nI]
  have aj3:∀ d,d ∈ D->d.length<=64:=by
   intro d hd;rw [<- hD] at hd;simp only [nI,F5] at hd;obtain ⟨x,hx,rfl⟩:=hd;obtain ⟨q,hq,rfl⟩:=List.getElem_of_mem (List.mem_of_mem_take hx);have h1:=(it q hq).len;rw [I9 hq] at h1;have:=nW v.items[q].expr (L++R);omega
  rw [hD] at hdl ⊢
  repeat' (first|refine msv TN ?_|refine sG pw ?_|refine cl (pc) ?_|refine gx ?_|fail)
  refine Ex.MZ (fun st=>st=⟨[.ptr 1 0,.any,.d (num s),.any,.any,.ptr 3 0,.d (W5 L),w7,C4 1 jx D,.any,C4 2 W4 (C0++(if F0 0 R.length then [nth R 0] else [])),.any,.any,.any,.any,.any,.any,.d (z8 GL.enc v.items),.d (num v.items.length),.d (num v.items.length),.any,.any,.any,.any,.any,.any,.any,.any,.any,.any,.any,.any],[.cells (c.enc.map .d),.cells [C4 5 C5.enc fl],.cells (c.enc.map .d),.cells (v.enc.map .d)]⟩) ?_ ?_
  .skip
   refine tB (F0 0 R.length) ?_ (fun h=> ?_) (fun h=> ?_)
   .repeat' (first|refine msv TN ?_|refine gx ?_|refine fk (h1:=fun hw=> ?_) (h2:=fun hw=> ?_)|refine R8 (h1:=fun hw=> ?_) (h2:=fun hw=> ?_)|refine ⟨rfl,rfl,_,rfl,?_⟩|refine ⟨rfl,rfl⟩|fail)
    all_goals exact cc
   .have h3:=A9 h
    have h4:0<R.length:=by omega
    rw [h];simp only [if_true]
    repeat' (first|refine msv TN ?_|refine oN (enc:=W4) (nth R 0) ?_|refine ZY (ys:=[nth R 0]) (h2:= ?_)|refine gx ?_|fail)
    exact rfl
   .rw [h]
    simp only [j3,if_false,List.append_nil];refine gr ?_;exact rfl
  rintro _ rfl;obtain ⟨C1,hC1⟩:∃ C1,C0++(if F0 0 R.length then [nth R 0] else [])=C1:=⟨_,rfl⟩;have bF2:C1.length<=66:=by rw [<- hC1];split<;>simp<;>omega
  rw [hC1];refine gr ?_;refine Ex.T7 (fun k T H=>∃ (i:Nat) (acc:List G8),T=[.ptr 1 0,.any,.d (num s),.any,.any,.ptr 3 0,.d (W5 L),w7,C4 1 jx D,.any,C4 2 W4 acc,.any,.any,.any,.any,.any,.any,.any,.any,.any,.d (z8 (fun p=>[num p.1,num p.2]) v.on),.d (num v.on.length),.d (num i),.any,.any,.any,.any,.any,.any,.any,.any,.any]/\H=[.cells (c.enc.map .d),.cells [C4 5 C5.enc fl],.cells (c.enc.map .d),.cells (v.enc.map .d)]/\i+k=v.on.length/\acc=C1++onP v L R i) ?_ (k:=v.on.length) ⟨0,C1,rfl,rfl,by simp,by simp [onP]⟩;rintro k _ _ ⟨i,acc,rfl,rfl,hk2,hacc⟩;refine Ex.seq ?_;refine tb (F0 i v.on.length) (fun h2=> ?_) (fun h2=> ?_)
  .have h3:=A9 h2
   obtain ⟨q1,q2,q3,q4⟩:=on i (by omega);have hol:=FG v L R i;have zW:acc.length<=82:=by rw [hacc,o8];omega
   repeat' (first|refine msv TN ?_|refine bsv (W4 (nth L (nth v.on i).1.toNat)++W4 (nth R (nth v.on i).2.toNat)) ?_|refine ZY (ys:=[nth L (nth v.on i).1.toNat,nth R (nth v.on i).2.toNat]) (h2:= ?_)|refine gx ?_|fail)
   exact ⟨k - 1,by omega,_,_,L5 (by rcases TN with rfl|⟨_,rfl,_⟩<;>exact j5 rfl) (j5 rfl),i+1,_,rfl,rfl,by omega,by rw [hacc];unfold onP;rw [J3 (by omega)];simp⟩
  have h3:=B8 h2;obtain rfl:i=v.on.length:=by omega
  obtain ⟨C2,hC2⟩:∃ C2,C1++onP v L R v.on.length=C2:=⟨_,rfl⟩;have bH3:=FG v L R v.on.length;have bF3:C2.length<=82:=by rw [<- hC2];simp only [o8];omega
  rw [hC2] at hacc;rw [hacc];clear hacc acc;refine gr ?_;refine Ex.MZ (fun st=>∃ ZK ZL ZM ZN w24 w25:c8,(ZK.K5=0/\ZL.K5=0/\ZM.K5=0/\ZN.K5=0/\w24.K5=0/\w25.K5=0)/\st=⟨[.ptr 1 0,.any,.d (num s),.any,.any,.ptr 3 0,.d (W5 L),w7,C4 1 jx D,.any,C4 2 W4 (C2++(if s8 v.kind 1||v.distinct then D.flatten else [])),.any,.any,.any,.any,.any,.any,.any,.any,.any,ZK,ZL,ZM,ZN,w24,w25,.any,.any,.any,.any,.any,.any],[.cells (c.enc.map .d),.cells [C4 5 C5.enc fl],.cells (c.enc.map .d),.cells (v.enc.map .d)]⟩) ?_ ?_
  .skip
   refine tb ((s8 v.kind 1||v.distinct)) (fun h=> ?_) (fun h=> ?_)
   .repeat' (first|refine moT (h2:= ?_)|refine gx ?_|fail)
    refine Ex.T7 (fun k T H=>∃ (i:Nat) (acc:List G8),T=[.ptr 1 0,.any,.d (num s),.any,.any,.ptr 3 0,.d (W5 L),w7,C4 1 jx D,.any,C4 2 W4 acc,.any,.any,.any,.any,.any,.any,.any,.any,.any,.any,.any,.any,.d (z8 jx D),.d (num D.length),.d (num i),.any,.any,.any,.any,.any,.any]/\H=[.cells (c.enc.map .d),.cells [C4 5 C5.enc fl],.cells (c.enc.map .d),.cells (v.enc.map .d)]/\i+k=D.length/\acc=C2++(D.take i).flatten) ?_ (k:=D.length) ⟨0,C2,rfl,rfl,by simp,by simp⟩;rintro k _ _ ⟨i,acc,rfl,rfl,hk3,hacc⟩;refine Ex.seq ?_;refine tb (F0 i D.length) (fun h2=> ?_) (fun h2=> ?_)
    .have h3:=A9 h2
     have h4:=aj3 (nth D i) (O7 (by omega));have h5:=rD (D:=D.take i) fun d hd=>aj3 d (List.mem_of_mem_take hd)
     have h6:(D.take i).length<=8:=by rw [List.length_take];omega
     have zW:acc.length<=600:=by rw [hacc,o8];omega
     refine gr ?_;exact ⟨k - 1,by omega,_,_,L5 (by rcases TN with rfl|⟨_,rfl,_⟩<;>exact j5 rfl) (j5 rfl),i+1,acc++nth D i,rfl,rfl,by omega,by rw [hacc,J3 (by omega)];simp⟩
    have h3:=B8 h2;obtain rfl:i=D.length:=by omega
    have ha:acc=C2++(if s8 v.kind 1||v.distinct then D.flatten else []):=by rw [hacc,h];simp
    rw [<- ha];refine gr ?_;exact ⟨.any,.any,.any,.d (z8 jx D),.d (num D.length),.d (num D.length),⟨rfl,rfl,rfl,rfl,rfl,rfl⟩,rfl⟩
   .rw [h]
    simp only [j3,if_false,List.append_nil];refine gr ?_;exact ⟨.d (z8 (fun p=>[num p.1,num p.2]) v.on),.d (num v.on.length),.d (num v.on.length),.any,.any,.any,⟨rfl,rfl,rfl,rfl,rfl,rfl⟩,rfl⟩
  rintro _ ⟨ZK,ZL,ZM,ZN,w24,w25,hb,rfl⟩;obtain ⟨C3,hC3⟩:∃ C3,C2++(if s8 v.kind 1||v.distinct then D.flatten else [])=C3:=⟨_,rfl⟩;have bF4:C3.length<=600:=by
   have:=rD aj3;rw [<- hC3];simp only [o8];split<;>(try simp only [A3])<;>omega
  rw [hC3];refine gr ?_;refine Ex.T7 (fun k T H=>∃ (i:Nat) (acc:List (List G8)),T=[.ptr 1 0,.any,.d (num s),.any,.any,.any,.d (W5 L),w7,C4 1 jx acc,.any,C4 2 W4 C3,.any,.any,.any,.any,.any,.any,.any,.any,.any,.any,.any,.any,.any,.any,.any,.d (z8 Ce.enc v.D4),.d (num v.D4.length),.d (num i),.any,.any,.any]/\H=[.cells (c.enc.map .d),.cells [C4 5 C5.enc fl],.cells (c.enc.map .d),.cells (v.enc.map .d)]/\i+k=v.D4.length/\acc=D++Hr v (L++R) i) ?_ (k:=v.D4.length) ⟨0,D,rfl,rfl,by simp,by simp [Hr]⟩;rintro k _ _ ⟨i,acc,rfl,rfl,hk4,hacc⟩;have zW:acc.length<=8:=by rw [hacc];simp [Hr];omega
  refine Ex.seq ?_;refine tb (F0 i v.D4.length) (fun h2=> ?_) (fun h2=> ?_)
  .have h3:=A9 h2
   obtain ⟨e1,e2,e3⟩:=ag i (by omega);have p1:=UJ (nth v.D4 i).expr L R (by omega) e2 (by omega) (by omega) l0 e3
   repeat' (first|refine msv TN ?_|refine sG p1 ?_|refine gx ?_|fail)
   exact ⟨k - 1,by omega,_,_,L5 (by rcases TN with rfl|⟨_,rfl,_⟩<;>exact j5 rfl) (j5 rfl),i+1,acc++[rI (nth v.D4 i).expr (L++R)],rfl,rfl,by omega,by rw [hacc];unfold Hr;rw [J3 (by omega)];simp⟩
  have h3:=B8 h2;obtain rfl:i=v.D4.length:=by omega
  obtain ⟨DV,hDV⟩:∃ DV,xQ v (L++R)=DV:=⟨_,rfl⟩;have hacc:acc=DV:=by rw [hacc,<- hDV,<- hD];rfl
  subst hacc;have ak3:∀ i,i<acc.length->(nth acc i).length<=64:=by
   intro i hi;refine zx it ag _ ?_;rw [hDV];exact O7 hi
  have rG:jK s v L R=vi s acc C3 acc.length:=by
   unfold jK;rw [hk,hDV,<- hC3,<- hC2,<- hC1,<- hC0,<- hD];rfl
  rw [rG]
  repeat' (first|refine moT (h2:= ?_)|refine gx ?_|fail)
  refine Ex.T7 (fun k T H=>∃ (i:Nat) (fs:List C5),T=[.ptr 1 0,.any,.d (num s),.any,.any,.any,.any,.any,.any,.any,C4 2 W4 C3,.any,.any,.any,.any,.any,.any,.any,.any,.any,.any,.any,.any,.any,.any,.any,.any,.any,.any,.d (z8 jx acc),.d (num acc.length),.d (num i)]/\H=[.cells (c.enc.map .d),.cells [C4 5 C5.enc fs],.cells (c.enc.map .d),.cells (v.enc.map .d)]/\i+k=acc.length/\fs=fl++vi s acc C3 i) ?_ (k:=acc.length) ⟨0,fl,rfl,rfl,by simp,by simp [vi]⟩;rintro k _ _ ⟨i,fs,rfl,rfl,hk5,uU⟩;refine Ex.seq ?_;refine tb (F0 i acc.length) (fun h2=> ?_) (fun h2=> ?_)
  .have h3:=A9 h2
   have hol:=AE s acc C3 ak3 i (by omega);have p1:=Ja c fs (nth acc i) (s,(i:Int)) true (by have:=ak3 i (by omega);rw [uU];simp only [o8];have:i * (64+C3.length)<=8 * (64+C3.length):=Nat.mul_le_mul_right _ (by omega);omega);have p2:=Ja c (fs++yf (nth acc i) (s,(i:Int)) true) C3 (s,(i:Int)) false (by have:=ak3 i (by omega);rw [uU];simp only [o8,yf,B0];have:i * (64+C3.length)<=8 * (64+C3.length):=Nat.mul_le_mul_right _ (by omega);omega);unfold HC yx at *
   repeat' (first|refine rV (cs:=(W4 (s,(i:Int))).map .d) ?_|refine c0 p1 rfl (h2:= ?_)|refine c0 p2 rfl (h2:= ?_)|refine gx ?_|fail)
   exact ⟨k - 1,by omega,_,_,L5 (j5 rfl) (j5 rfl),i+1,_,rfl,rfl,by omega,by rw [uU];simp only [vi,E8]⟩
  have h3:=B8 h2;obtain rfl:i=acc.length:=by omega
  refine gr ?_;exact ⟨_,_,rfl,rfl,by rw [uU];rfl⟩
 obtain ⟨r,H1,⟨rfl,rfl⟩,h⟩:=key;exact h
def XS (f:C5):c8:= .agg (f.enc.map .d)
def xe (a b:C5):Bool:=(a.src.1==b.src.1&&(a.src.2==b.src.2&&true))&&(a.dst.1==b.dst.1&&(a.dst.2==b.dst.2&&true))
set_option maxHeartbeats 8000000 in
def ac6 (a b:C5):Pf A 167 [XS a,XS b] (.d (.bool (xe a b))):=by
 refine Pf.run [XS a,XS b,.any,.any,.any] rfl rfl rfl rfl ?_;simp only [XS,C5.enc,F4,List.map_nil]
 repeat' (first|refine Sc rfl rfl ?_|refine gx ?_|refine fk (h1:=fun hw=> ?_) (h2:=fun hw=> ?_)|refine R8 (h1:=fun hw=> ?_) (h2:=fun hw=> ?_)|refine Ex.O6 ?_|refine Ex.P0 ?_|refine Ex.cond rfl (fun ht=> ?_) (fun ht=> ?_)|refine Ex.test (Rn.text ?_)|refine Ex.test (Rn.draw ?_)|refine ⟨_,rfl,fun ht=> ?_,fun ht=> ?_⟩|refine ⟨_,rfl,?_⟩|fail)
 .simp at hw
  simp [j7,xe,hw]
 .simp at hw
  simp [j7,xe];intro h1 h2;exact absurd h2 (hw h1)
def dR (xs:List C5):Nat->List C5
 |0=>[]
 |k+1=>dR xs k++(if decide (0<k)&&xe (nth xs k) (nth xs (k - 1)) then [] else [nth xs k])
def J9 (l:List C5):List c8:=(l.flatMap C5.enc).map .d
theorem cV:∀ l:List x9.Data,A4 (l.map .d)=0
 |[]=>rfl
 |a::l=>by simp [A4,c8.K5,cV l]
def EO {o0 o1:u0}(h0:o0.K5<=3)(h1:o1.K5<=3)(ys:List C5)(st:Nat):L8 (([o0,o1,.cells (J9 ys)].take 3).drop st)<=3:=by
 have h2:(u0.cells (J9 ys)).K5<=3:=by simp only [u0.K5,J9,cV];omega
 match st with
 |0=>simp [L8];omega
 |1=>simp [L8];omega
 |2=>simp [L8];omega
 |_+3=>simp [L8]
def zF:List c8:=[.d (num 0),.d (num 0),.d (num 0),.d (num 0),.d (.bool false)]
theorem Wi:∀ n:Nat,((c9 n zF).flatten).length=n * 5
 |0=>rfl
 |n+1=>by
  have:=Wi n;rw [List.replicate_succ,List.flatten_cons,o8,this];simp [zF];omega
def Wf (o0 o1:u0)(acc rest:List C5):wr [o0,o1,.cells (J9 (acc++rest))] 2 (0+acc.length * 5) ((c9 rest.length zF).flatten)=some [o0,o1,.cells (J9 acc++(c9 rest.length zF).flatten)]:=by
 have l1:∀ l:List C5,(J9 l).length=l.length * 5:=fun l=>by rw [J9,B0,au (sz:=5) (fun _=>rfl)]
 have e:J9 (acc++rest)=J9 acc++J9 rest:=by simp [J9]
 have hz:=Wi rest.length;simp only [wr,List.getElem?_cons_succ,List.getElem?_cons_zero,splice,e,Nat.zero_add];rw [if_pos (by simp only [o8,l1,hz];omega),<- l1 acc,List.take_left,l5 (by simp only [o8,l1,hz];omega)];simp
def IF {acc xs:List C5}{q:Nat}(h1:acc.length<=q)(h2:q<xs.length):nth (acc++xs.drop acc.length) q=nth xs q:=by
 rw [I9 (by simp;omega),I9 h2,List.getElem_append_right h1,List.getElem_drop];have:acc.length+(q - acc.length)=q:=by omega
 simp [this]
set_option maxHeartbeats 16000000 in
def aJ6 (o0 o1:u0)(h0:o0.K5<=3)(h1:o1.K5<=3)(st:Nat)(xs:List C5)(hn:xs.length<=1000000)(hp:0<xs.length) :
  ∃ zs,Pm A 166 [.A8 2 5 0 xs.length,.func 167 [] []] [o0,o1,.cells (J9 xs)] ⟨0,0,3,st⟩ (.A8 2 5 0 (dR xs xs.length).length) [o0,o1,.cells (J9 (dR xs xs.length)++zs)]:=by
 have key:Pq A 166 [.A8 2 5 0 xs.length,.func 167 [] []] [o0,o1,.cells (J9 xs)] ⟨0,0,3,st⟩ fun r H1=>∃ zs,r= .A8 2 5 0 (dR xs xs.length).length/\H1=[o0,o1,.cells (J9 (dR xs xs.length)++zs)]:=by
  have Ll:∀ ys:List C5,L8 (([o0,o1,.cells (J9 ys)].take 3).drop st)<=3:=fun ys=>EO h0 h1 ys st
  refine Pq.run (b:=3) [.A8 2 5 0 xs.length,.func 167 [] [],.any,.any,.any,.any] rfl rfl rfl rfl rfl ?_;refine gr ?_;refine tB (F0 xs.length 2) ?_ (fun h=> ?_) (fun h=> ?_)
  .repeat' (first|refine lnr ?_|refine gx ?_|refine fk (h1:=fun hw=> ?_) (h2:=fun hw=> ?_)|refine R8 (h1:=fun hw=> ?_) (h2:=fun hw=> ?_)|refine ⟨rfl,rfl,_,rfl,?_⟩|refine ⟨rfl,rfl⟩|fail)
   all_goals exact cc
  .have h3:=A9 h
   refine gr ?_;have e:dR xs xs.length=xs:=by
    match xs,hp,h3 with
    |[x],_,_=>simp [dR,nth]
    |_::_::_,_,h=>simp at h;omega
   exact ⟨_,_,rfl,[],by rw [e],by rw [e];simp [J9]⟩
  have h3:=B8 h;have i0:dR xs 1=xs.take 1:=by
   match xs,hp with
   |x::_,_=>simp [dR,nth]
  refine gr ?_;refine Ex.T7 (fun k T H=>∃ i:Nat,T=[.A8 2 5 0 xs.length,.func 167 [] [],.any,.d (num i),.any,.any]/\H=[o0,o1,.cells (J9 xs)]/\i+k=xs.length/\0<i/\dR xs i=xs.take i) ?_ (k:=xs.length - 1) ⟨1,rfl,rfl,by omega,by omega,i0⟩;rintro k _ _ ⟨i,rfl,rfl,hk,hi,hc⟩;refine Ex.seq ?_;refine tB (F0 i xs.length) ?_ (fun h2=> ?_) (fun h2=> ?_)
  .repeat' (first|refine lnr ?_|refine gx ?_|refine fk (h1:=fun hw=> ?_) (h2:=fun hw=> ?_)|refine R8 (h1:=fun hw=> ?_) (h2:=fun hw=> ?_)|refine ⟨rfl,rfl,_,rfl,?_⟩|refine ⟨rfl,rfl⟩|fail)
   all_goals exact cc
  .have h4:=A9 h2
   have r1:rd [o0,o1,.cells (J9 xs)] 2 (0+i * 5) 5=some ((nth xs i).enc.map .d):=AI (enc:=C5.enc) (fun _=>rfl) rfl (by omega);have r2:rd [o0,o1,.cells (J9 xs)] 2 (0+((i:Int) - 1).toNat * 5) 5=some ((nth xs (i - 1)).enc.map .d):=by
    rw [show ((i:Int) - 1).toNat=i - 1 by omega];exact AI (enc:=C5.enc) (fun _=>rfl) rfl (by omega)
   refine gr ?_;have wJ:i<xs.length:=by omega
   have hio:0<=(i:Int) - 1/\(i:Int) - 1<xs.length:=by omega
   refine tB (xe (nth xs i) (nth xs (i - 1))) ?_ (fun h5=> ?_) (fun h5=> ?_)
   .repeat' (first|refine Sc r1 rfl ?_|refine Sc r2 rfl ?_|refine az2 (ac6 _ _) ?_|refine ixs wJ ?_|refine ixo hio ?_|refine gx ?_|refine fk (h1:=fun hw=> ?_) (h2:=fun hw=> ?_)|refine R8 (h1:=fun hw=> ?_) (h2:=fun hw=> ?_)|refine ⟨rfl,rfl,_,rfl,?_⟩|refine ⟨rfl,rfl⟩|fail)
    exact rfl
   .repeat' (first|refine svr wJ ?_|refine gx ?_|fail)
    have hli:(xs.take i).length=i:=by rw [List.length_take];omega
    have hc1:dR xs (i+1)=xs.take i:=by rw [dR,hc,h5];simp [hi]
    refine Ex.T7 (fun k2 T H=>∃ (j:Nat) (acc:List C5),T=[.A8 2 5 0 xs.length,.func 167 [] [],.any,.d (num acc.length),.A8 2 5 (0+i * 5) (xs.length - i),.d (num j)]/\H=[o0,o1,.cells (J9 (acc++xs.drop acc.length))]/\i+j+k2=xs.length/\0<j/\acc.length+1<=i+j/\0<acc.length/\acc=dR xs (i+j)) ?_ (k:=xs.length - i - 1) ⟨1,xs.take i,by rw [hli];rfl,by rw [hli,List.take_append_drop],by omega,by omega,by omega,by omega,hc1.symm⟩;rintro k2 _ _ ⟨j,acc,rfl,rfl,hk2,hj,aA4,bd8,hacc⟩;refine Ex.seq ?_;have aF:acc.length<xs.length:=by omega
    have hdr:=B9 aF;refine tB (F0 j (xs.length - i:Nat)) ?_ (fun h6=> ?_) (fun h6=> ?_)
    .repeat' (first|refine lnr ?_|refine gx ?_|refine fk (h1:=fun hw=> ?_) (h2:=fun hw=> ?_)|refine R8 (h1:=fun hw=> ?_) (h2:=fun hw=> ?_)|refine ⟨rfl,rfl,_,rfl,?_⟩|refine ⟨rfl,rfl⟩|fail)
     all_goals exact cc
    .have h7:=A9 h6
     have hjl:j<xs.length - i:=by omega
     have hjo:0<=(j:Int) - 1/\(j:Int) - 1<((xs.length - i:Nat):Int):=by omega
     have hx:∀ q,acc.length<=q->q<xs.length->rd [o0,o1,.cells (J9 (acc++xs.drop acc.length))] 2 (0+q * 5) 5=some ((nth xs q).enc.map .d):=by
      intro q h1 h2;rw [<- IF h1 h2];exact AI (enc:=C5.enc) (fun _=>rfl) rfl (by simp;omega)
     have r3:=hx (i+j) (by omega) (by omega);rw [show 0+(i+j) * 5=0+i * 5+j * 5 by omega] at r3;have r4:=hx (i+j - 1) (by omega) (by omega);rw [show 0+(i+j - 1) * 5=0+i * 5+((j:Int) - 1).toNat * 5 by omega] at r4;refine gr ?_;refine tB (!xe (nth xs (i+j)) (nth xs (i+j - 1))) ?_ (fun h8=> ?_) (fun h8=> ?_)
     .repeat' (first|refine Sc r3 rfl ?_|refine Sc r4 rfl ?_|refine az2 (ac6 _ _) ?_|refine ixs hjl ?_|refine ixo hjo ?_|refine gx ?_|refine fk (h1:=fun hw=> ?_) (h2:=fun hw=> ?_)|refine R8 (h1:=fun hw=> ?_) (h2:=fun hw=> ?_)|refine ⟨rfl,rfl,_,rfl,?_⟩|refine ⟨rfl,rfl⟩|fail)
      exact rfl
     .have w1:wr [o0,o1,.cells (J9 (acc++xs.drop acc.length))] 2 (0+acc.length * 5) ((nth xs (i+j)).enc.map .d)=some [o0,o1,.cells (J9 (acc++nth xs (i+j)::xs.drop (acc.length+1)))]:=by
       rw [hdr];exact Wg (enc:=C5.enc) (fun _=>rfl) rfl _
      have hb0:A4 ((nth xs (i+j)).enc.map .d)<=2+1:=by rw [cV];omega
      repeat' (first|refine Sc r3 rfl ?_|refine ixs hjl ?_|refine ixs aF ?_|refine kV rfl ⟨rfl,rfl⟩ rfl rfl rfl hb0 w1 ?_|refine gx ?_|fail)
      have NH:(acc++[nth xs (i+j)]).length=acc.length+1:=by simp
      exact ⟨k2 - 1,by omega,_,_,L5 (j5 rfl) (Ll _),j+1,acc++[nth xs (i+j)],by rw [NH];rfl,by rw [NH,E8];rfl,by omega,by omega,by omega,by omega,by rw [<- Nat.add_assoc,dR,<- hacc];simp at h8;rw [h8];simp⟩
     .refine gr ?_
      exact ⟨k2 - 1,by omega,_,_,L5 (j5 rfl) (Ll _),j+1,acc,rfl,rfl,by omega,by omega,by omega,by omega,by rw [<- Nat.add_assoc,dR,<- hacc];simp at h8;rw [h8];simp;omega⟩
    .have h7:=B8 h6
     have hij:i+j=xs.length:=by omega
     rw [hij] at hacc;rw [<- hacc];have w2:=Wf o0 o1 acc (xs.drop acc.length);rw [List.length_drop] at w2
     repeat' (first|refine svr aF ?_|refine clS w2 ?_|refine svf (Nat.le_of_lt aF) bd8 ?_|refine gx ?_|fail)
     exact ⟨_,_,rfl,_,rfl,rfl⟩
   .refine gr ?_
    exact ⟨k - 1,by omega,_,_,L5 (j5 rfl) (Ll _),i+1,rfl,rfl,by omega,by omega,by rw [dR,hc,h5,J3 wJ];simp⟩
  .have h4:=B8 h2
   obtain rfl:i=xs.length:=by omega
   rw [hc,List.take_length];refine gr ?_;exact ⟨_,_,rfl,[],rfl,by simp⟩
 obtain ⟨r,H1,⟨zs,rfl,rfl⟩,h⟩:=key;exact ⟨zs,h⟩
theorem rE:∀ l:List C5,nO (l.flatMap C5.enc)=some l
 |[]=>rfl
 |f::l=>by
  show nO ([num f.src.1,num f.src.2,num f.dst.1,num f.dst.2,.bool f.dat]++l.flatMap C5.enc)=_
  simp only [A5,D8,num,nO,rE l]
def aJ5 (o0 o1:u0)(fl:List C5)(hn:fl.length<=1000000)(l:F2)(hm:l.may 2=true):Pm A 163 [.A8 2 5 0 fl.length,.func 164 [] []] [o0,o1,.cells (J9 fl)] l (.tuple []) [o0,o1,.cells (J9 (bY fl))]:=by
 refine ⟨1,fun k hk=> ?_⟩;obtain ⟨k,rfl⟩:∃ j,k=j+1:=⟨k - 1,by omega⟩;have h1:A.cw 163=some (vt 164):=rfl;have l1:∀ q:List C5,(J9 q).length=q.length * 5:=fun l=>by rw [J9,B0,au (sz:=5) (fun _=>rfl)]
 have e1:rd [o0,o1,.cells (J9 fl)] 2 0 (fl.length * 5)=some (J9 fl):=by
  simp only [rd,List.getElem?_cons_succ,List.getElem?_cons_zero,l1,Nat.zero_add,o5,if_true,List.drop_zero];rw [B5 (by rw [l1];exact o5 _)]
 have e2:M6 (J9 fl)=some (fl.flatMap C5.enc):=aZ _;have e3:wr [o0,o1,.cells (J9 fl)] 2 0 (J9 (bY fl))=some [o0,o1,.cells (J9 (bY fl))]:=by
  simp only [wr,List.getElem?_cons_succ,List.getElem?_cons_zero,l1,vI,Nat.zero_add,o5,if_true,splice,List.take_zero,D8];rw [l5 (by rw [l1];exact o5 _),List.append_nil];rfl
 simp only [call,h1,vt,hm,hn,and_self,if_true,e1,e2,rE];show (match wr [o0,o1,.cells (J9 fl)] 2 0 (J9 (bY fl)) with|some H1=>some (c8.tuple [],H1)|none=>none)=_
 rw [e3]
def XG {o0 o1:u0}(h0:o0.K5<=3)(h1:o1.K5<=3)(ys:List C5)(st:Nat):E9 [o0,o1,.cells (J9 ys)] st 8 3=3:=by
 have:=EO h0 h1 ys st;show E9 _ st (7+1) 3=3
 rw [E9];split
 .rfl
 .exact if_pos (Nat.max_eq_left this)
set_option maxHeartbeats 16000000 in
def aJ2 (o0:u0)(h0:o0.K5<=3)(st:Nat)(fl:List C5)(hn:fl.length<=1000000)(hp:0<fl.length) :
  ∃ zs,Pm A 105 [.ptr 1 0] [o0,.cells [.A8 2 5 0 fl.length],.cells (J9 fl)] ⟨0,0,3,st⟩ (.A8 2 5 0 (dR (bY fl) fl.length).length) [o0,.cells [.A8 2 5 0 fl.length],.cells (J9 (dR (bY fl) fl.length)++zs)]:=by
 have h1:(u0.cells [.A8 2 5 0 fl.length]).K5<=3:=o5 _;have wM:=vI fl;have key:Pq A 105 [.ptr 1 0] [o0,.cells [.A8 2 5 0 fl.length],.cells (J9 fl)] ⟨0,0,3,st⟩ fun r H1=>∃ zs,r= .A8 2 5 0 (dR (bY fl) fl.length).length/\H1=[o0,.cells [.A8 2 5 0 fl.length],.cells (J9 (dR (bY fl) fl.length)++zs)]:=by
  refine Pq.run (b:=3) [.ptr 1 0,.any] rfl rfl rfl rfl rfl ?_;have p1:=aJ5 o0 (.cells [.A8 2 5 0 fl.length]) fl hn;obtain ⟨zs,p2⟩:=aJ6 o0 (.cells [.A8 2 5 0 fl.length]) h0 h1 (C9 [o0,.cells [.A8 2 5 0 fl.length],.cells (J9 (bY fl))] st 3) (bY fl) (by omega) (by omega);rw [wM] at p2
  repeat' (first|refine c0 (pN:=EO h0 h1 _ _) (hcl:=XG h0 h1 _ _) (p1 _ rfl) rfl (h2:= ?_)|refine c0 (pN:=EO h0 h1 _ _) (hcl:=XG h0 h1 _ _) p2 rfl (h2:= ?_)|refine gx ?_|fail)
  exact ⟨_,_,rfl,zs,rfl,rfl⟩
 obtain ⟨r,H1,⟨zs,rfl,rfl⟩,h⟩:=key;exact ⟨zs,h⟩
def vP (c:y5):Nat->List C5
 |0=>[]
 |i+1=>vP c i++(if s8 (nth c.k9 i).erase 1 then tQ i (nth c.k9 i).p8.length (tu c i) else [])
def vS (c:y5)(L R:Nat->List G8):Nat->List C5
 |0=>[]
 |i+1=>vS c L R i++jK ((c.k9.length:Int)+(i:Int)) (nth c.views i) (L i) (R i)
structure ZX (c:y5)(i:Nat)(L R:List G8):Prop where
 ok:EL (nth c.views i) L R
 pl:Pf A 159 [cat c,.d (.str (nth c.views i).left)] (.d (W5 L))
 pr:M0 (nth c.views i).right []=false->Pf A 159 [cat c,.d (.str (nth c.views i).right)] (.d (W5 R))
 r0:M0 (nth c.views i).right []=true->R=[]
 len:∀ s,(jK s (nth c.views i) L R).length<=6000
def XR (a:x9.Data):(c8.d a).forget.K5=0:=by
 cases a with
 |slice n cs=>cases cs<;>rfl
 |_=>rfl
theorem Th:∀ l:List x9.Data,A4 (R4 (l.map .d))=0
 |[]=>rfl
 |a::l=>by simp only [F4,R4,A4,Th l,XR];rfl
def Fi (l:List x9.Data):(u0.cells (l.map .d)).forget.K5<=3:=by
 simp only [u0.forget,u0.K5,Th];omega
def bc7 (l:List x9.Data):(u0.cells (l.map .d)).K5<=2:=by
 simp only [u0.K5,cV];omega
def az0 {o0:u0}{n:Nat}(h0:o0.K5<=3)(ys:List C5):E9 [o0,.cells [.A8 2 5 0 n],.cells (J9 ys)] 0 8 2=3:=by
 have h1:L8 (([o0,.cells [.A8 2 5 0 n],.cells (J9 ys)].take 2).drop 0)=3:=by
  have:(u0.cells [.A8 2 5 0 n]).K5=3:=rfl;simp [L8,this];omega
 have h2:=EO h0 (o1:= .cells [.A8 2 5 0 n]) (o5 _) ys 0;show E9 _ 0 (6+1+1) 2=3
 rw [E9,h1];show E9 _ 0 (6+1) 3=3
 rw [E9];exact if_pos (Nat.max_eq_left h2)
theorem Tq (H:o9)(n:Nat):∀ (xs:List x9.Data) (f:Nat),xs.length<f->bF H n f (xs.map .d)=some (xs.map .d)
 |[],f+1,_=>rfl
 |x::xs,f+1,h=>by
  have ih:=Tq H n xs f (by simp at h;omega);simp only [F4,bF,ih]
def az4 {T:List c8}{H:o9}{ds:List C5}{zs:List c8}(hT:T[2]? =some (.A8 2 5 0 ds.length))(hH:H[2]? =some (.cells (J9 ds++zs)))(hl:ds.length<=100000):iK a47 0 (some (.ret,⟨T,H⟩))=some (.d (z8 C5.enc ds),[]):=by
 have l1:(ds.flatMap C5.enc).length=ds.length * 5:=au (sz:=5) (fun _=>rfl) ds;have l2:(J9 ds).length=ds.length * 5:=by rw [J9,B0,l1]
 have h1:rd H 2 0 (ds.length * 5)=some (J9 ds):=by
  simp only [rd,hH,o8,l2,Nat.zero_add];rw [if_pos (by omega),List.drop_zero,<- l2,List.take_left]
 have h2:=Tq H 0 (ds.flatMap C5.enc) 999999 (by omega);have h4:aN T H a47.results=some [.A8 2 5 0 ds.length]:=by
  show aN T H [.slot 2]=_
  simp only [aN,jT,hT]
 unfold iK;simp only [h4];show finish false 0 [.A8 2 5 0 ds.length] H=_
 rw [J9] at h1;simp only [finish,j3,if_false,j7,bF,Nat.not_lt_zero,h1,h2,aZ];simp [c8.K5,z8]
theorem zv (xs:List C5):∀ k,(dR xs k).length<=k
 |0=>o5 _
 |k+1=>by
  have:=zv xs k;simp only [dR,o8];split<;>simp<;>omega
def ap7 (l:F2):Pm A 166 [.d (.slice 0 []),.func 167 [] []] [] l (.d (.slice 0 [])) []:=by
 have key:Pq A 166 [.d (.slice 0 []),.func 167 [] []] [] l fun r H1=>r= .d (.slice 0 [])/\H1=[]:=by
  refine Pq.run (b:=0) [.d (.slice 0 []),.func 167 [] [],.any,.any,.any,.any] rfl rfl rfl rfl rfl ?_;refine gr ?_;refine tb (F0 0 2) (fun h=> ?_) (fun h=> ?_)
  .refine gr ?_
   exact ⟨_,_,rfl,rfl,rfl⟩
  .cases B8 h
 obtain ⟨r,H1,⟨rfl,rfl⟩,h⟩:=key;exact h
def ap6 (l:F2):Pm A 163 [.d (.slice 0 []),.func 164 [] []] [] l (.tuple []) []:=Pm.cw rfl rfl
def ap5 (o0:u0)(h0:o0.K5<=2)(st:Nat):Pm A 105 [.ptr 1 0] [o0,.cells [.own 5 0 []]] ⟨0,0,2,st⟩ (.d (.slice 0 [])) [o0,.cells [.own 5 0 []]]:=by
 have key:Pq A 105 [.ptr 1 0] [o0,.cells [.own 5 0 []]] ⟨0,0,2,st⟩ fun r H1=>r= .d (.slice 0 [])/\H1=[o0,.cells [.own 5 0 []]]:=by
  refine Pq.run (b:=2) [.ptr 1 0,.any] rfl rfl rfl rfl rfl ?_
  repeat' (first|refine c0 (pN:=by simp [L8]) (hcl:=by simp [E9,A4,c8.K5]) (ap6 _) rfl (h2:= ?_)|refine c0 (pN:=by simp [L8]) (hcl:=by simp [E9,A4,c8.K5]) (ap7 _) rfl (h2:= ?_)|refine gx ?_|fail)
  exact ⟨_,_,rfl,rfl,rfl⟩
 obtain ⟨r,H1,⟨rfl,rfl⟩,h⟩:=key;exact h
set_option maxHeartbeats 16000000 in
def bj8 (c:y5)(hs:O4 c)(hv:K1 c=true)(h8:c.k9.length<=8)(hc8:∀ i,i<c.k9.length->(nth c.k9 i).p8.length<=8)(h9:c.views.length<=8)(L R:Nat->List G8)(hsr:∀ i,i<c.views.length->ZX c i (L i) (R i)):Pf A 47 [cat c] (.d (z8 C5.enc (dR (bY (vP c c.k9.length++vS c L R c.views.length)) (vP c c.k9.length++vS c L R c.views.length).length))):=by
 refine Pf.run [cat c,.any,.any,.any,.any,.any,.any,.any,.any,.any,.any,.any,.any,.any] rfl rfl rfl rfl ?_;refine gr ?_;refine Ex.T7 (fun k T H=>∃ (i:Nat) (fl:List C5),T=[.any,.ptr 0 0,.any,.ptr 1 0,.any,.any,.any,.any,.d (z8 mO.enc c.k9),.d (num c.k9.length),.d (num i),.any,.any,.any]/\H=HC c fl/\i+k=c.k9.length/\fl=vP c i/\fl.length<=i * 64) ?_ (k:=c.k9.length) ⟨0,[],rfl,rfl,by simp,rfl,by simp⟩;rintro k _ _ ⟨i,fl,rfl,rfl,hk,hfl,hfn⟩;unfold HC;refine Ex.seq ?_;refine tb (F0 i c.k9.length) (fun h2=> ?_) (fun h2=> ?_)
 .have h3:=A9 h2
  have e1:F0 (i:Int) 0=false:=by simp [y3]
  have e2:ah (c.k9.length:Int) i=false:=by simp [s9];omega
  have hit:De c i=true:=by rw [Df,e1,e2,hv];rfl
  have hcl:=hc8 i (by omega);have HY:(tu c i).length<=8:=by have:=tv (nth c.k9 (i:Int).toNat).p8 (nth c.k9 (i:Int).toNat).p8.length;simp at this;unfold tu;simp;omega
  have p1:=aH6 c hs i hit;have p2:=aJ0 c fl i (nth c.k9 i).p8.length (tu c i) (by omega) (by omega) (by omega);unfold HC at p2;refine gr ?_;refine tb (s8 (nth c.k9 i).erase 1) (fun h4=> ?_) (fun h4=> ?_)
  .repeat' (first|refine cl (p1) ?_|refine c0 p2 rfl (h2:= ?_)|refine gx ?_|fail)
   have htl:=tR i (nth c.k9 i).p8.length (tu c i);have h64:(tu c i).length * (nth c.k9 i).p8.length<=8 * 8:=Nat.mul_le_mul HY hcl;exact ⟨k - 1,by omega,_,_,L5 (j5 rfl) (j5 rfl),i+1,fl++tQ i (nth c.k9 i).p8.length (tu c i),rfl,rfl,by omega,by rw [hfl,vP,h4];simp,by rw [o8];omega⟩
  .refine gr ?_
   exact ⟨k - 1,by omega,_,_,L5 (j5 rfl) (j5 rfl),i+1,fl,rfl,rfl,by omega,by rw [hfl,vP,h4];simp,by omega⟩
 have h3:=B8 h2;obtain rfl:i=c.k9.length:=by omega
 refine gr ?_;refine Ex.T7 (fun k T H=>∃ (i:Nat) (fs:List C5),T=[.any,.ptr 0 0,.any,.ptr 1 0,.any,.any,.any,.any,.any,.any,.any,.d (z8 Vw.enc c.views),.d (num c.views.length),.d (num i)]/\H=[.cells (c.enc.map .d),.cells [C4 5 C5.enc fs]]/\i+k=c.views.length/\fs=fl++vS c L R i/\fs.length<=512+i * 6000) ?_ (k:=c.views.length) ⟨0,fl,rfl,rfl,by simp,by simp [vS],by omega⟩;rintro k _ _ ⟨i,fs,rfl,rfl,hk,uU,bF9⟩;refine Ex.seq ?_;refine tb (F0 i c.views.length) (fun h4=> ?_) (fun h4=> ?_)
 .have h5:=A9 h4
  obtain ⟨ok,pl,pr,r0,len⟩:=hsr i (by omega);have hlen:=len ((c.k9.length:Int)+(i:Int));have p1:=aJ1 c fs (nth c.views i) ((c.k9.length:Int)+(i:Int)) (L i) (R i) ok (by omega) pl pr r0;unfold HC at p1
  repeat' (first|refine c0 p1 rfl (h2:= ?_)|refine gx ?_|fail)
  exact ⟨k - 1,by omega,_,_,L5 (j5 rfl) (j5 rfl),i+1,_,rfl,rfl,by omega,by rw [uU,vS,E8],by rw [o8];omega⟩
 have h5:=B8 h4;obtain rfl:i=c.views.length:=by omega
 rw [hfl] at uU;rw [<- uU]
 rcases Nat.eq_zero_or_pos fs.length with hz|hz
 .obtain rfl:=List.length_eq_zero_iff.1 hz
  refine gr ?_;refine Ex.fz (Tt (p:=1) (z:=5) (xs:=[]) rfl rfl) ?_;have p5:=ap5 (u0.cells (c.enc.map .d)) (bc7 _)
  repeat' (first|refine c0 (p5 _) rfl (h2:= ?_)|refine gx ?_|fail)
  exact ⟨_,rfl,rfl⟩
 refine gr ?_;refine Ex.fz (XY (p:=1) (z:=5) (n:=fs.length) (xs:=fs.flatMap C5.enc) rfl rfl (by omega) rfl rfl (HE (fun _=>rfl) _)) ?_;obtain ⟨zs,p5⟩:=aJ2 (u0.cells (c.enc.map .d)).forget (Fi _) (C9 [(u0.cells (c.enc.map .d)).forget,.cells [.A8 2 5 0 fs.length],.cells (J9 fs)] 0 3) fs (by omega) hz;have hcl:E9 [(u0.cells (c.enc.map .d)).forget,.cells [.A8 2 5 0 fs.length],.cells (J9 fs)] 0 8 2=3:=by
  have h:=az0 (o0:=(u0.cells (c.enc.map .d)).forget) (n:=fs.length) (Fi _) fs;exact h
 have pN:=EO (o0:=(u0.cells (c.enc.map .d)).forget) (o1:= .cells [.A8 2 5 0 fs.length]) (Fi _) (o5 _) fs 0;show Ex A S8 0 _ ⟨[.any,.ptr 0 0,.any,.ptr 1 0,.any,.any,.any,.any,.any,.any,.any,_,_,_],[(u0.cells (c.enc.map .d)).forget,.cells [.A8 2 5 0 fs.length],.cells (J9 fs)]⟩ _
 repeat' (first|refine c0 (pN:=pN) (hcl:=hcl) p5 rfl (h2:= ?_)|refine gx ?_|fail)
 exact ⟨_,az4 rfl rfl (by have:=zv (bY fs) fs.length;omega),rfl⟩
end Go.Proofs.YtibjocmpkoepoaaGreat


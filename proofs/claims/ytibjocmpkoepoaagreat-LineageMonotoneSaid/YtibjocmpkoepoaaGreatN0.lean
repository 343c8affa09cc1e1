import Derived.Test.YtibjocmpkoepoaaGreatX0
set_option linter.all false
open Bool renaming and_eq_true → c9, not_eq_true' → o8, false_eq_true → j5
open List renaming append_assoc → A9, cons_append → B7, drop_of_length_le → n5, length_append → n9, length_cons → q6, length_map → A1, length_nil → B0, map_cons → E0, mem_map → L6, mem_singleton → s6, nil_append → B9, replicate → j4, set_cons_succ → y6, set_cons_zero → C4, take_of_length_le → A8
open Nat renaming le_of_ble_eq_true → k9, le_refl → o5, mul_le_mul_right → M3, zero_le → N6
namespace Go.Proofs.YtibjocmpkoepoaaGreat
open Go.Abs Go.Abs.S
attribute [local irreducible] Rx Ry Rn Ex Pf
def Y7 (p:K5):List Abs.Data:=[num p.1,num p.2]
def T6 (l:List K5):Abs.Data:=A5 Y7 l
def plA (s:Int):Nat->List K5
 |0=>[]
 |n+1=>plA s n++[(s,(n:Int))]
theorem Fo (s:Int):∀ n,(plA s n).length=n
 |0=>rfl
 |n+1=>by simp [plA,Fo s n]
def aa1 (c:y4)(hs:Q2 c)(name:L0)(h:bJ c (dY c name)=true)(hl:(R3 c (dY c name).toNat).length<=2000):Pf A 159 [cat c,.d (.str name)] (.d (T6 (plA (dY c name) (R3 c (dY c name).toNat).length))):=by
 have p1:=aY1 c hs name;have p2:=aa2 c hs _ h;obtain ⟨s,hs0⟩:∃ s,dY c name=s:=⟨_,rfl⟩;rw [hs0] at p1 p2 hl ⊢;obtain ⟨ty,xU⟩:∃ ty,R3 c s.toNat=ty:=⟨_,rfl⟩;rw [xU] at p2 hl ⊢;refine Pf.run [cat c,.d (.str name),.any,.any,.any,.any,.any,.any,.any] rfl rfl rfl rfl ?_
 repeat' (first|refine cl (p1) ?_|refine cl (p2) ?_|refine gx ?_|fail)
 refine Ex.N5 (fun k T H=>∃ (i:Nat) (acc:List K5) (w0 w1 w2 w3 w6:j3),T=[w0,w1,w2,w3,.d (num s),C9 2 Y7 acc,w6,.d (num ty.length),.d (num i)]/\H=[.cells (c.enc.map .d)]/\i+k=ty.length/\acc=plA s i) (by rintro _ _ _ ⟨_,_,_,_,_,_,_,rfl,rfl,_⟩;rfl) ?_ (k:=ty.length) ⟨0,[],_,_,_,_,_,rfl,rfl,by simp,rfl⟩;rintro k _ _ ⟨i,acc,w0,w1,w2,w3,w6,rfl,rfl,hk,hacc⟩;have zD:acc.length<=10000:=by rw [hacc,Fo];omega
 refine Ex.nT ?_;refine Ex.seq ?_;refine tb (F3 i ty.length) (fun h2=> ?_) (fun h2=> ?_)
 .have h3:=C6 h2
  repeat' (first|refine uw (cs:=(Y7 (s,(i:Int))).map .d) ?_|refine oN (enc:=Y7) (s,(i:Int)) ?_|refine apN (ys:=[(s,(i:Int))]) (h2:= ?_)|refine gx ?_|fail)
  exact ⟨k - 1,by omega,i+1,acc++[(s,(i:Int))],_,_,_,_,_,rfl,rfl,by omega,by rw [hacc];rfl⟩
 .have h3:=C5 h2
  have h4:i=ty.length:=by omega
  subst h4;refine gr ?_;exact ⟨_,rfl,by rw [hacc];simp [j9,T6,A5]⟩
def jq (e:List Y4):Nat->List Int
 |0=>[]
 |i+1=>jq e i++(if u0 (nth e i).op 2 then [(nth e i).col] else [])
theorem uH (e:List Y4):∀ i,(jq e i).length<=i
 |0=>o5 _
 |i+1=>by
  have:=uH e i;simp only [jq,n9];split<;>simp<;>omega
def Xm {e:List Y4}{i:Nat}(h:u0 (nth e i).op 2=true):jq e (i+1)=jq e i++[(nth e i).col]:=by simp only [jq,h,if_true]
def Xl {e:List Y4}{i:Nat}(h:u0 (nth e i).op 2=false):jq e (i+1)=jq e i:=by simp [jq,h]
theorem Db {e:List Y4}{x:Int}:∀ i,i<=e.length->x ∈ jq e i->∃ t ∈ e,u0 t.op 2=true/\t.col=x
 |0,_,h=>by cases h
 |i+1,hi,h=>by
  simp only [jq,List.mem_append] at h
  rcases h with h|h
  .exact Db i (by omega) h
  .split at h
   .rename_i h1
    simp only [s6] at h;exact ⟨_,S3 (by omega),h1,h.symm⟩
   .cases h
def jo (e:List Y4):List Int:=aU (cu (jq e e.length))
def QT {e:List Y4}{x:Int}(h:x ∈ jo e):∃ t ∈ e,u0 t.op 2=true/\t.col=x:=by
 rw [jo,HO,Dc] at h;exact Db _ (o5 _) h
def Cz (e:List Y4):(jo e).length<=e.length:=by
 have h1:=sK (cu (jq e e.length));have h2:=uH e e.length;rw [pU] at h1;unfold jo;omega
def HI (xs:List Int):q8:=[.cells (xs.map iv)]
def lI:F2:=⟨0,0,1,1⟩
def RZ (xs:List Int):R7 (HI xs)=0:=by
 simp only [HI,R7,x9.L7,KR];rfl
def Xb (xs:List Int):T5 (HI xs) 0=true:=by
 simp only [HI,T5,x9.L7,KR];rfl
section
variable {b:Nat} {l6 ops:List p9} {T:List j3} {n:Nat} {rl:List j3} {p6:List Abs.Touch} {Q:List j3->q8->List j3->Prop}
def c0I {xs ys:List Int}{f:FuncId}{os:List u9}{u:List Nat}{v:j3}{args:List j3}(hc:Pm A f args (HI xs) lI v (HI ys))(h2:Ry A Y8 b false l6 ops T (HI ys) (n+1) (v::rl) (.below 1::p6) Q)
  (ha:os.map (rq T n rl)=args:=by rfl) (hb:B8 args=1:=by rfl) (gI:A.prom f=false:=by rfl) (hm:A.mode f=0:=by rfl):Ry A Y8 b false l6 (⟨.call f os,none,none,u⟩::ops) T (HI xs) n rl p6 Q:=by
 refine c0 hc rfl (m:=1) ?_ ?_ rfl rfl ?_ (fun h=>by cases h) ha gI hm rfl (HD:=[]) (H2:=HI ys) rfl h2
 .show R7 (HI xs)<=1
  rw [RZ];omega
 .rw [hb]
  exact iq (by show R7 (HI xs)<=1;rw [RZ];omega)
 .show F2.mk 0 0 1 (D8 _ 0 1)=lI
  have:D8 (HI xs) 0 1=1:=by
   unfold D8;rw [if_neg (by decide),if_pos (by show T5 (HI xs) 0=true;exact Xb xs)]
  rw [this];rfl
end
def ba1 (xs:List Int)(h:xs.length<=1000000):Pm A 263 [.B6 0 1 0 xs.length] (HI xs) lI (.tuple []) (HI (cu xs)):=Pm.eF rfl (Up rfl rfl rfl (Nat.ble_eq_true_of_le h))
def aZ9 (xs:List Int)(h:xs.length<=1000000):Pm A 134 [.B6 0 1 0 xs.length] (HI xs) lI (.B6 0 1 0 (aU xs).length) (HI (aU xs++j4 (xs.length - (aU xs).length) 0)):=Pm.eF rfl (Ie rfl rfl rfl (Nat.ble_eq_true_of_le h))
def ba0 (l:F2):Pm A 263 [.d (.slice 0 [])] [] l (.tuple []) []:=Pm.eF rfl rfl
def aZ8 (l:F2):Pm A 134 [.d (.slice 0 [])] [] l (.d (.slice 0 [])) []:=Pm.eF rfl rfl
def af1 {T:List j3}{H:q8}{ds zs:List Int}(hT:T[1]? =some (.B6 0 1 0 ds.length))(hH:H[0]? =some (.cells ((ds++zs).map iv)))(hl:ds.length<=900):iP a225 0 (some (.ret,⟨T,H⟩))=some (.d (ints ds),[]):=by
 have h1:rd H 0 0 (ds.length * 1)=some (ds.map iv):=by
  simp only [rd,hH];rw [if_pos (by simp)];simp
 have h2:=Th H 0 ds 999999 (by omega);have h3:=Ll ds;have h4:aR T H a225.results=some [.B6 0 1 0 ds.length]:=by
  show aR T H [.slot 1]=_
  simp only [aR,jR,hT]
 unfold iP;simp only [h4];show finish false 0 [.B6 0 1 0 ds.length] H=_
 simp only [finish,j5,if_false,j9,bH,Nat.not_lt_zero,h1,h2,SF];simp [j3.L7,ints,A5,h3]
def Uv (e:List Y4)(he:e.length<=800)(hv:ak e=false):Pf A 225 [aZ e] (.own 1 0 []):=by
 have p1:=Ut e (by omega);rw [hv] at p1;refine Pf.run [aZ e,.any,.any,.any,.any,.any,.any] rfl rfl rfl rfl ?_;refine gr ?_;refine tB (true) ?_ (fun h1=> ?_) (fun h1=> ?_)
 .repeat' (first|refine cl (p1) ?_|refine gx ?_|refine fk (h1:=fun hw=> ?_) (h2:=fun hw=> ?_)|refine U0 (h1:=fun hw=> ?_) (h2:=fun hw=> ?_)|refine ⟨rfl,rfl,_,rfl,?_⟩|refine ⟨rfl,rfl⟩|fail)
  all_goals exact cc
 .refine gr ?_
  exact ⟨_,rfl,rfl⟩
 .cases h1
set_option maxHeartbeats 8000000 in
def aa7 (e:List Y4)(he:e.length<=800)(hv:ak e=true):Pf A 225 [aZ e] (.d (ints (jo e))):=by
 have p1:=Ut e (by omega);rw [hv] at p1;refine Pf.run [aZ e,.any,.any,.any,.any,.any,.any] rfl rfl rfl rfl ?_;refine gr ?_;refine tB (false) ?_ (fun h1=> ?_) (fun h1=> ?_)
 .repeat' (first|refine cl (p1) ?_|refine gx ?_|refine fk (h1:=fun hw=> ?_) (h2:=fun hw=> ?_)|refine U0 (h1:=fun hw=> ?_) (h2:=fun hw=> ?_)|refine ⟨rfl,rfl,_,rfl,?_⟩|refine ⟨rfl,rfl⟩|fail)
  all_goals exact cc
 .cases h1
 refine gr ?_;refine Ex.X8 (fun k T H=>∃ (i:Nat) (acc:List Int),T=[.any,.any,C9 1 (fun n=>[num n]) acc,.any,aZ e,.d (num e.length),.d (num i)]/\H=[]/\i+k=e.length/\acc=jq e i) ?_ (k:=e.length) ⟨0,[],rfl,rfl,by simp,rfl⟩;rintro k _ _ ⟨i,acc,rfl,rfl,hk,hacc⟩;have zD:=uH e i;rw [<- hacc] at zD;refine Ex.seq ?_;refine tb (F3 i e.length) (fun h2=> ?_) (fun h2=> ?_)
 .have h3:=C6 h2
  refine gr ?_;refine tb (u0 (nth e i).op 2) (fun h4=> ?_) (fun h4=> ?_)
  .refine gr ?_
   refine ⟨k - 1,by omega,_,_,R8 (k9 rfl) (N6 _),i+1,acc++[(nth e i).col],rfl,rfl,by omega,by rw [hacc,Xm h4]⟩
  .refine gr ?_
   refine ⟨k - 1,by omega,_,_,R8 (k9 rfl) (N6 _),i+1,acc,rfl,rfl,by omega,by rw [hacc,Xl h4]⟩
 .have h3:=C5 h2
  obtain rfl:i=e.length:=by omega
  cases acc with
  |nil =>
   refine gr ?_;refine Ex.fz (Tj rfl) ?_
   repeat' (first|refine c0 (ba0 _) rfl (h2:= ?_)|refine c0 (aZ8 _) rfl (h2:= ?_)|refine gx ?_|fail)
   refine ⟨_,rfl,?_⟩;simp [jo,<- hacc,cu,aU,ints,A5,j9]
  |cons a r =>
   refine gr ?_;refine Ex.fz (Xx rfl (by simp) rfl rfl (GW (fun _=>rfl) _)) ?_;have e1:((a::r).flatMap fun n=>[num n]).map j3.d=(a::r).map iv:=by rw [Ll,List.map_map];rfl
   have vZ:=pU (a::r);have hlen:(a::r).length<=1000000:=by omega
   have pS:=ba1 (a::r) hlen;have pC:=aZ9 (cu (a::r)) (by rw [vZ];exact hlen);rw [vZ] at pC;have hdl:=sK (cu (a::r));simp only [R1,y6,C4,List.map_nil,B9,B0,e1];generalize (aZ e).forget=w;have eI:[x9.cells ((a::r).map iv)]=HI (a::r):=rfl;rw [eI]
   repeat' (first|refine c0I pS ?_|refine c0I pC ?_|refine gx ?_|fail)
   refine ⟨_,af1 rfl rfl (by omega),?_⟩;simp only [jo,<- hacc]
def aF2 (n:Nat)(h0:0<n)(h:n<=1000000)(l:F2):Pm A 226 [.P5,.d (num n)] [] l (.own 2 0 []) []:=by
 refine ⟨1,fun k hk=> ?_⟩;obtain ⟨k,rfl⟩:∃ j,k=j+1:=⟨k - 1,by omega⟩;have h1:A.eF 226=some (uX 2):=rfl;simp only [call,h1,uX,num];rw [if_pos (by omega)]
def jr (l:List K5):List Abs.Data:=[T6 l]
set_option maxHeartbeats 4000000 in
def aa3 (xss:List (List K5))(h0:xss.length<=100)(h1:∀ i,i<xss.length->(nth xss i).length<=10000)(hp:0<xss.flatten.length):Pf A 162 [.d (A5 jr xss)] (C9 2 Y7 xss.flatten):=by
 refine Pf.run [.d (A5 jr xss),.any,.any,.any,.any,.any,.any,.any,.any,.any,.any,.any] rfl rfl rfl rfl ?_;refine gr ?_;refine Ex.N5 (fun k T H=>∃ (i m:Nat) (w1 w3 w4 w5 w9 oE mM:j3),T=[.d (A5 jr xss),w1,.d (num m),w3,w4,w5,.d (A5 jr xss),.d (num xss.length),.d (num i),w9,oE,mM]/\H=[]/\i+k=xss.length/\m<=i * 10000/\xss.flatten.length=m+(xss.drop i).flatten.length) (by rintro _ _ _ ⟨_,_,_,_,_,_,_,_,_,_,rfl,_⟩;rfl) ?_ (k:=xss.length) ⟨0,0,_,_,_,_,_,_,_,rfl,rfl,by simp,by simp,by simp⟩;rintro k _ _ ⟨i,m,w1,w3,w4,w5,w9,oE,mM,rfl,rfl,hk,hm,hfl⟩;refine Ex.nT ?_;refine Ex.seq ?_;refine tb (F3 i xss.length) (fun h2=> ?_) (fun h2=> ?_)
 .have h3:=C6 h2
  have h4:=h1 i (by omega);have h5:m<=1000000:=by omega
  rw [D4 (by omega)] at hfl;refine gr ?_;refine tb (false) (fun h6=> ?_) (fun h6=> ?_)
  .cases h6
  refine gr ?_;exact ⟨k - 1,by omega,i+1,m+(nth xss i).length,_,_,_,_,_,_,_,rfl,rfl,by omega,by omega,by simp at hfl ⊢;omega⟩
 have h3:=C5 h2;have h5:m<=1000000:=by omega
 rw [n5 (by omega)] at hfl;have p1:=aF2 m (by simp only [List.flatten_nil,B0] at hfl;omega) h5;clear h2 hm hfl
 repeat' (first|refine c1 (p1 _) rfl ?_|refine gx ?_|fail)
 refine Ex.N5 (fun k T H=>∃ (i:Nat) (acc:List K5) (w0 w1 w2 w3 w5 w6 w7 w8:j3),T=[w0,w1,w2,w3,C9 2 Y7 acc,w5,w6,w7,w8,.d (A5 jr xss),.d (num xss.length),.d (num i)]/\H=[]/\i+k=xss.length/\acc.length<=i * 10000/\xss.flatten=acc++(xss.drop i).flatten) (by rintro _ _ _ ⟨_,_,_,_,_,_,_,_,_,_,_,rfl,_⟩;rfl) ?_ (k:=xss.length) ⟨0,[],_,_,_,_,_,_,_,_,rfl,rfl,by simp,by simp,by simp⟩;rintro k _ _ ⟨i,acc,w0,w1,w2,w3,w5,w6,w7,w8,rfl,rfl,hk,hl,hacc⟩;refine Ex.nT ?_;refine Ex.seq ?_;refine tb (F3 i xss.length) (fun h2=> ?_) (fun h2=> ?_)
 .have h6:=C6 h2
  have h7:=h1 i (by omega);rw [D4 (by omega)] at hacc;have h8:acc.length<=1000000:=by omega
  refine gr ?_;exact ⟨k - 1,by omega,i+1,acc++nth xss i,_,_,_,_,_,_,_,_,rfl,rfl,by omega,by simp;omega,by rw [hacc];simp⟩
 .have h6:=C5 h2
  rw [n5 (by omega)] at hacc
  repeat' (first|refine owS ?_|refine gx ?_|fail)
  exact ⟨_,rfl,by rw [hacc];simp [j9,C9]⟩
def sW (e:List Y4)(ps:List K5):List K5:=(jo e).map fun x=>nth ps x.toNat
def nO (e:List Y4)(ps:List K5):(sW e ps).length<=e.length:=by
 have:=Cz e;simp [sW];omega
def CA:jo []=[]:=rfl
set_option maxHeartbeats 8000000 in
def Us (e:List Y4)(l r:List K5)(he:e.length<=800)(hv:ak e=true\/e=[])(hl:l.length<=1000)(hr:r.length<=1000)(h0:0<l.length)(hc:∀ x,x ∈ jo e->0<=x/\x<(l++r).length) :
  Pf A 161 [aZ e,.d (T6 l),.d (T6 r)] (.d (T6 (sW e (l++r)))):=by
 have p1:∃ w,Pf A 225 [aZ e] w/\(w= .d (ints (jo e))\/∃ z,w= .own z 0 []/\ints (jo e)= .slice 0 []):=by
  rcases hv with hv|rfl
  .exact ⟨_,aa7 e he hv,.inl rfl⟩
  .exact ⟨_,Uv [] (by simp) (by simp [ak,y3]),.inr ⟨1,rfl,by rw [CA];rfl⟩⟩
 obtain ⟨w,p1,hw⟩:=p1;have p2:=aa3 [l,r] (by simp) (fun i hi=>by
  match i,hi with
  |0,_=>rw [J9 (by simp)];show l.length<=10000;omega
  |1,_=>rw [J9 (by simp)];show r.length<=10000;omega) (by simp;omega)
 have e2:[l,r].flatten=l++r:=by simp
 rw [e2] at p2;have hcl:=Cz e;obtain ⟨ps,hps⟩:∃ ps,l++r=ps:=⟨_,rfl⟩;have Ls:ps.length<=2000:=by rw [<- hps];simp;omega
 rw [hps] at p2 hc ⊢;unfold sW;obtain ⟨cs,hcs⟩:∃ cs,jo e=cs:=⟨_,rfl⟩;rw [hcs] at hw hcl hc ⊢;have hnl:cs.length<=1000:=by omega
 have run:∀ w:j3,(w= .d (ints cs)\/(w= .own 1 0 []/\cs=[]))->Pf A 225 [aZ e] w->Pf A 161 [aZ e,.d (T6 l),.d (T6 r)] (.d (T6 (cs.map fun x=>nth ps x.toNat))):=by
  rintro w (rfl|⟨rfl,rfl⟩) p1
  all_goals refine Pf.run [aZ e,.d (T6 l),.d (T6 r),.any,.any,.any,.any,.any,.any,.any] rfl rfl rfl rfl ?_
  .repeat' (first|refine cl (p2) ?_|refine clT p1 (h2:= ?_)|refine gx ?_|fail)
   refine Ex.N5 (fun k T H=>∃ (i:Nat) (acc:List K5) (w0 w1 w2 w3 w6:j3),T=[w0,w1,w2,w3,C9 2 Y7 ps,C9 2 Y7 acc,w6,.d (ints cs),.d (num cs.length),.d (num i)]/\H=[]/\i+k=cs.length/\acc=(cs.take i).map fun x=>nth ps x.toNat) (by rintro _ _ _ ⟨_,_,_,_,_,_,_,rfl,rfl,_⟩;rfl) ?_ (k:=cs.length) ⟨0,[],_,_,_,_,_,rfl,rfl,by simp,by simp⟩;rintro k _ _ ⟨i,acc,w0,w1,w2,w3,w6,rfl,rfl,hk,hacc⟩;have zD:acc.length<=10000:=by rw [hacc];simp;omega
   refine Ex.nT ?_;refine Ex.seq ?_;refine tb (F3 i cs.length) (fun h2=> ?_) (fun h2=> ?_)
   .have h3:=C6 h2
    have h4:=hc _ (S3 (l:=cs) (i:=i) (by omega))
    repeat' (first|refine oN (enc:=Y7) (nth ps (nth cs i).toNat) ?_|refine apN (ys:=[nth ps (nth cs i).toNat]) (h2:= ?_)|refine gx ?_|fail)
    exact ⟨k - 1,by omega,i+1,acc++[nth ps (nth cs i).toNat],_,_,_,_,_,rfl,rfl,by omega,by rw [hacc,K3 (by omega)];simp⟩
   .have h3:=C5 h2
    obtain rfl:i=cs.length:=by omega
    refine gr ?_;exact ⟨_,rfl,by rw [hacc];simp [j9,T6,A5]⟩
  .repeat' (first|refine cl (p2) ?_|refine aO3 p1 (h2:= ?_)|refine aW3 (h2:= ?_)|refine gx ?_|fail)
   refine Ex.N5 (fun k T H=>∃ (w0 w1 w2 w3 w4 w6 w7:j3),T=[w0,w1,w2,w3,w4,.own 2 0 [],w6,w7,.d (num 0),.d (num 0)]/\H=[]/\k=0) (by rintro _ _ _ ⟨_,_,_,_,_,_,_,rfl,rfl,_⟩;rfl) ?_ (k:=0) ⟨_,_,_,_,_,_,_,rfl,rfl,rfl⟩;rintro k _ _ ⟨w0,w1,w2,w3,w4,w6,w7,rfl,rfl,hk⟩;refine Ex.nT ?_;refine Ex.seq ?_;refine tb (F3 0 0) (fun h2=> ?_) (fun h2=> ?_)
   .have h3:=C6 h2
    omega
   .refine gr ?_
    exact ⟨_,rfl,by simp [j9,T6,A5]⟩
 rcases hw with rfl|⟨z,rfl,h⟩
 .exact run _ (.inl rfl) p1
 .have hz:cs=[]:=by
   cases cs with
   |nil=>rfl
   |cons a q=>simp [ints,A5] at h
  rcases hv with hv|rfl
  .exact run _ (.inl rfl) (by have:=aa7 e he hv;rw [hcs] at this;exact this)
  .exact run _ (.inr ⟨rfl,hz⟩) (Uv [] (by simp) (by simp [ak,y3]))
def HC (c:y4)(fl:List F1):q8:=[.cells (c.enc.map .d),.cells [C9 5 F1.enc fl]]
def ZK:F2:=⟨0,0,2,2⟩
def RV (p:K5):j3:= .agg [.d (num p.1),.d (num p.2)]
def zq (ps:List K5)(to:K5)(d:Bool):List F1:=ps.map fun p=>⟨p,to,d⟩
set_option maxHeartbeats 8000000 in
def Iq (c:y4)(fl:List F1)(ps:List K5)(to:K5)(d:Bool)(h:fl.length+ps.length<=1000000):Pm A 157 [.ptr 1 0,.d (T6 ps),RV to,.d (.bool d)] (HC c fl) ZK (.tuple []) (HC c (fl++zq ps to d)):=by
 have key:Pq A 157 [.ptr 1 0,.d (T6 ps),RV to,.d (.bool d)] (HC c fl) ZK fun v H1=>v= .tuple []/\H1=HC c (fl++zq ps to d):=by
  refine Pq.run (b:=2) [.ptr 1 0,.d (T6 ps),RV to,.d (.bool d),.any,.any,.any,.any,.any] rfl rfl rfl rfl rfl ?_;unfold HC RV;refine gr ?_;refine Ex.X8 (fun k T H=>∃ i:Nat,T=[.ptr 1 0,.any,.any,.d (.bool d),.ptr 2 0,.any,.d (T6 ps),.d (num ps.length),.d (num i)]/\H=[.cells (c.enc.map .d),.cells [C9 5 F1.enc (fl++zq (ps.take i) to d)],.cells [.d (num to.1),.d (num to.2)]]/\i+k=ps.length) ?_ (k:=ps.length) ⟨0,rfl,by simp [zq],by simp⟩;rintro k _ _ ⟨i,rfl,rfl,hk⟩;refine Ex.seq ?_;refine tb (F3 i ps.length) (fun h2=> ?_) (fun h2=> ?_)
  .have h3:=C6 h2
   have h4:(fl++zq (ps.take i) to d).length<=1000000:=by simp [zq];omega
   have hr:roomFor ((fl++zq (ps.take i) to d).length+1) 40=true:=by simp only [roomFor,decide_eq_true_eq];omega
   have h5:zq (ps.take (i+1)) to d=zq (ps.take i) to d++[⟨nth ps i,to,d⟩]:=by
    unfold zq;rw [K3 (by omega)];simp
   repeat' (first|refine uw (cs:=(F1.enc ⟨nth ps i,to,d⟩).map .d) ?_|refine oN (enc:=F1.enc) ⟨nth ps i,to,d⟩ ?_|refine acN (enc:=F1.enc) (xs:=fl++zq (ps.take i) to d) ⟨nth ps i,to,d⟩ hr (h2:= ?_)|refine soO (h2:= ?_)|refine gx ?_|fail)
   exact ⟨k - 1,by omega,_,_,R8 (k9 rfl) (k9 rfl),i+1,rfl,by rw [h5,<- A9];rfl,by omega⟩
  .have h3:=C5 h2
   obtain rfl:i=ps.length:=by omega
   refine gr ?_;exact ⟨_,_,rfl,rfl,by rw [List.take_length];rfl⟩
 obtain ⟨v,H1,⟨rfl,rfl⟩,h⟩:=key;exact h
def Cj (s p:Int):Nat->List F1
 |0=>[]
 |k+1=>Cj s p k++(if !u0 k p then zq [(s,p)] (s,(k:Int)) false else [])
theorem AR (s p:Int):∀ k,(Cj s p k).length<=k
 |0=>o5 _
 |k+1=>by
  have:=AR s p k;simp only [Cj,n9];split<;>simp [zq]<;>omega
def tM (s:Int)(n:Nat)(rY:List Int):List F1:=rY.flatMap fun p=>Cj s p n
theorem tN (s:Int)(n:Nat):∀ rY:List Int,(tM s n rY).length<=rY.length * n
 |[]=>by simp [tM]
 |p::rY=>by
  have h1:=tN s n rY;have h2:=AR s p n;simp only [tM,List.flatMap_cons,n9,q6,Nat.add_mul,Nat.one_mul] at h1 ⊢;omega
set_option maxHeartbeats 8000000 in
def aE5 (c:y4)(fl:List F1)(s:Int)(n:Nat)(rY:List Int)(hf:fl.length<=100000)(hn:n<=100)(hp:rY.length<=100) :
  Pm A 102 [.ptr 1 0,.d (num s),.d (num n),.d (ints rY)] (HC c fl) ZK (.tuple []) (HC c (fl++tM s n rY)):=by
 have key:Pq A 102 [.ptr 1 0,.d (num s),.d (num n),.d (ints rY)] (HC c fl) ZK fun v H1=>v= .tuple []/\H1=HC c (fl++tM s n rY):=by
  refine Pq.run (b:=2) [.ptr 1 0,.d (num s),.d (num n),.d (ints rY),.any,.any,.any,.any,.any,.any,.any] rfl rfl rfl rfl rfl ?_;refine gr ?_;refine Ex.N5 (fun k T H=>∃ (i:Nat) (w3 w4 w5 w9 oE:j3),T=[.ptr 1 0,.d (num s),.d (num n),w3,w4,w5,.d (ints rY),.d (num rY.length),.d (num i),w9,oE]/\H=HC c (fl++tM s n (rY.take i))/\i+k=rY.length) (by rintro _ _ _ ⟨_,_,_,_,_,_,rfl,rfl,_⟩;rfl) ?_ (k:=rY.length) ⟨0,_,_,_,_,_,rfl,by simp [tM],by simp⟩;rintro k _ _ ⟨i,w3,w4,w5,w9,oE,rfl,rfl,hk⟩;refine Ex.nT ?_;refine Ex.seq ?_;refine tb (F3 i rY.length) (fun h2=> ?_) (fun h2=> ?_)
  .have h3:=C6 h2
   have h4:=tN s n (rY.take i);have h5:(rY.take i).length * n<=100 * 100:=Nat.mul_le_mul (by simp;omega) hn;have h6:tM s n (rY.take (i+1))=tM s n (rY.take i)++Cj s (nth rY i) n:=by
    unfold tM;rw [K3 (by omega)];simp
   refine gr ?_;obtain ⟨p,hpe⟩:∃ p,nth rY i=p:=⟨_,rfl⟩;rw [hpe] at h6 ⊢;refine Ex.N5 (fun k T H=>∃ (j:Nat) (w3 w5:j3),T=[.ptr 1 0,.d (num s),.d (num n),w3,.d (num p),w5,.d (ints rY),.d (num rY.length),.d (num i),.d (num n),.d (num j)]/\H=HC c ((fl++tM s n (rY.take i))++Cj s p j)/\j+k=n) (by rintro _ _ _ ⟨_,_,_,rfl,rfl,_⟩;rfl) ?_ (k:=n) ⟨0,_,_,rfl,by simp [Cj],by simp⟩;rintro m _ _ ⟨j,w3,w5,rfl,rfl,hm⟩;refine Ex.nT ?_;refine Ex.seq ?_;refine tb (F3 j n) (fun g2=> ?_) (fun g2=> ?_)
   .have g3:=C6 g2
    have g4:=AR s p j;refine gr ?_;refine tb (!u0 j p) (fun g5=> ?_) (fun g5=> ?_)
    .have pa:=Iq c ((fl++tM s n (rY.take i))++Cj s p j) [(s,p)] (s,(j:Int)) false (by simp only [n9,List.length_singleton];omega)
     repeat' (first|refine uw (cs:=(Y7 (s,p)).map .d) ?_|refine uw (cs:=(Y7 (s,(j:Int))).map .d) ?_|refine oN (enc:=Y7) (s,p) ?_|refine c0 pa rfl (h2:= ?_)|refine gx ?_|fail)
     exact ⟨m - 1,by omega,j+1,_,_,rfl,by simp only [Cj,g5,if_true,A9];rfl,by omega⟩
    .refine gr ?_
     exact ⟨m - 1,by omega,j+1,_,_,rfl,by simp only [Cj,g5,j5,if_false,List.append_nil],by omega⟩
   .have g3:=C5 g2
    obtain rfl:j=n:=by omega
    refine gr ?_;exact ⟨k - 1,by omega,i+1,_,_,_,_,_,rfl,by rw [h6,A9],by omega⟩
  .have h3:=C5 h2
   obtain rfl:i=rY.length:=by omega
   refine gr ?_;exact ⟨_,_,rfl,rfl,by rw [List.take_length];rfl⟩
 obtain ⟨v,H1,⟨rfl,rfl⟩,h⟩:=key;exact h
def Bf (s:Int)(l r:List K5):Nat->List F1
 |0=>[]
 |k+1=>Bf s l r k++(zq [nth l k,nth r k] (s,(k:Int)) true++zq [nth l 0,nth r 0] (s,(k:Int)) false)
theorem Bh (s:Int)(l r:List K5):∀ k,(Bf s l r k).length=4 * k
 |0=>rfl
 |k+1=>by
  have:=Bh s l r k;simp only [Bf,n9,zq,A1,q6,B0];omega
set_option maxHeartbeats 8000000 in
def aE8 (c:y4)(fl:List F1)(s:Int)(l r:List K5)(hf:fl.length<=100000)(hl:l.length<=100)(hr:l.length<=r.length) :
  Pm A 160 [.ptr 1 0,.d (num s),.d (T6 l),.d (T6 r)] (HC c fl) ZK (.tuple []) (HC c (fl++Bf s l r l.length)):=by
 have key:Pq A 160 [.ptr 1 0,.d (num s),.d (T6 l),.d (T6 r)] (HC c fl) ZK fun v H1=>v= .tuple []/\H1=HC c (fl++Bf s l r l.length):=by
  refine Pq.run (b:=2) [.ptr 1 0,.d (num s),.d (T6 l),.d (T6 r),.any,.any,.any,.any] rfl rfl rfl rfl rfl ?_;refine gr ?_;refine Ex.X8 (fun k T H=>∃ i:Nat,T=[.ptr 1 0,.d (num s),.d (T6 l),.d (T6 r),.any,.any,.d (num l.length),.d (num i)]/\H=HC c (fl++Bf s l r i)/\i+k=l.length) ?_ (k:=l.length) ⟨0,rfl,by simp [Bf],by simp⟩;rintro k _ _ ⟨i,rfl,rfl,hk⟩;have hul:=Bh s l r i;refine Ex.seq ?_;refine tb (F3 i l.length) (fun h2=> ?_) (fun h2=> ?_)
  .have h3:=C6 h2
   have p1:=Iq c (fl++Bf s l r i) [nth l i,nth r i] (s,(i:Int)) true (by simp only [n9,q6,B0];omega);have p2:=Iq c ((fl++Bf s l r i)++zq [nth l i,nth r i] (s,(i:Int)) true) [nth l 0,nth r 0] (s,(i:Int)) false (by simp only [n9,q6,B0,zq,A1];omega);unfold HC RV at *
   repeat' (first|refine uw (cs:=(Y7 (s,(i:Int))).map .d) ?_|refine bsv (Y7 (nth l i)++Y7 (nth r i)) ?_|refine c0 p1 rfl (h2:= ?_)|refine bsv (Y7 (nth l 0)++Y7 (nth r 0)) ?_|refine c0 p2 rfl (h2:= ?_)|refine ixZ (h2:= ?_)|refine gx ?_|fail)
   exact ⟨k - 1,by omega,_,_,R8 (k9 rfl) (k9 rfl),i+1,rfl,by simp only [Bf,<- A9];rfl,by omega⟩
  .have h3:=C5 h2
   obtain rfl:i=l.length:=by omega
   refine gr ?_;exact ⟨_,_,rfl,rfl,rfl⟩
 obtain ⟨v,H1,⟨rfl,rfl⟩,h⟩:=key;exact h
structure Eg (e:List Y4)(n:Nat):Prop where
 len:e.length<=64
 ok:ak e=true\/e=[]
 col:∀ x,x ∈ jo e->0<=x/\x<n
def qj (v:Vw)(ps:List K5)(i:Nat):List (List K5):=(v.items.take i).map fun x=>sW x.expr ps
def KZ (v:Vw)(ps:List K5)(i:Nat):List (List K5):=(v.D2.take i).map fun x=>sW x.expr ps
def EE (v:Vw)(ps:List K5):List (List K5):=qj v ps v.items.length++KZ v ps v.D2.length
def onP (v:Vw)(L R:List K5)(i:Nat):List K5:=(v.on.take i).flatMap fun p=>[nth L p.1.toNat,nth R p.2.toNat]
def SA (v:Vw)(L R:List K5):List K5:=sW v.wh (L++R)++[nth L 0]++(if F3 0 R.length then [nth R 0] else [])++onP v L R v.on.length++(if u0 v.kind 1||v.distinct then (qj v (L++R) v.items.length).flatten else [])
def Fj (s:Int)(ds:List (List K5))(cs:List K5):Nat->List F1
 |0=>[]
 |k+1=>Fj s ds cs k++(zq (nth ds k) (s,(k:Int)) true++zq cs (s,(k:Int)) false)
def tQ (s:Int)(v:Vw)(L R:List K5):List F1:=if u0 v.kind 2 then Bf s L R L.length else Fj s (EE v (L++R)) (SA v L R) (EE v (L++R)).length
structure Sd (v:Vw)(L R:List K5):Prop where
 l0:0<L.length
 l8:L.length<=8
 r8:R.length<=8
 p8:v.items.length+v.D2.length<=8
 on8:v.on.length<=8
 on:∀ i,i<v.on.length->0<=(nth v.on i).1/\(nth v.on i).1<L.length/\0<=(nth v.on i).2/\(nth v.on i).2<R.length
 wh:Eg v.wh (L++R).length
 it:∀ i,i<v.items.length->Eg (nth v.items i).expr (L++R).length
 ag:∀ i,i<v.D2.length->Eg (nth v.D2 i).expr (L++R).length
 un:u0 v.kind 2=true->L.length<=R.length
def Fi (v:Vw)(L R:List K5)(i:Nat):(onP v L R i).length<=2 * v.on.length:=by
 have:∀ l:List (Int×Int),(l.flatMap fun p=>[nth L p.1.toNat,nth R p.2.toNat]).length=2 * l.length:=by
  intro l
  induction l with
  |nil=>rfl
  |cons a l ih=>simp only [List.flatMap_cons,n9,ih,q6,B0];omega
 unfold onP;rw [this,List.length_take];omega
def rH {D:List (List K5)}(h:∀ d,d ∈ D->d.length<=64):D.flatten.length<=64 * D.length:=by
 induction D with
 |nil=>simp
 |cons a l ih =>
  have:=h a (by simp);have:=ih fun d hd=>h d (by simp [hd])
  simp only [List.flatten_cons,n9,q6];omega
theorem Ai (s:Int)(ds:List (List K5))(cs:List K5)(h:∀ i,i<ds.length->(nth ds i).length<=64):∀ i,i<=ds.length->(Fj s ds cs i).length<=i * (64+cs.length)
 |0,_=>by simp [Fj]
 |k+1,hk=>by
  have h1:=Ai s ds cs h k (by omega);have h2:=h k (by omega);simp only [Fj,n9,zq,A1,Nat.succ_mul];omega
def yZ {v:Vw}{ps:List K5}(hi:∀ i,i<v.items.length->Eg (nth v.items i).expr ps.length)(ha:∀ i,i<v.D2.length->Eg (nth v.D2 i).expr ps.length):∀ d,d ∈ EE v ps->d.length<=64:=by
 intro d hd;simp only [EE,qj,KZ,List.mem_append,L6] at hd
 rcases hd with ⟨x,hx,rfl⟩|⟨x,hx,rfl⟩
 .obtain ⟨q,hq,rfl⟩:=List.getElem_of_mem (List.mem_of_mem_take hx)
  have h1:=(hi q hq).len;rw [J9 hq] at h1;have:=nO v.items[q].expr ps;omega
 .obtain ⟨q,hq,rfl⟩:=List.getElem_of_mem (List.mem_of_mem_take hx)
  have h1:=(ha q hq).len;rw [J9 hq] at h1;have:=nO v.D2[q].expr ps;omega
set_option maxHeartbeats 32000000 in
def aE6 (c:y4)(fl:List F1)(v:Vw)(s:Int)(L R:List K5)(h:Sd v L R)(hf:fl.length<=100000)(pl:Pf A 159 [cat c,.d (.str v.left)] (.d (T6 L)))(pr:L4 v.right []=false->Pf A 159 [cat c,.d (.str v.right)] (.d (T6 R)))(hr0:L4 v.right []=true->R=[]) :
  Pm A 104 [.ptr 1 0,cat c,.d (num s),vw' v] (HC c fl) ZK (.tuple []) (HC c (fl++tQ s v L R)):=by
 have key:Pq A 104 [.ptr 1 0,cat c,.d (num s),vw' v] (HC c fl) ZK fun r H1=>r= .tuple []/\H1=HC c (fl++tQ s v L R):=by
  obtain ⟨l0,l8,r8,p8,on8,on,wh,it,ag,un⟩:=h;have hlr:(L++R).length<=16:=by simp;omega
  have hb0:∀ w7:j3,(w7= .d (T6 R)\/∃ z,w7= .own z 0 []/\T6 R= .slice 0 [])->w7.L7=0:=by
   rintro _ (rfl|⟨_,rfl,_⟩)<;>rfl
  refine Pq.run (b:=2) [.ptr 1 0,cat c,.d (num s),vw' v,.any,.any,.any,.any,.any,.any,.any,.any,.any,.any,.any,.any,.any,.any,.any,.any,.any,.any,.any,.any,.any,.any,.any,.any,.any,.any,.any,.any] rfl rfl rfl rfl rfl ?_;unfold HC
  repeat' (first|refine Cv pl ?_|refine gx ?_|fail)
  refine Ex.MB (fun st=>∃ w7:j3,(w7= .d (T6 R)\/∃ z,w7= .own z 0 []/\T6 R= .slice 0 [])/\st=⟨[.ptr 1 0,cat c,.d (num s),vw' v,.ptr 2 0,.ptr 3 0,.d (T6 L),w7,.any,.any,.any,.any,.any,.any,.any,.any,.any,.any,.any,.any,.any,.any,.any,.any,.any,.any,.any,.any,.any,.any,.any,.any],[.cells (c.enc.map .d),.cells [C9 5 F1.enc fl],.cells (c.enc.map .d),.cells (v.enc.map .d)]⟩) ?_ ?_
  .skip
   refine tb (!L4 v.right []) (fun h=> ?_) (fun h=> ?_)
   .have pr:=pr (by simpa using h)
    repeat' (first|refine Cv pr ?_|refine gx ?_|fail)
    exact ⟨_,.inl rfl,rfl⟩
   .refine gr ?_
    exact ⟨_,.inr ⟨2,rfl,by rw [hr0 (by simpa using h)];rfl⟩,rfl⟩
  rintro _ ⟨w7,TD,rfl⟩;refine gr ?_;refine tb (u0 v.kind 2) (fun hk=> ?_) (fun hk=> ?_)
  .have p:=aE8 c fl s L R hf (by omega) (un hk)
   unfold HC at p
   repeat' (first|refine msv TD ?_|refine c0 p rfl (h2:= ?_)|refine gx ?_|fail)
   exact ⟨_,_,rfl,rfl,by rw [tQ,hk];rfl⟩
  refine gr ?_;refine Ex.X8 (fun k T H=>∃ i:Nat,T=[.ptr 1 0,.any,.d (num s),.any,.any,.ptr 3 0,.d (T6 L),w7,C9 1 jr (qj v (L++R) i),.any,.any,.any,.any,.any,.any,.any,.any,.d (A5 Gp.enc v.items),.d (num v.items.length),.d (num i),.any,.any,.any,.any,.any,.any,.any,.any,.any,.any,.any,.any]/\H=[.cells (c.enc.map .d),.cells [C9 5 F1.enc fl],.cells (c.enc.map .d),.cells (v.enc.map .d)]/\i+k=v.items.length) ?_ (k:=v.items.length) ⟨0,rfl,rfl,by simp⟩;rintro k _ _ ⟨i,rfl,rfl,hk1⟩;have hdl:(qj v (L++R) i).length<=8:=by simp [qj];omega
  refine Ex.seq ?_;refine tb (F3 i v.items.length) (fun h2=> ?_) (fun h2=> ?_)
  .have h3:=C6 h2
   obtain ⟨e1,e2,e3⟩:=it i (by omega);have p1:=Us (nth v.items i).expr L R (by omega) e2 (by omega) (by omega) l0 e3;have e4:qj v (L++R) (i+1)=qj v (L++R) i++[sW (nth v.items i).expr (L++R)]:=by
    unfold qj;rw [K3 (by omega)];simp
   repeat' (first|refine msv TD ?_|refine Cv p1 ?_|refine gx ?_|fail)
   exact ⟨k - 1,by omega,_,_,R8 (by rcases TD with rfl|⟨_,rfl,_⟩<;>exact k9 rfl) (k9 rfl),i+1,by rw [e4];rfl,rfl,by omega⟩
  have h3:=C5 h2;obtain rfl:i=v.items.length:=by omega
  have pw:=Us v.wh L R (by have:=wh.len;omega) wh.ok (by omega) (by omega) l0 wh.col;have QJ:=nO v.wh (L++R);have bw2:=wh.len;have Tq:L.take 1=[nth L 0]:=by
   cases L with
   |nil=>simp at l0
   |cons a q=>simp [nth]
  have pc:=aa3 [sW v.wh (L++R),L.take 1] (by simp) (fun i hi=>by
   match i,hi with
   |0,_=>rw [J9 (by simp)];show (sW v.wh (L++R)).length<=10000;omega
   |1,_=>rw [J9 (by simp)];show (L.take 1).length<=10000;simp;omega) (by simp;omega)
  have et:[sW v.wh (L++R),L.take 1].flatten=sW v.wh (L++R)++[nth L 0]:=by simp [Tq]
  rw [et] at pc;obtain ⟨C0,hC0⟩:∃ C0,sW v.wh (L++R)++[nth L 0]=C0:=⟨_,rfl⟩;have br8:C0.length<=65:=by rw [<- hC0];simp;omega
  rw [hC0] at pc;obtain ⟨D,hD⟩:∃ D,qj v (L++R) v.items.length=D:=⟨_,rfl⟩;have hDl:D.length=v.items.length:=by rw [<- hD];simp [qj]
  have af8:∀ d,d ∈ D->d.length<=64:=by
   intro d hd;rw [<- hD] at hd;simp only [qj,L6] at hd;obtain ⟨x,hx,rfl⟩:=hd;obtain ⟨q,hq,rfl⟩:=List.getElem_of_mem (List.mem_of_mem_take hx);have h1:=(it q hq).len;rw [J9 hq] at h1;have:=nO v.items[q].expr (L++R);omega
  rw [hD] at hdl ⊢
  repeat' (first|refine msv TD ?_|refine Cv pw ?_|refine cl (pc) ?_|refine gx ?_|fail)
  refine Ex.MB (fun st=>st=⟨[.ptr 1 0,.any,.d (num s),.any,.any,.ptr 3 0,.d (T6 L),w7,C9 1 jr D,.any,C9 2 Y7 (C0++(if F3 0 R.length then [nth R 0] else [])),.any,.any,.any,.any,.any,.any,.d (A5 Gp.enc v.items),.d (num v.items.length),.d (num v.items.length),.any,.any,.any,.any,.any,.any,.any,.any,.any,.any,.any,.any],[.cells (c.enc.map .d),.cells [C9 5 F1.enc fl],.cells (c.enc.map .d),.cells (v.enc.map .d)]⟩) ?_ ?_
  .skip
   refine tB (F3 0 R.length) ?_ (fun h=> ?_) (fun h=> ?_)
   .repeat' (first|refine msv TD ?_|refine gx ?_|refine fk (h1:=fun hw=> ?_) (h2:=fun hw=> ?_)|refine U0 (h1:=fun hw=> ?_) (h2:=fun hw=> ?_)|refine ⟨rfl,rfl,_,rfl,?_⟩|refine ⟨rfl,rfl⟩|fail)
    all_goals exact cc
   .have h3:=C6 h
    have h4:0<R.length:=by omega
    rw [h];simp only [if_true]
    repeat' (first|refine msv TD ?_|refine oN (enc:=Y7) (nth R 0) ?_|refine apN (ys:=[nth R 0]) (h2:= ?_)|refine gx ?_|fail)
    exact rfl
   .rw [h]
    simp only [j5,if_false,List.append_nil];refine gr ?_;exact rfl
  rintro _ rfl;obtain ⟨C1,hC1⟩:∃ C1,C0++(if F3 0 R.length then [nth R 0] else [])=C1:=⟨_,rfl⟩;have br9:C1.length<=66:=by rw [<- hC1];split<;>simp<;>omega
  rw [hC1];refine gr ?_;refine Ex.X8 (fun k T H=>∃ (i:Nat) (acc:List K5),T=[.ptr 1 0,.any,.d (num s),.any,.any,.ptr 3 0,.d (T6 L),w7,C9 1 jr D,.any,C9 2 Y7 acc,.any,.any,.any,.any,.any,.any,.any,.any,.any,.d (A5 (fun p=>[num p.1,num p.2]) v.on),.d (num v.on.length),.d (num i),.any,.any,.any,.any,.any,.any,.any,.any,.any]/\H=[.cells (c.enc.map .d),.cells [C9 5 F1.enc fl],.cells (c.enc.map .d),.cells (v.enc.map .d)]/\i+k=v.on.length/\acc=C1++onP v L R i) ?_ (k:=v.on.length) ⟨0,C1,rfl,rfl,by simp,by simp [onP]⟩;rintro k _ _ ⟨i,acc,rfl,rfl,hk2,hacc⟩;refine Ex.seq ?_;refine tb (F3 i v.on.length) (fun h2=> ?_) (fun h2=> ?_)
  .have h3:=C6 h2
   obtain ⟨q1,q2,q3,q4⟩:=on i (by omega);have hol:=Fi v L R i;have zD:acc.length<=82:=by rw [hacc,n9];omega
   repeat' (first|refine msv TD ?_|refine bsv (Y7 (nth L (nth v.on i).1.toNat)++Y7 (nth R (nth v.on i).2.toNat)) ?_|refine apN (ys:=[nth L (nth v.on i).1.toNat,nth R (nth v.on i).2.toNat]) (h2:= ?_)|refine gx ?_|fail)
   exact ⟨k - 1,by omega,_,_,R8 (by rcases TD with rfl|⟨_,rfl,_⟩<;>exact k9 rfl) (k9 rfl),i+1,_,rfl,rfl,by omega,by rw [hacc];unfold onP;rw [K3 (by omega)];simp⟩
  have h3:=C5 h2;obtain rfl:i=v.on.length:=by omega
  obtain ⟨C2,hC2⟩:∃ C2,C1++onP v L R v.on.length=C2:=⟨_,rfl⟩;have bu0:=Fi v L R v.on.length;have bs0:C2.length<=82:=by rw [<- hC2];simp only [n9];omega
  rw [hC2] at hacc;rw [hacc];clear hacc acc;refine gr ?_;refine Ex.MB (fun st=>∃ Za Zb Zc Zd w24 w25:j3,(Za.L7=0/\Zb.L7=0/\Zc.L7=0/\Zd.L7=0/\w24.L7=0/\w25.L7=0)/\st=⟨[.ptr 1 0,.any,.d (num s),.any,.any,.ptr 3 0,.d (T6 L),w7,C9 1 jr D,.any,C9 2 Y7 (C2++(if u0 v.kind 1||v.distinct then D.flatten else [])),.any,.any,.any,.any,.any,.any,.any,.any,.any,Za,Zb,Zc,Zd,w24,w25,.any,.any,.any,.any,.any,.any],[.cells (c.enc.map .d),.cells [C9 5 F1.enc fl],.cells (c.enc.map .d),.cells (v.enc.map .d)]⟩) ?_ ?_
  .skip
   refine tb ((u0 v.kind 1||v.distinct)) (fun h=> ?_) (fun h=> ?_)
   .repeat' (first|refine moT (h2:= ?_)|refine gx ?_|fail)
    refine Ex.X8 (fun k T H=>∃ (i:Nat) (acc:List K5),T=[.ptr 1 0,.any,.d (num s),.any,.any,.ptr 3 0,.d (T6 L),w7,C9 1 jr D,.any,C9 2 Y7 acc,.any,.any,.any,.any,.any,.any,.any,.any,.any,.any,.any,.any,.d (A5 jr D),.d (num D.length),.d (num i),.any,.any,.any,.any,.any,.any]/\H=[.cells (c.enc.map .d),.cells [C9 5 F1.enc fl],.cells (c.enc.map .d),.cells (v.enc.map .d)]/\i+k=D.length/\acc=C2++(D.take i).flatten) ?_ (k:=D.length) ⟨0,C2,rfl,rfl,by simp,by simp⟩;rintro k _ _ ⟨i,acc,rfl,rfl,hk3,hacc⟩;refine Ex.seq ?_;refine tb (F3 i D.length) (fun h2=> ?_) (fun h2=> ?_)
    .have h3:=C6 h2
     have h4:=af8 (nth D i) (S3 (by omega));have h5:=rH (D:=D.take i) fun d hd=>af8 d (List.mem_of_mem_take hd)
     have h6:(D.take i).length<=8:=by rw [List.length_take];omega
     have zD:acc.length<=600:=by rw [hacc,n9];omega
     refine gr ?_;exact ⟨k - 1,by omega,_,_,R8 (by rcases TD with rfl|⟨_,rfl,_⟩<;>exact k9 rfl) (k9 rfl),i+1,acc++nth D i,rfl,rfl,by omega,by rw [hacc,K3 (by omega)];simp⟩
    have h3:=C5 h2;obtain rfl:i=D.length:=by omega
    have ha:acc=C2++(if u0 v.kind 1||v.distinct then D.flatten else []):=by rw [hacc,h];simp
    rw [<- ha];refine gr ?_;exact ⟨.any,.any,.any,.d (A5 jr D),.d (num D.length),.d (num D.length),⟨rfl,rfl,rfl,rfl,rfl,rfl⟩,rfl⟩
   .rw [h]
    simp only [j5,if_false,List.append_nil];refine gr ?_;exact ⟨.d (A5 (fun p=>[num p.1,num p.2]) v.on),.d (num v.on.length),.d (num v.on.length),.any,.any,.any,⟨rfl,rfl,rfl,rfl,rfl,rfl⟩,rfl⟩
  rintro _ ⟨Za,Zb,Zc,Zd,w24,w25,hb,rfl⟩;obtain ⟨C3,hC3⟩:∃ C3,C2++(if u0 v.kind 1||v.distinct then D.flatten else [])=C3:=⟨_,rfl⟩;have bs1:C3.length<=600:=by
   have:=rH af8;rw [<- hC3];simp only [n9];split<;>(try simp only [B0])<;>omega
  rw [hC3];refine gr ?_;refine Ex.X8 (fun k T H=>∃ (i:Nat) (acc:List (List K5)),T=[.ptr 1 0,.any,.d (num s),.any,.any,.any,.d (T6 L),w7,C9 1 jr acc,.any,C9 2 Y7 C3,.any,.any,.any,.any,.any,.any,.any,.any,.any,.any,.any,.any,.any,.any,.any,.d (A5 BM.enc v.D2),.d (num v.D2.length),.d (num i),.any,.any,.any]/\H=[.cells (c.enc.map .d),.cells [C9 5 F1.enc fl],.cells (c.enc.map .d),.cells (v.enc.map .d)]/\i+k=v.D2.length/\acc=D++KZ v (L++R) i) ?_ (k:=v.D2.length) ⟨0,D,rfl,rfl,by simp,by simp [KZ]⟩;rintro k _ _ ⟨i,acc,rfl,rfl,hk4,hacc⟩;have zD:acc.length<=8:=by rw [hacc];simp [KZ];omega
  refine Ex.seq ?_;refine tb (F3 i v.D2.length) (fun h2=> ?_) (fun h2=> ?_)
  .have h3:=C6 h2
   obtain ⟨e1,e2,e3⟩:=ag i (by omega);have p1:=Us (nth v.D2 i).expr L R (by omega) e2 (by omega) (by omega) l0 e3
   repeat' (first|refine msv TD ?_|refine Cv p1 ?_|refine gx ?_|fail)
   exact ⟨k - 1,by omega,_,_,R8 (by rcases TD with rfl|⟨_,rfl,_⟩<;>exact k9 rfl) (k9 rfl),i+1,acc++[sW (nth v.D2 i).expr (L++R)],rfl,rfl,by omega,by rw [hacc];unfold KZ;rw [K3 (by omega)];simp⟩
  have h3:=C5 h2;obtain rfl:i=v.D2.length:=by omega
  obtain ⟨DV,hDV⟩:∃ DV,EE v (L++R)=DV:=⟨_,rfl⟩;have hacc:acc=DV:=by rw [hacc,<- hDV,<- hD];rfl
  subst hacc;have ag8:∀ i,i<acc.length->(nth acc i).length<=64:=by
   intro i hi;refine yZ it ag _ ?_;rw [hDV];exact S3 hi
  have rK:tQ s v L R=Fj s acc C3 acc.length:=by
   unfold tQ;rw [hk,hDV,<- hC3,<- hC2,<- hC1,<- hC0,<- hD];rfl
  rw [rK]
  repeat' (first|refine moT (h2:= ?_)|refine gx ?_|fail)
  refine Ex.X8 (fun k T H=>∃ (i:Nat) (fs:List F1),T=[.ptr 1 0,.any,.d (num s),.any,.any,.any,.any,.any,.any,.any,C9 2 Y7 C3,.any,.any,.any,.any,.any,.any,.any,.any,.any,.any,.any,.any,.any,.any,.any,.any,.any,.any,.d (A5 jr acc),.d (num acc.length),.d (num i)]/\H=[.cells (c.enc.map .d),.cells [C9 5 F1.enc fs],.cells (c.enc.map .d),.cells (v.enc.map .d)]/\i+k=acc.length/\fs=fl++Fj s acc C3 i) ?_ (k:=acc.length) ⟨0,fl,rfl,rfl,by simp,by simp [Fj]⟩;rintro k _ _ ⟨i,fs,rfl,rfl,hk5,CJ⟩;refine Ex.seq ?_;refine tb (F3 i acc.length) (fun h2=> ?_) (fun h2=> ?_)
  .have h3:=C6 h2
   have hol:=Ai s acc C3 ag8 i (by omega);have p1:=Iq c fs (nth acc i) (s,(i:Int)) true (by have:=ag8 i (by omega);rw [CJ];simp only [n9];have:i * (64+C3.length)<=8 * (64+C3.length):=M3 _ (by omega);omega);have p2:=Iq c (fs++zq (nth acc i) (s,(i:Int)) true) C3 (s,(i:Int)) false (by have:=ag8 i (by omega);rw [CJ];simp only [n9,zq,A1];have:i * (64+C3.length)<=8 * (64+C3.length):=M3 _ (by omega);omega);unfold HC RV at *
   repeat' (first|refine uw (cs:=(Y7 (s,(i:Int))).map .d) ?_|refine c0 p1 rfl (h2:= ?_)|refine c0 p2 rfl (h2:= ?_)|refine gx ?_|fail)
   exact ⟨k - 1,by omega,_,_,R8 (k9 rfl) (k9 rfl),i+1,_,rfl,rfl,by omega,by rw [CJ];simp only [Fj,A9]⟩
  have h3:=C5 h2;obtain rfl:i=acc.length:=by omega
  refine gr ?_;exact ⟨_,_,rfl,rfl,by rw [CJ];rfl⟩
 obtain ⟨r,H1,⟨rfl,rfl⟩,h⟩:=key;exact h
def flw (f:F1):j3:= .agg (f.enc.map .d)
def Ds (a b:F1):Bool:=(a.src.1==b.src.1&&(a.src.2==b.src.2&&true))&&(a.dst.1==b.dst.1&&(a.dst.2==b.dst.2&&true))
set_option maxHeartbeats 8000000 in
def ZN (a b:F1):Pf A 167 [flw a,flw b] (.d (.bool (Ds a b))):=by
 refine Pf.run [flw a,flw b,.any,.any,.any] rfl rfl rfl rfl ?_;simp only [flw,F1.enc,E0,List.map_nil]
 repeat' (first|refine WV rfl rfl ?_|refine gx ?_|refine fk (h1:=fun hw=> ?_) (h2:=fun hw=> ?_)|refine U0 (h1:=fun hw=> ?_) (h2:=fun hw=> ?_)|refine Ex.O6 ?_|refine Ex.O8 ?_|refine Ex.cond rfl (fun ht=> ?_) (fun ht=> ?_)|refine Ex.test (Rn.text ?_)|refine Ex.test (Rn.draw ?_)|refine ⟨_,rfl,fun ht=> ?_,fun ht=> ?_⟩|refine ⟨_,rfl,?_⟩|fail)
 .simp at hw
  simp [j9,Ds,hw]
 .simp at hw
  simp [j9,Ds];intro h1 h2;exact absurd h2 (hw h1)
def hU (xs:List F1):Nat->List F1
 |0=>[]
 |k+1=>hU xs k++(if decide (0<k)&&Ds (nth xs k) (nth xs (k - 1)) then [] else [nth xs k])
def V3 (l:List F1):List j3:=(l.flatMap F1.enc).map .d
theorem yH:∀ l:List Abs.Data,B8 (l.map .d)=0
 |[]=>rfl
 |a::l=>by simp [B8,j3.L7,yH l]
def Qh {o0 o1:x9}(h0:o0.L7<=3)(h1:o1.L7<=3)(ys:List F1)(st:Nat):R7 (([o0,o1,.cells (V3 ys)].take 3).drop st)<=3:=by
 have h2:(x9.cells (V3 ys)).L7<=3:=by simp only [x9.L7,V3,yH];omega
 match st with
 |0=>simp [R7];omega
 |1=>simp [R7];omega
 |2=>simp [R7];omega
 |_+3=>simp [R7]
def zF:List j3:=[.d (num 0),.d (num 0),.d (num 0),.d (num 0),.d (.bool false)]
theorem VM:∀ n:Nat,((j4 n zF).flatten).length=n * 5
 |0=>rfl
 |n+1=>by
  have:=VM n;rw [List.replicate_succ,List.flatten_cons,n9,this];simp [zF];omega
def aq1 (o0 o1:x9)(acc rest:List F1):wr [o0,o1,.cells (V3 (acc++rest))] 2 (0+acc.length * 5) ((j4 rest.length zF).flatten)=some [o0,o1,.cells (V3 acc++(j4 rest.length zF).flatten)]:=by
 have l1:∀ l:List F1,(V3 l).length=l.length * 5:=fun l=>by rw [V3,A1,bG (sz:=5) (fun _=>rfl)]
 have e:V3 (acc++rest)=V3 acc++V3 rest:=by simp [V3]
 have hz:=VM rest.length;simp only [wr,List.getElem?_cons_succ,List.getElem?_cons_zero,splice,e,Nat.zero_add];rw [if_pos (by simp only [n9,l1,hz];omega),<- l1 acc,List.take_left,n5 (by simp only [n9,l1,hz];omega)];simp
def Uh {acc xs:List F1}{q:Nat}(h1:acc.length<=q)(h2:q<xs.length):nth (acc++xs.drop acc.length) q=nth xs q:=by
 rw [J9 (by simp;omega),J9 h2,List.getElem_append_right h1,List.getElem_drop];have:acc.length+(q - acc.length)=q:=by omega
 simp [this]
set_option maxHeartbeats 16000000 in
def aF0 (o0 o1:x9)(h0:o0.L7<=3)(h1:o1.L7<=3)(st:Nat)(xs:List F1)(hn:xs.length<=1000000)(hp:0<xs.length) :
  ∃ zs,Pm A 166 [.B6 2 5 0 xs.length,.func 167 [] []] [o0,o1,.cells (V3 xs)] ⟨0,0,3,st⟩ (.B6 2 5 0 (hU xs xs.length).length) [o0,o1,.cells (V3 (hU xs xs.length)++zs)]:=by
 have key:Pq A 166 [.B6 2 5 0 xs.length,.func 167 [] []] [o0,o1,.cells (V3 xs)] ⟨0,0,3,st⟩ fun r H1=>∃ zs,r= .B6 2 5 0 (hU xs xs.length).length/\H1=[o0,o1,.cells (V3 (hU xs xs.length)++zs)]:=by
  have XK:∀ ys:List F1,R7 (([o0,o1,.cells (V3 ys)].take 3).drop st)<=3:=fun ys=>Qh h0 h1 ys st
  refine Pq.run (b:=3) [.B6 2 5 0 xs.length,.func 167 [] [],.any,.any,.any,.any] rfl rfl rfl rfl rfl ?_;refine gr ?_;refine tB (F3 xs.length 2) ?_ (fun h=> ?_) (fun h=> ?_)
  .repeat' (first|refine lnr ?_|refine gx ?_|refine fk (h1:=fun hw=> ?_) (h2:=fun hw=> ?_)|refine U0 (h1:=fun hw=> ?_) (h2:=fun hw=> ?_)|refine ⟨rfl,rfl,_,rfl,?_⟩|refine ⟨rfl,rfl⟩|fail)
   all_goals exact cc
  .have h3:=C6 h
   refine gr ?_;have e:hU xs xs.length=xs:=by
    match xs,hp,h3 with
    |[x],_,_=>simp [hU,nth]
    |_::_::_,_,h=>simp at h;omega
   exact ⟨_,_,rfl,[],by rw [e],by rw [e];simp [V3]⟩
  have h3:=C5 h;have i0:hU xs 1=xs.take 1:=by
   match xs,hp with
   |x::_,_=>simp [hU,nth]
  refine gr ?_;refine Ex.X8 (fun k T H=>∃ i:Nat,T=[.B6 2 5 0 xs.length,.func 167 [] [],.any,.d (num i),.any,.any]/\H=[o0,o1,.cells (V3 xs)]/\i+k=xs.length/\0<i/\hU xs i=xs.take i) ?_ (k:=xs.length - 1) ⟨1,rfl,rfl,by omega,by omega,i0⟩;rintro k _ _ ⟨i,rfl,rfl,hk,hi,hc⟩;refine Ex.seq ?_;refine tB (F3 i xs.length) ?_ (fun h2=> ?_) (fun h2=> ?_)
  .repeat' (first|refine lnr ?_|refine gx ?_|refine fk (h1:=fun hw=> ?_) (h2:=fun hw=> ?_)|refine U0 (h1:=fun hw=> ?_) (h2:=fun hw=> ?_)|refine ⟨rfl,rfl,_,rfl,?_⟩|refine ⟨rfl,rfl⟩|fail)
   all_goals exact cc
  .have h4:=C6 h2
   have r1:rd [o0,o1,.cells (V3 xs)] 2 (0+i * 5) 5=some ((nth xs i).enc.map .d):=Me (enc:=F1.enc) (fun _=>rfl) rfl (by omega);have r2:rd [o0,o1,.cells (V3 xs)] 2 (0+((i:Int) - 1).toNat * 5) 5=some ((nth xs (i - 1)).enc.map .d):=by
    rw [show ((i:Int) - 1).toNat=i - 1 by omega];exact Me (enc:=F1.enc) (fun _=>rfl) rfl (by omega)
   refine gr ?_;have BY:i<xs.length:=by omega
   have hio:0<=(i:Int) - 1/\(i:Int) - 1<xs.length:=by omega
   refine tB (Ds (nth xs i) (nth xs (i - 1))) ?_ (fun h5=> ?_) (fun h5=> ?_)
   .repeat' (first|refine WV r1 rfl ?_|refine WV r2 rfl ?_|refine av8 (ZN _ _) ?_|refine ixs BY ?_|refine ixo hio ?_|refine gx ?_|refine fk (h1:=fun hw=> ?_) (h2:=fun hw=> ?_)|refine U0 (h1:=fun hw=> ?_) (h2:=fun hw=> ?_)|refine ⟨rfl,rfl,_,rfl,?_⟩|refine ⟨rfl,rfl⟩|fail)
    exact rfl
   .repeat' (first|refine svr BY ?_|refine gx ?_|fail)
    have hli:(xs.take i).length=i:=by rw [List.length_take];omega
    have hc1:hU xs (i+1)=xs.take i:=by rw [hU,hc,h5];simp [hi]
    refine Ex.X8 (fun k2 T H=>∃ (j:Nat) (acc:List F1),T=[.B6 2 5 0 xs.length,.func 167 [] [],.any,.d (num acc.length),.B6 2 5 (0+i * 5) (xs.length - i),.d (num j)]/\H=[o0,o1,.cells (V3 (acc++xs.drop acc.length))]/\i+j+k2=xs.length/\0<j/\acc.length+1<=i+j/\0<acc.length/\acc=hU xs (i+j)) ?_ (k:=xs.length - i - 1) ⟨1,xs.take i,by rw [hli];rfl,by rw [hli,List.take_append_drop],by omega,by omega,by omega,by omega,hc1.symm⟩;rintro k2 _ _ ⟨j,acc,rfl,rfl,hk2,hj,bq8,aR0,hacc⟩;refine Ex.seq ?_;have Z9:acc.length<xs.length:=by omega
    have hdr:=D4 Z9;refine tB (F3 j (xs.length - i:Nat)) ?_ (fun h6=> ?_) (fun h6=> ?_)
    .repeat' (first|refine lnr ?_|refine gx ?_|refine fk (h1:=fun hw=> ?_) (h2:=fun hw=> ?_)|refine U0 (h1:=fun hw=> ?_) (h2:=fun hw=> ?_)|refine ⟨rfl,rfl,_,rfl,?_⟩|refine ⟨rfl,rfl⟩|fail)
     all_goals exact cc
    .have h7:=C6 h6
     have hjl:j<xs.length - i:=by omega
     have hjo:0<=(j:Int) - 1/\(j:Int) - 1<((xs.length - i:Nat):Int):=by omega
     have hx:∀ q,acc.length<=q->q<xs.length->rd [o0,o1,.cells (V3 (acc++xs.drop acc.length))] 2 (0+q * 5) 5=some ((nth xs q).enc.map .d):=by
      intro q h1 h2;rw [<- Uh h1 h2];exact Me (enc:=F1.enc) (fun _=>rfl) rfl (by simp;omega)
     have r3:=hx (i+j) (by omega) (by omega);rw [show 0+(i+j) * 5=0+i * 5+j * 5 by omega] at r3;have r4:=hx (i+j - 1) (by omega) (by omega);rw [show 0+(i+j - 1) * 5=0+i * 5+((j:Int) - 1).toNat * 5 by omega] at r4;refine gr ?_;refine tB (!Ds (nth xs (i+j)) (nth xs (i+j - 1))) ?_ (fun h8=> ?_) (fun h8=> ?_)
     .repeat' (first|refine WV r3 rfl ?_|refine WV r4 rfl ?_|refine av8 (ZN _ _) ?_|refine ixs hjl ?_|refine ixo hjo ?_|refine gx ?_|refine fk (h1:=fun hw=> ?_) (h2:=fun hw=> ?_)|refine U0 (h1:=fun hw=> ?_) (h2:=fun hw=> ?_)|refine ⟨rfl,rfl,_,rfl,?_⟩|refine ⟨rfl,rfl⟩|fail)
      exact rfl
     .have w1:wr [o0,o1,.cells (V3 (acc++xs.drop acc.length))] 2 (0+acc.length * 5) ((nth xs (i+j)).enc.map .d)=some [o0,o1,.cells (V3 (acc++nth xs (i+j)::xs.drop (acc.length+1)))]:=by
       rw [hdr];exact aq2 (enc:=F1.enc) (fun _=>rfl) rfl _
      have hb0:B8 ((nth xs (i+j)).enc.map .d)<=2+1:=by rw [yH];omega
      repeat' (first|refine WV r3 rfl ?_|refine ixs hjl ?_|refine ixs Z9 ?_|refine pY rfl ⟨rfl,rfl⟩ rfl rfl rfl hb0 w1 ?_|refine gx ?_|fail)
      have Tq:(acc++[nth xs (i+j)]).length=acc.length+1:=by simp
      exact ⟨k2 - 1,by omega,_,_,R8 (k9 rfl) (XK _),j+1,acc++[nth xs (i+j)],by rw [Tq];rfl,by rw [Tq,A9];rfl,by omega,by omega,by omega,by omega,by rw [<- Nat.add_assoc,hU,<- hacc];simp at h8;rw [h8];simp⟩
     .refine gr ?_
      exact ⟨k2 - 1,by omega,_,_,R8 (k9 rfl) (XK _),j+1,acc,rfl,rfl,by omega,by omega,by omega,by omega,by rw [<- Nat.add_assoc,hU,<- hacc];simp at h8;rw [h8];simp;omega⟩
    .have h7:=C5 h6
     have hij:i+j=xs.length:=by omega
     rw [hij] at hacc;rw [<- hacc];have w2:=aq1 o0 o1 acc (xs.drop acc.length);rw [List.length_drop] at w2
     repeat' (first|refine svr Z9 ?_|refine clS w2 ?_|refine svf (Nat.le_of_lt Z9) aR0 ?_|refine gx ?_|fail)
     exact ⟨_,_,rfl,_,rfl,rfl⟩
   .refine gr ?_
    exact ⟨k - 1,by omega,_,_,R8 (k9 rfl) (XK _),i+1,rfl,rfl,by omega,by omega,by rw [hU,hc,h5,K3 BY];simp⟩
  .have h4:=C5 h2
   obtain rfl:i=xs.length:=by omega
   rw [hc,List.take_length];refine gr ?_;exact ⟨_,_,rfl,[],rfl,by simp⟩
 obtain ⟨r,H1,⟨zs,rfl,rfl⟩,h⟩:=key;exact ⟨zs,h⟩
theorem zw:∀ l:List F1,nF (l.flatMap F1.enc)=some l
 |[]=>rfl
 |f::l=>by
  show nF ([num f.src.1,num f.src.2,num f.dst.1,num f.dst.2,.bool f.dat]++l.flatMap F1.enc)=_
  simp only [B7,B9,num,nF,zw l]
def aE9 (o0 o1:x9)(fl:List F1)(hn:fl.length<=1000000)(l:F2)(hm:l.may 2=true):Pm A 163 [.B6 2 5 0 fl.length,.func 164 [] []] [o0,o1,.cells (V3 fl)] l (.tuple []) [o0,o1,.cells (V3 (cL fl))]:=by
 refine ⟨1,fun k hk=> ?_⟩;obtain ⟨k,rfl⟩:∃ j,k=j+1:=⟨k - 1,by omega⟩;have h1:A.eF 163=some (uY 164):=rfl;have l1:∀ q:List F1,(V3 q).length=q.length * 5:=fun l=>by rw [V3,A1,bG (sz:=5) (fun _=>rfl)]
 have e1:rd [o0,o1,.cells (V3 fl)] 2 0 (fl.length * 5)=some (V3 fl):=by
  simp only [rd,List.getElem?_cons_succ,List.getElem?_cons_zero,l1,Nat.zero_add,o5,if_true,List.drop_zero];rw [A8 (by rw [l1];exact o5 _)]
 have e2:M5 (V3 fl)=some (fl.flatMap F1.enc):=cg _;have e3:wr [o0,o1,.cells (V3 fl)] 2 0 (V3 (cL fl))=some [o0,o1,.cells (V3 (cL fl))]:=by
  simp only [wr,List.getElem?_cons_succ,List.getElem?_cons_zero,l1,vm,Nat.zero_add,o5,if_true,splice,List.take_zero,B9];rw [n5 (by rw [l1];exact o5 _),List.append_nil];rfl
 simp only [call,h1,uY,hm,hn,and_self,if_true,e1,e2,zw];show (match wr [o0,o1,.cells (V3 fl)] 2 0 (V3 (cL fl)) with|some H1=>some (j3.tuple [],H1)|none=>none)=_
 rw [e3]
def av5 {o0 o1:x9}(h0:o0.L7<=3)(h1:o1.L7<=3)(ys:List F1)(st:Nat):E9 [o0,o1,.cells (V3 ys)] st 8 3=3:=by
 have:=Qh h0 h1 ys st;show E9 _ st (7+1) 3=3
 rw [E9];split
 .rfl
 .exact if_pos (Nat.max_eq_left this)
set_option maxHeartbeats 16000000 in
def aE7 (o0:x9)(h0:o0.L7<=3)(st:Nat)(fl:List F1)(hn:fl.length<=1000000)(hp:0<fl.length) :
  ∃ zs,Pm A 105 [.ptr 1 0] [o0,.cells [.B6 2 5 0 fl.length],.cells (V3 fl)] ⟨0,0,3,st⟩ (.B6 2 5 0 (hU (cL fl) fl.length).length) [o0,.cells [.B6 2 5 0 fl.length],.cells (V3 (hU (cL fl) fl.length)++zs)]:=by
 have h1:(x9.cells [.B6 2 5 0 fl.length]).L7<=3:=o5 _;have vZ:=vm fl;have key:Pq A 105 [.ptr 1 0] [o0,.cells [.B6 2 5 0 fl.length],.cells (V3 fl)] ⟨0,0,3,st⟩ fun r H1=>∃ zs,r= .B6 2 5 0 (hU (cL fl) fl.length).length/\H1=[o0,.cells [.B6 2 5 0 fl.length],.cells (V3 (hU (cL fl) fl.length)++zs)]:=by
  refine Pq.run (b:=3) [.ptr 1 0,.any] rfl rfl rfl rfl rfl ?_;have p1:=aE9 o0 (.cells [.B6 2 5 0 fl.length]) fl hn;obtain ⟨zs,p2⟩:=aF0 o0 (.cells [.B6 2 5 0 fl.length]) h0 h1 (D8 [o0,.cells [.B6 2 5 0 fl.length],.cells (V3 (cL fl))] st 3) (cL fl) (by omega) (by omega);rw [vZ] at p2
  repeat' (first|refine c0 (uu:=Qh h0 h1 _ _) (hcl:=av5 h0 h1 _ _) (p1 _ rfl) rfl (h2:= ?_)|refine c0 (uu:=Qh h0 h1 _ _) (hcl:=av5 h0 h1 _ _) p2 rfl (h2:= ?_)|refine gx ?_|fail)
  exact ⟨_,_,rfl,zs,rfl,rfl⟩
 obtain ⟨r,H1,⟨zs,rfl,rfl⟩,h⟩:=key;exact ⟨zs,h⟩
def Ci (c:y4):Nat->List F1
 |0=>[]
 |i+1=>Ci c i++(if u0 (nth c.o7 i).erase 1 then tM i (nth c.o7 i).p8.length (tj c i) else [])
def Ck (c:y4)(L R:Nat->List K5):Nat->List F1
 |0=>[]
 |i+1=>Ck c L R i++tQ ((c.o7.length:Int)+(i:Int)) (nth c.views i) (L i) (R i)
structure Zm (c:y4)(i:Nat)(L R:List K5):Prop where
 ok:Sd (nth c.views i) L R
 pl:Pf A 159 [cat c,.d (.str (nth c.views i).left)] (.d (T6 L))
 pr:L4 (nth c.views i).right []=false->Pf A 159 [cat c,.d (.str (nth c.views i).right)] (.d (T6 R))
 r0:L4 (nth c.views i).right []=true->R=[]
 len:∀ s,(tQ s (nth c.views i) L R).length<=6000
def Xq (a:Abs.Data):(j3.d a).forget.L7=0:=by
 cases a with
 |slice n cs=>cases cs<;>rfl
 |_=>rfl
theorem SR:∀ l:List Abs.Data,B8 (R1 (l.map .d))=0
 |[]=>rfl
 |a::l=>by simp only [E0,R1,B8,SR l,Xq];rfl
def EM (l:List Abs.Data):(x9.cells (l.map .d)).forget.L7<=3:=by
 simp only [x9.forget,x9.L7,SR];omega
def aP6 (l:List Abs.Data):(x9.cells (l.map .d)).L7<=2:=by
 simp only [x9.L7,yH];omega
def av6 {o0:x9}{n:Nat}(h0:o0.L7<=3)(ys:List F1):E9 [o0,.cells [.B6 2 5 0 n],.cells (V3 ys)] 0 8 2=3:=by
 have h1:R7 (([o0,.cells [.B6 2 5 0 n],.cells (V3 ys)].take 2).drop 0)=3:=by
  have:(x9.cells [.B6 2 5 0 n]).L7=3:=rfl;simp [R7,this];omega
 have h2:=Qh h0 (o1:= .cells [.B6 2 5 0 n]) (o5 _) ys 0;show E9 _ 0 (6+1+1) 2=3
 rw [E9,h1];show E9 _ 0 (6+1) 3=3
 rw [E9];exact if_pos (Nat.max_eq_left h2)
theorem Tg (H:q8)(n:Nat):∀ (xs:List Abs.Data) (f:Nat),xs.length<f->bH H n f (xs.map .d)=some (xs.map .d)
 |[],f+1,_=>rfl
 |x::xs,f+1,h=>by
  have ih:=Tg H n xs f (by simp at h;omega);simp only [E0,bH,ih]
def aw0 {T:List j3}{H:q8}{ds:List F1}{zs:List j3}(hT:T[2]? =some (.B6 2 5 0 ds.length))(hH:H[2]? =some (.cells (V3 ds++zs)))(hl:ds.length<=100000):iP a47 0 (some (.ret,⟨T,H⟩))=some (.d (A5 F1.enc ds),[]):=by
 have l1:(ds.flatMap F1.enc).length=ds.length * 5:=bG (sz:=5) (fun _=>rfl) ds;have l2:(V3 ds).length=ds.length * 5:=by rw [V3,A1,l1]
 have h1:rd H 2 0 (ds.length * 5)=some (V3 ds):=by
  simp only [rd,hH,n9,l2,Nat.zero_add];rw [if_pos (by omega),List.drop_zero,<- l2,List.take_left]
 have h2:=Tg H 0 (ds.flatMap F1.enc) 999999 (by omega);have h4:aR T H a47.results=some [.B6 2 5 0 ds.length]:=by
  show aR T H [.slot 2]=_
  simp only [aR,jR,hT]
 unfold iP;simp only [h4];show finish false 0 [.B6 2 5 0 ds.length] H=_
 rw [V3] at h1;simp only [finish,j5,if_false,j9,bH,Nat.not_lt_zero,h1,h2,cg];simp [j3.L7,A5]
theorem yX (xs:List F1):∀ k,(hU xs k).length<=k
 |0=>o5 _
 |k+1=>by
  have:=yX xs k;simp only [hU,n9];split<;>simp<;>omega
def al5 (l:F2):Pm A 166 [.d (.slice 0 []),.func 167 [] []] [] l (.d (.slice 0 [])) []:=by
 have key:Pq A 166 [.d (.slice 0 []),.func 167 [] []] [] l fun r H1=>r= .d (.slice 0 [])/\H1=[]:=by
  refine Pq.run (b:=0) [.d (.slice 0 []),.func 167 [] [],.any,.any,.any,.any] rfl rfl rfl rfl rfl ?_;refine gr ?_;refine tb (F3 0 2) (fun h=> ?_) (fun h=> ?_)
  .refine gr ?_
   exact ⟨_,_,rfl,rfl,rfl⟩
  .cases C5 h
 obtain ⟨r,H1,⟨rfl,rfl⟩,h⟩:=key;exact h
def al4 (l:F2):Pm A 163 [.d (.slice 0 []),.func 164 [] []] [] l (.tuple []) []:=Pm.eF rfl rfl
def al3 (o0:x9)(h0:o0.L7<=2)(st:Nat):Pm A 105 [.ptr 1 0] [o0,.cells [.own 5 0 []]] ⟨0,0,2,st⟩ (.d (.slice 0 [])) [o0,.cells [.own 5 0 []]]:=by
 have key:Pq A 105 [.ptr 1 0] [o0,.cells [.own 5 0 []]] ⟨0,0,2,st⟩ fun r H1=>r= .d (.slice 0 [])/\H1=[o0,.cells [.own 5 0 []]]:=by
  refine Pq.run (b:=2) [.ptr 1 0,.any] rfl rfl rfl rfl rfl ?_
  repeat' (first|refine c0 (uu:=by simp [R7]) (hcl:=by simp [E9,B8,j3.L7]) (al4 _) rfl (h2:= ?_)|refine c0 (uu:=by simp [R7]) (hcl:=by simp [E9,B8,j3.L7]) (al5 _) rfl (h2:= ?_)|refine gx ?_|fail)
  exact ⟨_,_,rfl,rfl,rfl⟩
 obtain ⟨r,H1,⟨rfl,rfl⟩,h⟩:=key;exact h
set_option maxHeartbeats 16000000 in
def aW0 (c:y4)(hs:Q2 c)(hv:N9 c=true)(h8:c.o7.length<=8)(hc8:∀ i,i<c.o7.length->(nth c.o7 i).p8.length<=8)(h9:c.views.length<=8)(L R:Nat->List K5)(hsr:∀ i,i<c.views.length->Zm c i (L i) (R i)):Pf A 47 [cat c] (.d (A5 F1.enc (hU (cL (Ci c c.o7.length++Ck c L R c.views.length)) (Ci c c.o7.length++Ck c L R c.views.length).length))):=by
 refine Pf.run [cat c,.any,.any,.any,.any,.any,.any,.any,.any,.any,.any,.any,.any,.any] rfl rfl rfl rfl ?_;refine gr ?_;refine Ex.X8 (fun k T H=>∃ (i:Nat) (fl:List F1),T=[.any,.ptr 0 0,.any,.ptr 1 0,.any,.any,.any,.any,.d (A5 mH.enc c.o7),.d (num c.o7.length),.d (num i),.any,.any,.any]/\H=HC c fl/\i+k=c.o7.length/\fl=Ci c i/\fl.length<=i * 64) ?_ (k:=c.o7.length) ⟨0,[],rfl,rfl,by simp,rfl,by simp⟩;rintro k _ _ ⟨i,fl,rfl,rfl,hk,hfl,hfn⟩;unfold HC;refine Ex.seq ?_;refine tb (F3 i c.o7.length) (fun h2=> ?_) (fun h2=> ?_)
 .have h3:=C6 h2
  have e1:F3 (i:Int) 0=false:=by simp [z8]
  have e2:aF (c.o7.length:Int) i=false:=by simp [y3];omega
  have hit:CP c i=true:=by rw [CQ,e1,e2,hv];rfl
  have hcl:=hc8 i (by omega);have Ls:(tj c i).length<=8:=by have:=tq (nth c.o7 (i:Int).toNat).p8 (nth c.o7 (i:Int).toNat).p8.length;simp at this;unfold tj;simp;omega
  have p1:=aD2 c hs i hit;have p2:=aE5 c fl i (nth c.o7 i).p8.length (tj c i) (by omega) (by omega) (by omega);unfold HC at p2;refine gr ?_;refine tb (u0 (nth c.o7 i).erase 1) (fun h4=> ?_) (fun h4=> ?_)
  .repeat' (first|refine cl (p1) ?_|refine c0 p2 rfl (h2:= ?_)|refine gx ?_|fail)
   have htl:=tN i (nth c.o7 i).p8.length (tj c i);have h64:(tj c i).length * (nth c.o7 i).p8.length<=8 * 8:=Nat.mul_le_mul Ls hcl;exact ⟨k - 1,by omega,_,_,R8 (k9 rfl) (k9 rfl),i+1,fl++tM i (nth c.o7 i).p8.length (tj c i),rfl,rfl,by omega,by rw [hfl,Ci,h4];simp,by rw [n9];omega⟩
  .refine gr ?_
   exact ⟨k - 1,by omega,_,_,R8 (k9 rfl) (k9 rfl),i+1,fl,rfl,rfl,by omega,by rw [hfl,Ci,h4];simp,by omega⟩
 have h3:=C5 h2;obtain rfl:i=c.o7.length:=by omega
 refine gr ?_;refine Ex.X8 (fun k T H=>∃ (i:Nat) (fs:List F1),T=[.any,.ptr 0 0,.any,.ptr 1 0,.any,.any,.any,.any,.any,.any,.any,.d (A5 Vw.enc c.views),.d (num c.views.length),.d (num i)]/\H=[.cells (c.enc.map .d),.cells [C9 5 F1.enc fs]]/\i+k=c.views.length/\fs=fl++Ck c L R i/\fs.length<=512+i * 6000) ?_ (k:=c.views.length) ⟨0,fl,rfl,rfl,by simp,by simp [Ck],by omega⟩;rintro k _ _ ⟨i,fs,rfl,rfl,hk,CJ,bs9⟩;refine Ex.seq ?_;refine tb (F3 i c.views.length) (fun h4=> ?_) (fun h4=> ?_)
 .have h5:=C6 h4
  obtain ⟨ok,pl,pr,r0,len⟩:=hsr i (by omega);have hlen:=len ((c.o7.length:Int)+(i:Int));have p1:=aE6 c fs (nth c.views i) ((c.o7.length:Int)+(i:Int)) (L i) (R i) ok (by omega) pl pr r0;unfold HC at p1
  repeat' (first|refine c0 p1 rfl (h2:= ?_)|refine gx ?_|fail)
  exact ⟨k - 1,by omega,_,_,R8 (k9 rfl) (k9 rfl),i+1,_,rfl,rfl,by omega,by rw [CJ,Ck,A9],by rw [n9];omega⟩
 have h5:=C5 h4;obtain rfl:i=c.views.length:=by omega
 rw [hfl] at CJ;rw [<- CJ]
 rcases Nat.eq_zero_or_pos fs.length with hz|hz
 .obtain rfl:=List.length_eq_zero_iff.1 hz
  refine gr ?_;refine Ex.fz (Ti (p:=1) (z:=5) (xs:=[]) rfl rfl) ?_;have p5:=al3 (x9.cells (c.enc.map .d)) (aP6 _)
  repeat' (first|refine c0 (p5 _) rfl (h2:= ?_)|refine gx ?_|fail)
  exact ⟨_,rfl,rfl⟩
 refine gr ?_;refine Ex.fz (Xw (p:=1) (z:=5) (n:=fs.length) (xs:=fs.flatMap F1.enc) rfl rfl (by omega) rfl rfl (GW (fun _=>rfl) _)) ?_;obtain ⟨zs,p5⟩:=aE7 (x9.cells (c.enc.map .d)).forget (EM _) (D8 [(x9.cells (c.enc.map .d)).forget,.cells [.B6 2 5 0 fs.length],.cells (V3 fs)] 0 3) fs (by omega) hz;have hcl:E9 [(x9.cells (c.enc.map .d)).forget,.cells [.B6 2 5 0 fs.length],.cells (V3 fs)] 0 8 2=3:=by
  have h:=av6 (o0:=(x9.cells (c.enc.map .d)).forget) (n:=fs.length) (EM _) fs;exact h
 have uu:=Qh (o0:=(x9.cells (c.enc.map .d)).forget) (o1:= .cells [.B6 2 5 0 fs.length]) (EM _) (o5 _) fs 0;show Ex A Y8 0 _ ⟨[.any,.ptr 0 0,.any,.ptr 1 0,.any,.any,.any,.any,.any,.any,.any,_,_,_],[(x9.cells (c.enc.map .d)).forget,.cells [.B6 2 5 0 fs.length],.cells (V3 fs)]⟩ _
 repeat' (first|refine c0 (uu:=uu) (hcl:=hcl) p5 rfl (h2:= ?_)|refine gx ?_|fail)
 exact ⟨_,aw0 rfl rfl (by have:=yX (cL fs) fs.length;omega),rfl⟩
end Go.Proofs.YtibjocmpkoepoaaGreat


import Derived.Test.YtibjocmpkoepoaaGreatUN4
set_option linter.all false
open Bool renaming and_eq_true→c9,false_eq_true→j6,or_eq_false_iff→C7,true→W,false→F
open List renaming append_assoc→G8,drop_of_length_le→n5,getElem_of_mem→E9,length_append→k8,length_map→A1,length_take→K0,map_cons→E8,mem_append→A5,mem_singleton→L1,replicate→c8,replicate_succ→L3,take_length→I8,take_of_length_le→s4,length→O
open Nat renaming add_assoc→K1,le_of_ble_eq_true→j4,le_refl→j9,le_trans→p7,lt_or_ge→y7,mul_le_mul_right→E1
open Option renaming some→J,none→K
namespace Go.Proofs.YtibjocmpkoepoaaGreat
open Go.y9 Go.y9.S
def tg (xs:List D7):Nat->List D7
 |0=>[]
 |k+1=>tg xs k++(if decide (0<k)&&decide (Y xs k=Y xs (k - 1)) then [] else [Y xs k])
theorem Gn {xs:List D7}{p:D7}:∀{k},k<=O xs->(p∈tg xs k↔∃i,i<k/\Y xs i=p)
 |0,_=>by simp [tg]
 |k+1,hk=>by
  have ih:=Gn (xs:=xs) (p:=p) (k:=k) V;rw [tg,A5,ih];constructor
  .rintro (⟨i,h1,h2⟩|h)
   .exact ⟨i,V,h2⟩
   .split at h
    .cases h
    .exact ⟨k,V,(L1.1 h).symm⟩
  .rintro ⟨i,h1,h2⟩
   rcases y7 i k with h3|h3
   .exact .inl ⟨i,h3,h2⟩
   .obtain rfl:i=k:=V
    split
    next h4=>
     simp only [c9,decide_eq_true_eq] at h4;exact .inl ⟨i - 1,V,h4.2 ▸ h2⟩
    .exact .inr (L1.2 h2.symm)
theorem Ad (xs:List D7):∀k,O (tg xs k)<=k
 |0=>j9 _
 |k+1=>by
  have:=Ad xs k;rw [tg,k8];split<;>simp<;>omega
def AV (xs:List D7):List D7:=tg (sortP xs) (O (sortP xs))
def LB {xs:List D7}{p:D7}:p∈AV xs↔p∈xs:=by
 unfold AV;rw [Gn (j9 _),<- yY];constructor
 .rintro ⟨i,h1,rfl⟩
  exact C5 h1
 .intro h
  obtain ⟨i,hi,rfl⟩:=E9 h;exact ⟨i,hi,D6 hi⟩
attribute [local irreducible] Rx Ry Rn Ex Pf
def Md (a b:D7):(a.1==b.1&&(a.2==b.2&&W))=decide (a=b):=by
 rw [Bool.eq_iff_iff];simp [Prod.ext_iff]
def W5 (l:List D7):List c7:=(l.flatMap K6).map .d
def PX {o0:s6}(h0:o0.F4<=2)(ys:List D7)(st:Nat):D3 (([o0,.cells (W5 ys)].take 2).drop st)<=2:=by
 have h2:(s6.cells (W5 ys)).F4<=2:=by simp only [s6.F4,W5,qt];omega
 match st with
 |0=>simp [D3];omega
 |1=>simp [D3];omega
 |_+2=>simp [D3]
def YB:List c7:=[.d (Z 0),.d (Z 0)]
theorem Hx:∀n:Nat,O ((c8 n YB).flatten)=n * 2
 |0=>rfl
 |n+1=>by
  have:=Hx n;rw [L3,List.flatten_cons,k8,this];simp [YB];omega
def PM (o0:s6)(acc rest:List D7):wr [o0,.cells (W5 (acc++rest))] 1 (0+O acc * 2) ((c8 (O rest) YB).flatten)=J [o0,.cells (W5 acc++(c8 (O rest) YB).flatten)]:=by
 have l1:∀l:List D7,O (W5 l)=O l * 2:=λl=>by rw [W5,A1,S9 (sz:=2) (λ_=>rfl)]
 have e:W5 (acc++rest)=W5 acc++W5 rest:=by simp [W5]
 have hz:=Hx (O rest);simp only [wr,List.getElem?_cons_succ,List.getElem?_cons_zero,splice,e,Nat.zero_add];rw [if_pos (by simp only [k8,l1,hz];omega),<- l1 acc,List.take_left,n5 (by simp only [k8,l1,hz];omega)];simp
def IQ {acc xs:List D7}{q:Nat}(h1:O acc<=q)(h2:q<O xs):Y (acc++xs.drop (O acc)) q=Y xs q:=by
 rw [D6 D,D6 h2,List.getElem_append_right h1,List.getElem_drop];have:O acc+(q - O acc)=q:=V
 simp [this]
set_option maxHeartbeats 16000000 in
def as5 (o0:s6)(h0:o0.F4<=2)(st:Nat)(xs:List D7)(hn:O xs<=1000000)(hp:0<O xs) :
  ∃zs,Pm A 91 [.r7 1 2 0 (O xs)] [o0,.cells (W5 xs)] ⟨0,0,2,st⟩ (.r7 1 2 0 (O (tg xs (O xs)))) [o0,.cells (W5 (tg xs (O xs))++zs)]:=by
 have key:Pq A 91 [.r7 1 2 0 (O xs)] [o0,.cells (W5 xs)] ⟨0,0,2,st⟩ λr H1=>∃zs,r= .r7 1 2 0 (O (tg xs (O xs)))/\H1=[o0,.cells (W5 (tg xs (O xs))++zs)]:=by
  have Is:∀ys:List D7,D3 (([o0,.cells (W5 ys)].take 2).drop st)<=2:=λys=>PX h0 ys st
  refine Pq.go 4 ?_;refine gr ?_;refine tB (D5 (O xs) 2) ?_ (λh=>?_) (λh=>?_)
  .repeat' (first|refine No ?_|refine gx ?_|refine fq (λhw=>?_) λhw=>?_|refine ⟨rfl,rfl,_,rfl,?_⟩|refine ⟨rfl,rfl⟩|fail)
   all_goals exact cc
  .have h3:=A7 h
   refine gr ?_;have e:tg xs (O xs)=xs:=by
    match xs,hp,h3 with
    |[x],_,_=>simp [tg,Y]
    |_::_::_,_,h=>simp at h;omega
   exact ⟨_,_,rfl,[],by rw [e],by rw [e];simp [W5]⟩
  have h3:=B8 h;have i0:tg xs 1=xs.take 1:=by
   match xs,hp with
   |x::_,_=>simp [tg,Y]
  refine gr ?_;refine Ex.L9 (λk T H=>∃i:Nat,T=[.r7 1 2 0 (O xs),.any,.d (Z i),.any,.any]/\H=[o0,.cells (W5 xs)]/\i+k=O xs/\0<i/\tg xs i=xs.take i) ?_ (k:=O xs - 1) ⟨1,rfl,rfl,V,V,i0⟩;rintro k _ _ ⟨i,rfl,rfl,hk,hi,hc⟩;refine Ex.seq ?_;refine tB (D5 i (O xs)) ?_ (λh2=>?_) (λh2=>?_)
  .repeat' (first|refine No ?_|refine gx ?_|refine fq (λhw=>?_) λhw=>?_|refine ⟨rfl,rfl,_,rfl,?_⟩|refine ⟨rfl,rfl⟩|fail)
   all_goals exact cc
  .have h4:=A7 h2
   have r1:rd [o0,.cells (W5 xs)] 1 (0+i * 2) 2=J ((K6 (Y xs i)).map .d):=qU (enc:=K6) (λ_=>rfl) rfl V;have r2:rd [o0,.cells (W5 xs)] 1 (0+((i:Int) - 1).toNat * 2) 2=J ((K6 (Y xs (i - 1))).map .d):=by
    rw [show ((i:Int) - 1).toNat=i - 1 by omega];exact qU (enc:=K6) (λ_=>rfl) rfl V
   refine gr ?_;have sr:i<O xs:=V
   have hio:0<=(i:Int) - 1/\(i:Int) - 1<O xs:=V
   refine tB (decide (Y xs i=Y xs (i - 1))) ?_ (λh5=>?_) (λh5=>?_)
   .repeat' (first|refine AB r1 rfl ?_|refine AB r2 rfl ?_|refine ixs sr ?_|refine JG hio ?_|refine gx ?_|refine fq (λhw=>?_) λhw=>?_|refine ⟨rfl,rfl,_,rfl,?_⟩|refine ⟨rfl,rfl⟩|fail)
    rw [Md];simp
   .repeat' (first|refine Yw sr ?_|refine gx ?_|fail)
    have Vv:O (xs.take i)=i:=by rw [K0];omega
    have hc1:tg xs (i+1)=xs.take i:=by rw [tg,hc,h5];simp [hi]
    refine Ex.L9 (λk2 T H=>∃(j:Nat) (acc:List D7),T=[.r7 1 2 0 (O xs),.any,.d (Z (O acc)),.r7 1 2 (0+i * 2) (O xs - i),.d (Z j)]/\H=[o0,.cells (W5 (acc++xs.drop (O acc)))]/\i+j+k2=O xs/\0<j/\O acc+1<=i+j/\0<O acc/\acc=tg xs (i+j)) ?_ (k:=O xs - i - 1) ⟨1,xs.take i,by rw [Vv];rfl,by rw [Vv,List.take_append_drop],V,V,V,V,hc1.symm⟩;rintro k2 _ _ ⟨j,acc,rfl,rfl,hk2,hj,af4,RS,hacc⟩;refine Ex.seq ?_;have U8:O acc<O xs:=V
    have hdr:=C4 U8;refine tB (D5 j (O xs - i:Nat)) ?_ (λh6=>?_) (λh6=>?_)
    .repeat' (first|refine No ?_|refine gx ?_|refine fq (λhw=>?_) λhw=>?_|refine ⟨rfl,rfl,_,rfl,?_⟩|refine ⟨rfl,rfl⟩|fail)
     all_goals exact cc
    .have h7:=A7 h6
     have hjl:j<O xs - i:=V
     have hjo:0<=(j:Int) - 1/\(j:Int) - 1<((O xs - i:Nat):Int):=V
     have hx:∀q,O acc<=q->q<O xs->rd [o0,.cells (W5 (acc++xs.drop (O acc)))] 1 (0+q * 2) 2=J ((K6 (Y xs q)).map .d):=by
      intro q h1 h2;rw [<- IQ h1 h2];exact qU (enc:=K6) (λ_=>rfl) rfl D
     have r3:=hx (i+j) V V;rw [show 0+(i+j) * 2=0+i * 2+j * 2 by omega] at r3;have r4:=hx (i+j - 1) V V;rw [show 0+(i+j - 1) * 2=0+i * 2+((j:Int) - 1).toNat * 2 by omega] at r4;refine gr ?_;refine tB (!decide (Y xs (i+j)=Y xs (i+j - 1))) ?_ (λh8=>?_) (λh8=>?_)
     .repeat' (first|refine AB r3 rfl ?_|refine AB r4 rfl ?_|refine ixs hjl ?_|refine JG hjo ?_|refine gx ?_|refine fq (λhw=>?_) λhw=>?_|refine ⟨rfl,rfl,_,rfl,?_⟩|refine ⟨rfl,rfl⟩|fail)
      rw [Md];simp
     .have w1:wr [o0,.cells (W5 (acc++xs.drop (O acc)))] 1 (0+O acc * 2) ((K6 (Y xs (i+j))).map .d)=J [o0,.cells (W5 (acc++Y xs (i+j)::xs.drop (O acc+1)))]:=by
       rw [hdr];exact Bi (enc:=K6) (λ_=>rfl) rfl _
      have hb0:A2 ((K6 (Y xs (i+j))).map .d)<=1+1:=by rw [qt];omega
      repeat' (first|refine AB r3 rfl ?_|refine ixs hjl ?_|refine ixs U8 ?_|refine fD rfl ⟨rfl,rfl⟩ rfl rfl rfl hb0 w1 ?_|refine gx ?_|fail)
      have hN:acc++[Y xs (i+j)]=tg xs (i+(j+1)):=by
       have h9:decide (Y xs (i+j)=Y xs (i+j - 1))=F:=by simpa using h8
       rw [<- K1,tg,<- hacc,h9];simp
      have JC:O (acc++[Y xs (i+j)])=O acc+1:=U
      exact ⟨k2 - 1,V,_,_,B2 (j4 rfl) (Is _),j+1,acc++[Y xs (i+j)],by rw [JC];rfl,by rw [JC,G8];rfl,V,V,V,V,hN⟩
     .have hN:acc=tg xs (i+(j+1)):=by
       have h9:decide (Y xs (i+j)=Y xs (i+j - 1))=W:=by simpa using h8
       rw [<- K1,tg,<- hacc,h9];simp;omega
      refine gr ?_;exact ⟨k2 - 1,V,_,_,B2 (j4 rfl) (Is _),j+1,acc,rfl,rfl,V,V,V,V,hN⟩
    .have h7:=B8 h6
     have hij:i+j=O xs:=V
     rw [hij] at hacc;rw [<- hacc];have w2:=PM o0 acc (xs.drop (O acc));rw [List.length_drop] at w2
     repeat' (first|refine Yw U8 ?_|refine clS w2 ?_|refine svf (Nat.le_of_lt U8) RS ?_|refine gx ?_|fail)
     exact ⟨_,_,rfl,_,rfl,rfl⟩
   .refine gr ?_
    exact kk ⟨_,_,B2 (j4 rfl) (Is _),i+1,rfl,rfl,V,V,by rw [tg,hc,h5,E4 sr];simp⟩
  .have h4:=B8 h2
   obtain rfl:i=O xs:=V
   rw [hc,I8];refine gr ?_;exact ⟨_,_,rfl,[],rfl,U⟩
 obtain ⟨r,H1,⟨zs,rfl,rfl⟩,h⟩:=key;exact ⟨zs,h⟩
abbrev xU:=Int×Int×Int
def iw (v:xU):List y9.Data:=[Z v.1,Z v.2.1,Z v.2.2]
def MZ (z:Int):IntKind.wrap .u64 z=z % 18446744073709551616:=by simp [IntKind.wrap,IntKind.bits,IntKind.signed]
def TM (z:Int):0<=IntKind.wrap .u64 z/\IntKind.wrap .u64 z<18446744073709551616:=by
 rw [MZ];omega
def Na {k:IntKind}(hk:k= .u64\/k= .i64){z:Int}(h0:0<=z)(h1:z<=1000000):k.wrap z=z:=by
 rcases hk with rfl|rfl
 .rw [MZ]
  omega
 .exact Go.y9.wrap_small V V
def nZ (st:Nat)(c:o9)(X:k9):D3 ((List.take 1 (.cells (c.enc.map .d)::X)).drop st)<=1:=by
 cases st with
 |zero=>simp [D3,s6.F4,lD]
 |succ st=>simp [D3]
def JW (st:Nat)(c:o9)(x:cR)(X:k9):D3 ((List.take 2 (.cells (c.enc.map .d):: .cells (x.enc.map .d)::X)).drop st)<=2:=by
 match st with
 |0=>simp [D3,s6.F4,lD]
 |1=>simp [D3,s6.F4,lD]
 |st+2=>simp [D3]
def Mc (e d:Int)(hd:d=4\/d=64){n:Int}(hn:1<=n)(hn2:n<=1000000):∃q u r:Int,H8 .quo (.int .i64 e) (.int .i64 d)=J (.int .i64 q)/\IntKind.wrap .u64 q=u/\IntKind.wrap .u64 n=n/\H8 .rem (.int .u64 u) (.int .u64 n)=J (.int .u64 r)/\IntKind.wrap .i64 r=r/\0<=r/\r<n:=by
 obtain ⟨q,hq⟩:∃q,H8 .quo (.int .i64 e) (.int .i64 d)=J (.int .i64 q):=by
  rcases hd with rfl|rfl<;>exact ⟨_,by simp [H8,Q8,W4];rfl⟩
 obtain ⟨h1,h2⟩:=TM q;obtain ⟨u,hu⟩:∃u,IntKind.wrap .u64 q=u:=⟨_,rfl⟩;rw [hu] at h1 h2;have h3:=Int.tmod_nonneg n h1;have h4:=Int.tmod_lt_of_pos u (show 0<n by omega);exact ⟨q,u,u.tmod n,hq,hu,Na (.inl rfl) V hn2,by simp [H8,Q8,W4];omega,Na (.inr rfl) h3 V,h3,h4⟩
def UD (e:Int):∃z:Int,H8 .and (.int .i64 e) (.int .i64 3)=J (.int .i64 z):=⟨_,by simp [H8,Q8,W4];rfl⟩
def Mt {n:Nat}(h:n<=100000):roomFor n 24=W:=by
 refine decide_eq_true ?_;exact p7 (E1 _ (show 2 * n+512<=200512 by omega)) (by decide)
def Pr {n:Nat}(h:n<=100000):roomFor n 16=W:=by
 refine decide_eq_true ?_;exact p7 (E1 _ (show 2 * n+512<=200512 by omega)) (by decide)
structure Rk (c:o9)(vs:List xU)(gs:List D7)(n:Nat):Prop where
 v:∀v∈vs,0<=v.1/\v.1<O c.j7
 g:∀s∈gs,∃v∈vs,v.1=s.1
 vl:O vs<=10 * n
 gl:O gs<=n
def Rk.more {c:o9}{vs:List xU}{gs:List D7}{n:Nat}(h:Rk c vs gs n){v:xU}(h0:0<=v.1/\v.1<O c.j7):Rk c (vs++[v]) gs (n+1) where
 v:=λw hw=>by
  rcases A5.1 hw with hw|hw
  .exact h.v w hw
  .rw [L1.1 hw];exact h0
 g:=λs hs=>by
  obtain ⟨w,hw,e⟩:=h.g s hs;exact ⟨w,List.mem_append_left _ hw,e⟩
 vl:=by have:=h.vl;simp;omega
 gl:=by have:=h.gl;omega
set_option maxHeartbeats 8000000 in
def p37 (c:o9)(hm:∀i,i<O c.j7->1<=O (Y c.j7 i).o7/\O (Y c.j7 i).o7<=8)(ht:O c.j7<=1000)(l:List cR)(hl:O l<=1000)(hok:∀x∈l,FX c x)(ys:List Int) :
  ∃vs gs,Rk c vs gs 6/\Pf A 37 [cat c,.d (s7 cR.enc l),.d (ints ys)] (.tuple [.d (s7 iw vs),.d (s7 K6 gs)]):=by
 have e:ints ys=s7 (λn=>[Z n]) ys:=by simp [ints,s7,List.flatMap_singleton']
 rw [e];have h1:=Pe.go (A:=A) (f:=37) (args:=[cat c,.d (s7 cR.enc l),.d (s7 (λn=>[Z n]) ys)]) (P:=λw=>∃vs gs,Rk c vs gs 6/\w= .tuple [.d (s7 iw vs),.d (s7 K6 gs)]) 8 ?_
 .obtain ⟨_,⟨vs,gs,h,rfl⟩,hp⟩:=h1
  exact ⟨vs,gs,h,hp⟩
 refine gr ?_;refine Ex.L9 (λq T' H' =>∃(j:Nat) (vs:List xU) (gs:List D7),j<=6/\q=6 - j/\Rk c vs gs j/\T' =[.any,.d (s7 cR.enc l),.d (s7 (λn=>[Z n]) ys),.ptr 0 0,.any,.any,A8 3 iw vs,A8 2 K6 gs,.d (Z j),.any,.any]/\H' =[.cells (c.enc.map .d)]) ?_ (k:=6) ⟨0,[],[],V,V,⟨U,U,U,U⟩,rfl,rfl⟩;rintro q T' H' ⟨j,vs,gs,hj,rfl,hC,rfl,rfl⟩;have hvl:=hC.vl;have hgl:=hC.gl;refine Ex.seq ?_;refine tB (D5 j (O ys)&&(D5 j 6&&D5 0 (O l))) ?_ (λh2=>?_) (λh2=>?_)
 .repeat' (first|refine gx ?_|refine fq (λhw=>?_) λhw=>?_|refine ⟨rfl,rfl,_,rfl,?_⟩|refine ⟨rfl,rfl⟩|fail)
  all_goals simp_all
 .simp only [c9] at h2
  have g1:=A7 h2.1;have g2:=A7 h2.2.1;have g3:=A7 h2.2.2;obtain ⟨q4,u4,r,a1,a2,a3,a4,a5,a6,a7⟩:=Mc (Y ys j) 4 (.inl rfl) (n:=O l) V V;refine Ex.skip ?_;refine Ex.seq ?_;refine Ex.block ?_
  repeat' (first|refine bq a1 ?_|refine ci a2 ?_|refine ci a3 ?_|refine bq a4 ?_|refine ci a5 ?_|refine gx ?_|fail)
  have hx:=hok _ (C5 (show r.toNat<O l by omega));obtain ⟨x,hxe⟩:∃x,Y l r.toNat=x:=⟨_,rfl⟩;rw [hxe] at hx ⊢;have t0:=hx.t0;have t1:=hx.t1;have hrow:=hx.row;have hmw:=hm x.M6.toNat V;have VM:∀(a b:Int),0<=((x.M6,a,b):xU).1/\((x.M6,a,b):xU).1<O c.j7:=λ_ _=>⟨t0,t1⟩
  have hr:∀v:xU,roomFor (O vs+[v].length) 24=W:=λv=>Mt D
  refine tc (x4 x.op 2) trivial (λh3=>?_) (λh3=>?_)
  .repeat' (first|refine qm (cs:=(iw (x.M6,x.col,x.seq)).map .d) ?_|refine oN (enc:=iw) (x.M6,x.col,x.seq) ?_|refine Ew (enc:=iw) (ys:=[(x.M6,x.col,x.seq)]) (hr:=hr _) (h2:=?_)|refine gx ?_|fail)
   exact ⟨6 - (j+1),V,_,_,B2 (j4 rfl) (nZ ..),j+1,_,gs,V,rfl,hC.more (VM _ _),rfl,rfl⟩
  obtain ⟨z,a8⟩:=UD (Y ys j);refine tB (x4 x.op 1&&(x4 z 0&&x4 (Y c.j7 x.M6.toNat).erase 1)) ?_ (λh4=>?_) (λh4=>?_)
  .repeat' (first|refine bq a8 ?_|refine gx ?_|refine fq (λhw=>?_) λhw=>?_|refine ⟨rfl,rfl,_,rfl,?_⟩|refine ⟨rfl,rfl⟩|fail)
   all_goals simp_all
  .simp only [c9] at h4
   have hop:x.op=1:=by simpa [o6] using h4.1
   rw [if_pos hop] at hrow;have Fb:roomFor (O gs+[((x.M6,x.seq):D7)].length) 16=W:=Pr D
   repeat' (first|refine qm (cs:=(K6 (x.M6,x.seq)).map .d) ?_|refine oN (enc:=K6) (x.M6,x.seq) ?_|refine Ew (enc:=K6) (ys:=[(x.M6,x.seq)]) (hr:=Fb) (h2:=?_)|refine gx ?_|fail)
   refine Ex.L9 (λq T' H' =>∃(k:Nat) (ws:List xU),k<=O x.row/\q=O x.row - k/\(∀v∈ws,0<=v.1/\v.1<O c.j7)/\(∀v∈vs,v∈ws)/\(0<k->∃v∈ws,v.1=x.M6)/\O ws<=O vs+k/\T' =[.any,.d (s7 cR.enc l),.d (s7 (λn=>[Z n]) ys),.ptr 0 0,.any,.any,A8 3 iw ws,A8 2 K6 (gs++[(x.M6,x.seq)]),.d (Z j),.ptr 1 0,.d (Z k)]/\H' =[.cells (c.enc.map .d),.cells (x.enc.map .d)]) ?_ (k:=O x.row) ⟨0,vs,V,V,hC.v,λ_ h=>h,V,V,rfl,rfl⟩;rintro q T' H' ⟨k,ws,hk,rfl,w1,w2,w3,w4,rfl,rfl⟩;refine Ex.seq ?_;refine tl (k:Int) (O x.row:Int) (λh5=>?_) (λh5=>?_)
   .have hr3:roomFor (O ws+[((x.M6,(k:Int),x.seq):xU)].length) 24=W:=Mt D
    repeat' (first|refine qm (cs:=(iw (x.M6,(k:Int),x.seq)).map .d) ?_|refine oN (enc:=iw) (x.M6,(k:Int),x.seq) ?_|refine Ew (enc:=iw) (ys:=[(x.M6,(k:Int),x.seq)]) (hr:=hr3) (h2:=?_)|refine gx ?_|fail)
    refine ⟨O x.row - (k+1),V,_,_,B2 (j4 rfl) (JW ..),k+1,_,V,rfl,λv hv=>?_,λv hv=>List.mem_append_left _ (w2 v hv),λ_=>⟨(x.M6,(k:Int),x.seq),U,rfl⟩,D,rfl,rfl⟩
    rcases A5.1 hv with hv|hv
    .exact w1 v hv
    .rw [L1.1 hv]
     exact VM _ _
   .obtain rfl:k=O x.row:=V
    refine gr ?_;refine ⟨6 - (j+1),V,_,_,B2 (j4 rfl) (nZ ..),j+1,ws,gs++[(x.M6,x.seq)],V,rfl,⟨w1,λs hs=>?_,V,D⟩,rfl,rfl⟩
    rcases A5.1 hs with hs|hs
    .obtain ⟨v,hv,e⟩:=hC.g s hs
     exact ⟨v,w2 v hv,e⟩
    .rw [L1.1 hs]
     exact w3 V
  .refine tc (x4 x.op 1&&D5 1 (O x.row)) trivial (λh5=>?_) (λh5=>?_)
   .simp only [c9] at h5
    have h6:=A7 h5.2;have hop:x.op=1:=by simpa [o6] using h5.1
    rw [if_pos hop] at hrow;obtain ⟨q5,u5,r5,b1,b2,b3,b4,b5,b6,b7⟩:=Mc (Y ys j) 64 (.inr rfl) (n:=(O x.row:Int) - 1) V V
    repeat' (first|refine bq b1 ?_|refine ci b2 ?_|refine sb V ?_|refine ci b3 ?_|refine bq b4 ?_|refine ci b5 ?_|refine ad V ?_|refine qm (cs:=(iw (x.M6,1+r5,x.seq)).map .d) ?_|refine oN (enc:=iw) (x.M6,1+r5,x.seq) ?_|refine Ew (enc:=iw) (ys:=[(x.M6,1+r5,x.seq)]) (hr:=hr _) (h2:=?_)|refine gx ?_|fail)
    exact ⟨6 - (j+1),V,_,_,B2 (j4 rfl) (nZ ..),j+1,_,gs,V,rfl,hC.more (VM _ _),rfl,rfl⟩
   .refine gr ?_
    exact ⟨6 - (j+1),V,_,_,B2 (j4 rfl) (nZ ..),j+1,vs,gs,V,rfl,⟨hC.v,hC.g,V,V⟩,rfl,rfl⟩
 .have hC6:Rk c vs gs 6:=⟨hC.v,hC.g,V,V⟩
  refine gr ?_;exact ⟨_,rfl,vs,gs,hC6,rfl⟩
theorem zl:∀xs:List D7,zk (xs.flatMap K6)=J xs
 |[]=>rfl
 |(a,b)::xs=>by simp [K6,Z,zk,zl xs]
theorem Ae:∀l:List y9.Data,H7 (l.map .d)=J l
 |[]=>rfl
 |x::l=>by simp [H7,c7.data?,Ae l]
def uN (l:List D7):O (W5 l)=O l * 2:=by rw [W5,A1,S9 (sz:=2) (λ_=>rfl)]
def as4 (o0:s6)(st:Nat)(xs:List D7)(hn:O xs<=1000000):Pm A 89 [.r7 1 2 0 (O xs),.func 90 [] []] [o0,.cells (W5 xs)] ⟨0,0,2,st⟩ (.tuple []) [o0,.cells (W5 (sortP xs))]:=by
 refine Pm.aB rfl ?_;have h1:rd [o0,.cells (W5 xs)] 1 0 (O xs * 2)=J (W5 xs):=by
  simp_all [rd,uN,s4]
 have h2:wr [o0,.cells (W5 xs)] 1 0 (W5 (sortP xs))=J [o0,.cells (W5 (sortP xs))]:=by
  simp [wr,uN,X0,splice]
 have h3:H7 (W5 xs)=J (xs.flatMap K6):=Ae _;have h4:(V9 (sortP xs)).map c7.d=W5 (sortP xs):=by rw [kN];rfl
 simp [vX,hn,h1,h3,zl,h4,h2,and_true];rfl
def Xr (l:F9):Pm A 89 [.d (.slice 0 []),.func 90 [] []] [] l (.tuple []) []:=Pm.aB rfl rfl
def Gw (l:List y9.Data):(s6.cells (l.map .d)).forget.F4=0:=by
 have h:∀l:List y9.Data,A2 (N5 (l.map .d))=0:=λl=>by
  induction l with
  |nil=>rfl
  |cons a l ih =>
   have:(c7.d a).forget.F4=0:=by
    cases a with
    |slice n cs=>cases cs<;>rfl
    |_=>rfl
   simp_all [E8,N5,A2]
 grind [s6.forget,s6.F4]
def Ik (p:D7):(K6 p).all Data.flat=W:=rfl
def ap4:Pf A 91 [.d (.slice 0 [])] (.d (.slice 0 [])):=by
 refine Pf.gr 4 ?_;refine tc W trivial (λ_=>?_) (λh=>by cases h);refine gr ?_;exact ⟨_,rfl,rfl⟩
def UR {T:List c7}{H:k9}{ds:List D7}{zs:List c7}(hT:T[4]? =J (.r7 1 2 0 (O ds)))(hH:H[1]? =J (.cells (W5 ds++zs)))(hl:O ds<=100000):R4 a35 0 (J (.ret,⟨T,H⟩))=J (.d (N7 ds),[]):=by
 have l1:O (ds.flatMap K6)=O ds * 2:=S9 (sz:=2) (λ_=>rfl) ds;have h1:rd H 1 0 (O ds * 2)=J (W5 ds):=by
  simp_all [rd,k8,uN,Nat.zero_add,if_pos,List.drop_zero,List.take_left]
 have h2:X6 H 0 999999 ((ds.flatMap K6).map .d)=J ((ds.flatMap K6).map .d):=by
  have:∀(xs:List y9.Data) (f:Nat),O xs<f->X6 H 0 f (xs.map .d)=J (xs.map .d):=λxs=>by
   induction xs with
   |nil=>intro f h;cases f with|zero=>omega|succ f=>rfl
   |cons x xs ih =>
    intro f h;cases f with
    |zero=>omega
    |succ f=>simp_all [E8,X6]
  grind
 have h4:V2 T H a35.results=J [.r7 1 2 0 (O ds)]:=by
  show V2 T H [.slot 4]=_
  grind [V2,jq]
 unfold R4;simp [h4];show finish F 0 [.r7 1 2 0 (O ds)] H=_
 simp_all [finish,j6,if_false,j5,X6,Nat.not_lt_zero,W5,Ae,c7.F4,N7,s7]
def Ms {n:Nat}(h:n<=100000):roomFor n 16=W:=by
 refine decide_eq_true ?_;omega
def InR (c:o9)(e:xU):Prop:=0<=e.1/\e.1<O c.j7/\0<=e.2.1/\e.2.1<O (Y c.j7 e.1.toNat).o7
def Ro (c:o9)(s:D7)(k:Int)(p:D7):Prop:=0<=s.1/\s.1<O c.j7/\p.1=s.1/\0<=p.2/\p.2<k/\p.2<O (Y c.j7 s.1.toNat).o7
def Hy (c:o9)(v:List xU)(j:Nat)(p:D7):Prop:=∃j',j' <j/\InR c (Y v j')/\p=((Y v j').1,(Y v j').2.1)
def JK (c:o9)(g:List D7)(j:Nat)(p:D7):Prop:=∃j',j' <j/\Ro c (Y g j') 1000000 p
set_option maxHeartbeats 8000000 in
def p35 (c:o9)(hs:E7 c)(hv:D0 c=W)(v:List xU)(g:List D7)(hvl:O v<=100)(hgl:O g<=100) :
  ∃acc:List D7,(O acc<=O v+8 * O g/\∀p,p∈acc↔Hy c v (O v) p\/JK c g (O g) p)/\Pf A 35 [cat c,.d (s7 iw v),.d (N7 g)] (.d (N7 (AV acc))):=by
 have vj:=hs.sm.eD.1;have p1:=OU c hs;rw [hv] at p1;have h1:=Pe.go (A:=A) (f:=35) (args:=[cat c,.d (s7 iw v),.d (N7 g)]) (P:=λw=>∃acc:List D7,(O acc<=O v+8 * O g/\∀p,p∈acc↔Hy c v (O v) p\/JK c g (O g) p)/\w= .d (N7 (AV acc))) 14 ?_
 .obtain ⟨_,⟨acc,h,rfl⟩,hp⟩:=h1
  exact ⟨acc,h,hp⟩
 unfold N7;refine gr ?_;refine tc F p1 (λh=>by cases h) (λh=>?_);refine gr ?_;refine Ex.L9 (λq T' H' =>∃(j:Nat) (acc:List D7),j<=O v/\q=O v - j/\(∀p,p∈acc↔Hy c v j p)/\O acc<=j/\T' =[.any,.any,.d (s7 K6 g),.ptr 0 0,.any,A8 2 K6 acc,.any,.any,.any,.d (s7 iw v),.d (Z (O v)),.d (Z j),.any,.any,.any,.any,.any]/\H' =[.cells (c.enc.map .d)]) ?_ (k:=O v) ⟨0,[],V,V,λp=>by simp [Hy],U,rfl,rfl⟩;rintro q T' H' ⟨j,acc,hj,rfl,hA,qG,rfl,rfl⟩;refine Ex.seq ?_;refine tl (j:Int) (O v:Int) (λh1=>?_) (λh1=>?_)
 .have gj:j<O v:=V
  obtain ⟨e,he⟩:∃e,Y v j=e:=⟨_,rfl⟩;refine Ex.skip ?_;refine Ex.seq ?_;refine gr ?_;rw [he];refine tc (T5 0 e.1&&D5 e.1 (O c.j7)&&T5 0 e.2.1&&D5 e.2.1 (O (Y c.j7 e.1.toNat).o7)) trivial (λh2=>?_) (λh2=>?_)
  .simp only [c9] at h2
   have k1:=ej h2.1.1.1;have k2:=A7 h2.1.1.2;have k3:=ej h2.1.2;have k4:=A7 h2.2;have hr:roomFor (O acc+[((e.1,e.2.1):D7)].length) 16=W:=Ms D
   repeat' (first|refine qm (cs:=(K6 (e.1,e.2.1)).map .d) ?_|refine oN (enc:=K6) (e.1,e.2.1) ?_|refine Ew (ys:=[(e.1,e.2.1)]) (hr:=hr) (h2:=?_)|refine gx ?_|fail)
   refine ⟨O v - (j+1),V,_,_,B2 (j4 rfl) (j4 rfl),j+1,acc++[(e.1,e.2.1)],V,rfl,λp=>?_,D,rfl,rfl⟩;rw [A5,hA,L1];constructor
   .rintro (⟨j',a,b⟩|rfl)
    .exact ⟨j',V,b⟩
    .exact ⟨j,V,by rw [he];exact ⟨k1,k2,k3,k4⟩,by rw [he]⟩
   .rintro ⟨j',a,b⟩
    rcases y7 j' j with h|h
    .exact .inl ⟨j',h,b⟩
    .obtain rfl:j' =j:=V
     rw [he] at b;exact .inr b.2
  .have hno:¬ InR c e:=λ⟨k1,k2,k3,k4⟩=>by
    rw [show T5 0 e.1=W by rw [x6];simpa using k1,show D5 e.1 (O c.j7)=W by rw [y4];simpa using k2,show T5 0 e.2.1=W by rw [x6];simpa using k3,show D5 e.2.1 (O (Y c.j7 e.1.toNat).o7)=W by rw [y4];simpa using k4] at h2;cases h2
   refine gr ?_;refine ⟨O v - (j+1),V,_,_,B2 (j4 rfl) (j4 rfl),j+1,acc,V,rfl,λp=>?_,V,rfl,rfl⟩;rw [hA];constructor
   .rintro ⟨j',a,b⟩
    exact ⟨j',V,b⟩
   .rintro ⟨j',a,b⟩
    rcases y7 j' j with h|h
    .exact ⟨j',h,b⟩
    .obtain rfl:j' =j:=V
     rw [he] at b;exact absurd b.1 hno
 .obtain rfl:j=O v:=V
  refine gr ?_;refine Ex.L9 (λq T' H' =>∃(j:Nat) (acc:List D7),j<=O g/\q=O g - j/\(∀p,p∈acc↔Hy c v (O v) p\/JK c g j p)/\O acc<=O v+8 * j/\T' =[.any,.any,.any,.ptr 0 0,.any,A8 2 K6 acc,.any,.any,.any,.any,.any,.any,.d (s7 K6 g),.d (Z (O g)),.d (Z j),.any,.any]/\H' =[.cells (c.enc.map .d)]) ?_ (k:=O g) ⟨0,acc,V,V,λp=>by rw [hA];simp [JK],V,rfl,rfl⟩;clear hA qG acc;rintro q T' H' ⟨j,acc,hj,rfl,hA,qG,rfl,rfl⟩;refine Ex.seq ?_;refine tl (j:Int) (O g:Int) (λh1=>?_) (λh1=>?_)
  .have gj:j<O g:=V
   obtain ⟨e,he⟩:∃e,Y g j=e:=⟨_,rfl⟩;refine Ex.skip ?_;refine Ex.seq ?_;refine gr ?_;rw [he];refine tc (D5 e.1 0||T5 (O c.j7) e.1) trivial (λh2=>?_) (λh2=>?_)
   .have hno:∀p,¬ Ro c e 1000000 p:=λp ⟨k1,k2,_⟩=>by
     rw [Bool.or_eq_true] at h2
     rcases h2 with h2|h2
     .have:=A7 h2;omega
     .have:=ej h2;omega
    refine gr ?_;refine ⟨O g - (j+1),V,_,_,B2 (j4 rfl) (j4 rfl),j+1,acc,V,rfl,λp=>?_,V,rfl,rfl⟩;rw [hA];refine or_congr Iff.rfl ⟨λ⟨j',a,b⟩=>⟨j',V,b⟩,λ⟨j',a,b⟩=>⟨j',?_,b⟩⟩
    rcases y7 j' j with h|h
    .exact h
    .obtain rfl:j' =j:=V
     rw [he] at b;exact absurd b (hno p)
   .rw [C7] at h2
    have k1:=B8 h2.1;have k2:=kI h2.2;have hcl:=(au hv (show e.1.toNat<O c.j7 by omega)).1;obtain ⟨w,hw⟩:∃w,O (Y c.j7 e.1.toNat).o7=w:=⟨_,rfl⟩;rw [hw] at hcl;refine gr ?_;rw [hw];refine Ex.L9 (λq T' H' =>∃(k:Nat) (acc:List D7),k<=w/\q=w - k/\(∀p,p∈acc↔(Hy c v (O v) p\/JK c g j p)\/Ro c e k p)/\O acc<=O v+8 * j+k/\T' =[.any,.any,.any,.ptr 0 0,.any,A8 2 K6 acc,.any,.ptr 1 0,.any,.any,.any,.any,.d (s7 K6 g),.d (Z (O g)),.d (Z j),.d (Z w),.d (Z k)]/\H' =[.cells (c.enc.map .d),.cells [.d (Z e.1),.d (Z e.2)]]) ?_ (k:=w) ⟨0,acc,V,V,λp=>?_,V,rfl,rfl⟩
    .clear hA qG acc
     rintro q T' H' ⟨k,acc,hk,rfl,hA,qG,rfl,rfl⟩;refine Ex.seq ?_;refine tl (k:Int) (w:Int) (λh3=>?_) (λh3=>?_)
     .have hr:roomFor (O acc+[((e.1,(k:Int)):D7)].length) 16=W:=Ms D
      repeat' (first|refine qm (cs:=(K6 (e.1,(k:Int))).map .d) ?_|refine oN (enc:=K6) (e.1,(k:Int)) ?_|refine Ew (ys:=[(e.1,(k:Int))]) (hr:=hr) (h2:=?_)|refine gx ?_|fail)
      refine ⟨w - (k+1),V,_,_,B2 (j4 rfl) (j4 rfl),k+1,acc++[(e.1,(k:Int))],V,rfl,λp=>?_,D,rfl,rfl⟩;rw [A5,hA,L1,or_assoc];refine or_congr Iff.rfl ?_;unfold Ro;constructor
      .rintro (h|rfl)
       .omega
       .have h4:((k:Nat):Int)<(O (Y c.j7 e.1.toNat).o7:Nat):=V
        have h5:((k:Nat):Int)<((k+1:Nat):Int):=V
        exact ⟨k1,k2,rfl,Int.natCast_nonneg k,h5,h4⟩
      .intro h
       by_cases hp:p.2=k
       .exact .inr (Prod.ext h.2.2.1 hp)
       .exact .inl V
     .obtain rfl:k=w:=V
      refine gr ?_;refine ⟨O g - (j+1),V,_,_,B2 (j4 rfl) (j4 rfl),j+1,acc,V,rfl,λp=>?_,V,rfl,rfl⟩;rw [hA,or_assoc];refine or_congr Iff.rfl ?_;constructor
      .rintro (⟨j',a,b⟩|h)
       .exact ⟨j',V,b⟩
       .refine ⟨j,V,?_⟩
        rw [he];unfold Ro at *
        omega
      .rintro ⟨j',a,b⟩
       rcases y7 j' j with h|h
       .exact .inl ⟨j',h,b⟩
       .obtain rfl:j' =j:=V
        rw [he] at b;refine .inr ?_;unfold Ro at *
        omega
    .rw [hA]
     constructor
     .exact .inl
     .rintro (h|h)
      .exact h
      .unfold Ro at h
       omega
  .obtain rfl:j=O g:=V
   cases acc with
   |nil =>
    refine gr ?_;refine Ex.fz (Ci rfl) ?_
    repeat' (first|refine c0 (Xr _) rfl (h2:=?_)|refine iX ap4 ?_|refine gx ?_|fail)
    exact ⟨_,rfl,[],⟨qG,hA⟩,rfl⟩
   |cons a r =>
    generalize hX:a::r=X at *
    have hX0:O X≠0:=by rw [<- hX];simp
    refine gr ?_;refine Ex.fz (GD rfl hX0 rfl rfl (uY Ik _)) ?_;have cQ:=λys st=>PX (o0:=(s6.cells (c.enc.map .d)).forget) (by rw [Gw];omega) ys st
    have pS:=as4 (s6.cells (c.enc.map .d)).forget (A6 [(s6.cells (c.enc.map .d)).forget,.cells (W5 X)] 0 2) X V;obtain ⟨zs,pC⟩:=as5 (s6.cells (c.enc.map .d)).forget (by rw [Gw];omega) (A6 [(s6.cells (c.enc.map .d)).forget,.cells (W5 (sortP X))] 0 2) (sortP X) (by rw [X0];omega) (by rw [X0];omega);rw [X0] at pC;have qo:O (tg (sortP X) (O X))<=100000:=by have:=Ad (sortP X) (O X);omega
    show Ex A N6 0 _ ⟨[.any,.any,.any,.ptr 0 0,.any,.r7 1 2 0 (O X),.any,.any,.any,.any,.any,.any,_,_,_,.any,.any],[(s6.cells (c.enc.map .d)).forget,.cells (W5 X)]⟩ _
    refine gr ?_;refine c0 (cQ:=cQ X 0) (hcl:=G9 (cQ X 0)) pS rfl (h2:=?_);refine gr ?_;refine c0 (cQ:=cQ (sortP X) 0) (hcl:=G9 (cQ (sortP X) 0)) pC rfl (h2:=?_);refine gr ?_;refine ⟨_,UR rfl rfl qo,X,⟨qG,hA⟩,?_⟩;rw [AV,X0];rfl
theorem GN {s:G4}:∀(l:List G4) (i:Nat),0<=F7 s l i->∃k:Nat,k<O l/\F7 s l i=((i+k:Nat):Int)/\Y l k=s
 |[],i,h=>by simp [F7] at h
 |x::l,i,h=>by
  unfold F7 at h ⊢;split at h
  next e=>
   rw [if_pos e];exact ⟨0,U,V,by rw [O2];simpa [F3] using e⟩
  next e=>
   rw [if_neg e];obtain ⟨k,h1,h2,h3⟩:=GN l (i+1) h;exact ⟨k+1,D,by rw [h2];omega,by rw [aS];exact h3⟩
theorem GO:∀(l:List G4) (k i:Nat),k<O l->0<=F7 (Y l k) l i/\F7 (Y l k) l i<=((i+k:Nat):Int)
 |[],k,i,h=>by simp at h
 |x::l,0,i,_=>by simp [F7,O2,F3]
 |x::l,k+1,i,h=>by
  rw [aS];unfold F7;split
  .omega
  .have:=GO l k (i+1) (by simpa using h)
   omega
def Hr (c:o9):XE c=o9.sn c:=by
 rw [XE,gH c (j9 _),s4];rw [S7];exact j9 _
def Rb (c:o9){i:Nat}(h:i<O c.j7):Y (o9.sn c) i=(Y c.j7 i).name:=by
 have h2:i<O (o9.sn c):=by simp [o9.sn];omega
 rw [D6 h2,D6 h];simp [o9.sn,h]
def KH {c:o9}(hv:D0 c=W){s:G4}{j:Nat}(h:O9 c s=(j:Int))(hj:j<O c.j7):(Y c.j7 j).name=s:=by
 rw [O9,if_pos hv,Hr] at h;obtain ⟨k,_,e,h2⟩:=GN (s:=s) (o9.sn c) 0 V;obtain rfl:k=j:=V
 rw [<- Rb c hj,h2]
def Il {c:o9}(hv:D0 c=W){i:Nat}(hi:i<O c.j7):0<=O9 c (Y c.j7 i).name/\O9 c (Y c.j7 i).name<=(i:Int):=by
 rw [O9,if_pos hv,Hr,<- Rb c hi];have:=GO (o9.sn c) i 0 (by simp [o9.sn];omega);omega
def Pg {c:o9}(hv:D0 c=W){g:List D7}{q:D7}(h:Nd (jM c) g q)(hq:q.1<O c.j7):∃p∈g,p.1=q.1:=by
 induction h with
 |base h=>exact ⟨_,h,rfl⟩
 |step h1 _ ih =>
  rcases NK hv h1 with h2|h2
  .obtain ⟨p,hp,e⟩:=ih V
   exact ⟨p,hp,V⟩
  .omega
def QB (c:o9)(k i:Int):List G4:=if k=0 then [(Y c.j7 i.toNat).name] else if k=6 then [(Y c.J6 i.toNat).table] else (Y c.L4 i.toNat).tables
def Iq (c:o9)(vs:List xU)(s:G4):Bool:=vs.any λv=>K3 (Y c.j7 v.1.toNat).name s
def others {c:o9}(hv:D0 c=W){vs:List xU}{P:List D7}(hP:∀p∈P,∃v∈vs,v.1=p.1/\0<=v.1/\v.1<O c.j7)(ok:D7->Bool){x:D7}(hx:x∈aK c (P.filter ok) (xO (jM c) (P.filter ok)) 8) :
  (x.1=0/\0<=x.2/\x.2.toNat<O c.j7\/x.1=6/\0<=x.2/\x.2.toNat<O c.J6\/x.1=7/\0<=x.2/\x.2.toNat<O c.L4)/\(QB c x.1 x.2).any (Iq c vs)=W\/1<=x.1/\x.1<=5:=by
 obtain ⟨j,i,hj,hi,hc,rfl⟩:=GY.1 hx;have key:∀q∈P.filter ok,∀s,q.1=O9 c s->Iq c vs s=W:=λq hq s e=>by
  obtain ⟨v,Qu,e1,e2,e3⟩:=hP q (List.mem_filter.1 hq).1;refine List.any_eq_true.2 ⟨v,Qu,?_⟩;rw [KH hv (s:=s) (j:=v.1.toNat) V V,F3];simp
 have h6:∀s,ql (P.filter ok) (O9 c s)=W->Iq c vs s=W:=λs h=>by
  obtain ⟨q,hq,e⟩:=zN.1 h;exact key q hq s e
 have hj8:j=0\/j=6\/j=7\/(1<=j/\j<=5):=V
 rcases hj8 with rfl|rfl|rfl|h
 .refine .inl ⟨.inl ⟨rfl,U,by simpa [Dc] using hi⟩,?_⟩
  obtain ⟨q,hq,e⟩:=zN.1 (show ql (xO (jM c) (P.filter ok)) (O9 c (Y c.j7 i).name)=W from hc);have hi:i<O c.j7:=hi;have hb:=Il hv hi;obtain ⟨p,hp,e2⟩:=Pg hv (Lz.1 hq) V;have:=key p hp (Y c.j7 i).name V;simpa [QB] using this
 .refine .inl ⟨.inr (.inl ⟨rfl,U,by simpa [Dc] using hi⟩),?_⟩
  have:=h6 _ (show ql (P.filter ok) (O9 c (Y c.J6 i).table)=W from hc);simpa [QB] using this
 .refine .inl ⟨.inr (.inr ⟨rfl,U,by simpa [Dc] using hi⟩),?_⟩
  obtain ⟨s,hs,h⟩:=List.any_eq_true.1 (show ((Y c.L4 i).tables.any λs=>ql (P.filter ok) (O9 c s))=W from hc);exact List.any_eq_true.2 ⟨s,by simpa [QB] using hs,h6 s h⟩
 .exact .inr (by simp only;omega)
def QC (c:o9)(i:Int):QB c 0 i=[(Y c.j7 i.toNat).name]:=rfl
def QD (c:o9)(i:Int):QB c 6 i=[(Y c.J6 i.toNat).table]:=rfl
def QE (c:o9)(i:Int):QB c 7 i=(Y c.L4 i.toNat).tables:=rfl
def Bv {α:Type} [Inhabited α] {l:List α}{j:Nat}(h:j<O l)(P:α->Bool):(l.take (j+1)).any P=((l.take j).any P||P (Y l j)):=by
 rw [E4 h,List.any_append];simp
def Ii (c:o9)(vs:List xU)(ns:List G4)(k j:Nat):Bool:=(ns.take k).any (Iq c vs)||(vs.take j).any λv=>K3 (Y c.j7 v.1.toNat).name (Y ns k)
def Ky {c:o9}{vs:List xU}{ns:List G4}{k j:Nat}(h:j<O vs):Ii c vs ns k (j+1)=(Ii c vs ns k j||K3 (Y c.j7 (Y vs j).1.toNat).name (Y ns k)):=by
 unfold Ii;rw [Bv h,Bool.or_assoc]
def NO {c:o9}{vs:List xU}{ns:List G4}{k:Nat}(h:k<O ns):Ii c vs ns k (O vs)=Ii c vs ns (k+1) 0:=by
 unfold Ii;rw [Bv h,s4 (j9 _)];simp [Iq]
def NM (c:o9)(vs:List xU)(ns:List G4):Ii c vs ns (O ns) 0=ns.any (Iq c vs):=by
 unfold Ii;rw [s4 (j9 _)];simp
def NN (c:o9)(vs:List xU)(ns:List G4):Ii c vs ns 0 0=F:=by simp [Ii]
set_option maxHeartbeats 8000000 in
def al5 (hK:Pf A 27 [] (.d (.bool W))){xs:List Int}(hx:O xs<=17592186043904)(ys:List Int):Pf A 11 [.d (ints xs),.d (ints ys)] (.d (.bool W)):=by
 obtain ⟨c,l,ts,hc,hl,Nj,_,pM⟩:=p28 hx;have ht1:=hc.t1;have hvw:=hc.vw;obtain ⟨vs,gs,hC,pC⟩:=p37 c (λi hi=>⟨sU hc.val _ (C5 hi),(au hc.val hi).1⟩) V l V hl ys;have e:ints xs=s7 (λn=>[Z n]) xs:=by simp [ints,s7,List.flatMap_singleton']
 have e2:ints ys=s7 (λn=>[Z n]) ys:=by simp [ints,s7,List.flatMap_singleton']
 rw [e] at pM ⊢;rw [e2] at pC ⊢;have hvl:=hC.vl;have hgl:=hC.gl;obtain ⟨acc,⟨hAl,hA⟩,pA⟩:=p35 c hc.sm hc.val vs gs V V;have hP:∀p∈AV acc,∃v∈vs,v.1=p.1/\0<=v.1/\v.1<O c.j7:=λp hp=>by
  rcases (hA p).1 (LB.1 hp) with ⟨j,hj,_,rfl⟩|⟨j,hj,_,_,h,_⟩
  .exact ⟨_,C5 hj,rfl,hC.v _ (C5 hj)⟩
  .obtain ⟨v,hv,e⟩:=hC.g _ (C5 hj)
   exact ⟨v,hv,V,hC.v v hv⟩
 have hPl:O (AV acc)<=1000:=by
  have:=Ad (sortP acc) (O (sortP acc));rw [X0] at this;rw [AV,X0];omega
 clear hA;generalize AV acc=P at *
 obtain ⟨_,_,rfl,rfl,pB⟩:=p29 c hc.sm hc.val V V P hPl;have hO:=λx=>others hc.val hP (Y5 (cN c)) (x:=x)
 have qG:=Al c hc.sm.sm.eD (P.filter (Y5 (cN c))) (xO (jM c) (P.filter (Y5 (cN c)))) 8;generalize aK c (P.filter (Y5 (cN c))) _ 8=a at *
 unfold N7 at pA pB;refine Pf.gr 12 ?_;refine tc (D5 100 (O xs)||D5 10 (O ys)) trivial (λh=>?_) (λh=>?_)
 .refine gc hK ?_
  exact ⟨_,rfl,rfl⟩
 repeat' (first|refine cl (pM) ?_|refine cl (pC) ?_|refine iX pA ?_|refine iX pB ?_|refine gx ?_|fail)
 refine Ex.J4 (λq T' H' =>∃(j:Nat),j<=O a/\q=O a - j/\T' =[.any,.any,.any,.ptr 0 0,.any,.d (s7 iw vs),.any,.d (s7 K6 a),.d (Z j),.any,.any,.any,.any,.any]/\H' =[.cells (c.enc.map .d)]) ?_ (k:=O a) ⟨0,V,V,rfl,rfl⟩;rintro q T' H' ⟨j,hj,rfl,rfl,rfl⟩;refine Ex.seq ?_;refine tl (j:Int) (O a:Int) (λh4=>?_) (λh4=>?_)
 .have gj:j<O a:=V
  have hx:=hO (Y a j) (C5 gj);refine Ex.skip ?_;refine Ex.seq ?_;refine Ex.block ?_;refine gr ?_
  rcases hx with ⟨hx,hy⟩|⟨hx,hy⟩
  .obtain ⟨ns,aa⟩:∃ns,QB c (Y a j).1 (Y a j).2=ns:=⟨_,rfl⟩
   rw [aa] at hy;have hnl:O ns<=1000:=by
    rw [<- aa]
    rcases hx with ⟨h6,h7,h8⟩|⟨h6,h7,h8⟩|⟨h6,h7,h8⟩
    .rw [h6,QC];simp
    .rw [h6,QD];simp
    .rw [h6,QE];exact p7 (hc.sm.bk _ h8) (by decide)
   refine Ex.Hw (λst=>∃w,(w= .d (s7 encS ns)\/w=A8 1 encS ns)/\st=⟨[.any,.any,.any,.ptr 0 0,.any,.d (s7 iw vs),.any,.d (s7 K6 a),.d (Z j),w,.any,.any,.any,.d (Z (Y a j).1)],[.cells (c.enc.map .d)]⟩) ?_ ?_
   .rcases hx with ⟨h6,h7,h8⟩|⟨h6,h7,h8⟩|⟨h6,h7,h8⟩
    .rw [h6,QC] at aa
     have e0:x4 (Y a j).1 0=W:=by rw [o6];simp [h6]
     refine tc W e0 (λh=>?_) (λh=>by cases h)
     repeat' (first|refine qm (cs:=(encS (Y c.j7 (Y a j).2.toNat).name).map .d) ?_|refine gx ?_|fail)
     exact ⟨_,.inr (by rw [<- aa];rfl),rfl⟩
    .rw [h6,QD] at aa
     have e0:x4 (Y a j).1 0=F:=by rw [o6];simp [h6]
     have e6:x4 (Y a j).1 6=W:=by rw [o6];simp [h6]
     refine tc F e0 (λh=>by cases h) (λ_=>?_);refine tc W e6 (λh=>?_) (λh=>by cases h)
     repeat' (first|refine qm (cs:=(encS (Y c.J6 (Y a j).2.toNat).table).map .d) ?_|refine gx ?_|fail)
     exact ⟨_,.inr (by rw [<- aa];rfl),rfl⟩
    .rw [h6,QE] at aa
     have e0:x4 (Y a j).1 0=F:=by rw [o6];simp [h6]
     have e6:x4 (Y a j).1 6=F:=by rw [o6];simp [h6]
     have e7:x4 (Y a j).1 7=W:=by rw [o6];simp [h6]
     refine tc F e0 (λh=>by cases h) (λ_=>?_);refine tc F e6 (λh=>by cases h) (λ_=>?_);refine tc W e7 (λh=>?_) (λh=>by cases h);refine gr ?_;exact ⟨_,.inl (by rw [<- aa];rfl),rfl⟩
   .rintro _ ⟨w,hw,rfl⟩
    rcases hw with rfl|rfl
    all_goals
     refine gr ?_;refine Ex.J4 (λq T' H' =>∃k:Nat,k<=O ns/\q=O ns - k/\T' =[.any,.any,.any,.ptr 0 0,.any,.d (s7 iw vs),.any,.d (s7 K6 a),.d (Z j),_,.d (.bool (Ii c vs ns k 0)),.d (Z k),.any,.any]/\H' =[.cells (c.enc.map .d)]) ?_ (k:=O ns) ⟨0,V,V,by rw [NN];rfl,rfl⟩;rintro q T' H' ⟨k,hk,rfl,rfl,rfl⟩;refine Ex.seq ?_;refine tl (k:Int) (O ns:Int) (λh5=>?_) (λh5=>?_)
     .have gk:k<O ns:=V
      refine gr ?_;refine Ex.J4 (λq T' H' =>∃m:Nat,m<=O vs/\q=O vs - m/\T' =[.any,.any,.any,.ptr 0 0,.any,.d (s7 iw vs),.any,.d (s7 K6 a),.d (Z j),_,.d (.bool (Ii c vs ns k m)),.d (Z k),.d (Z m),.any]/\H' =[.cells (c.enc.map .d)]) ?_ (k:=O vs) ⟨0,V,V,rfl,rfl⟩;rintro q T' H' ⟨m,hm,rfl,rfl,rfl⟩;refine Ex.seq ?_;refine tl (m:Int) (O vs:Int) (λh6=>?_) (λh6=>?_)
      .have gm:m<O vs:=V
       have gv:=hC.v _ (C5 gm);have ge:=Ky (c:=c) (ns:=ns) (k:=k) gm;refine Ex.skip ?_;cases hF:Ii c vs ns k m
       .rw [hF,Bool.false_or] at ge
        repeat' (first|refine gy ?_|refine fq (λhw=>?_) λhw=>?_|refine ⟨_,rfl,?_⟩|fail)
        exact ⟨O vs - (m+1),V,m+1,V,rfl,by rw [ge];rfl,rfl⟩
       .rw [hF,Bool.true_or] at ge
        repeat' (first|refine gy ?_|refine fq (λhw=>?_) λhw=>?_|refine ⟨_,rfl,?_⟩|fail)
        exact ⟨O vs - (m+1),V,m+1,V,rfl,by rw [ge];rfl,rfl⟩
      .obtain rfl:m=O vs:=V
       rw [NO gk];refine gr ?_;exact ⟨O ns - (k+1),V,k+1,V,rfl,rfl,rfl⟩
     .obtain rfl:k=O ns:=V
      rw [NM,hy];refine gr ?_;refine tc F trivial (λh=>by cases h) (λ_=>?_);refine gr ?_;exact ⟨O a - (j+1),V,j+1,V,rfl,rfl,rfl⟩
  .have e0:x4 (Y a j).1 0=F:=by rw [o6];simp;omega
   have e6:x4 (Y a j).1 6=F:=by rw [o6];simp;omega
   have e7:x4 (Y a j).1 7=F:=by rw [o6];simp;omega
   refine tc F e0 (λh=>by cases h) (λ_=>?_);refine tc F e6 (λh=>by cases h) (λ_=>?_);refine tc F e7 (λh=>by cases h) (λ_=>?_);refine gr ?_;exact ⟨O a - (j+1),V,j+1,V,rfl,rfl,rfl⟩
 refine gc hK ?_;exact ⟨_,rfl,rfl⟩
end Go.Proofs.YtibjocmpkoepoaaGreat


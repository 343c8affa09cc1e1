import Derived.Test.YtibjocmpkoepoaaGreatN4
import Derived.Test.YtibjocmpkoepoaaGreatN5
set_option linter.all false
open Bool renaming false_eq_true→j6,or_eq_false_iff→B2,true→W,false→F
open List renaming getElem_of_mem→E0,take_length→D3,take_of_length_le→s9,length→O
open Nat renaming le_of_ble_eq_true→j5,le_refl→k9,le_trans→o5,lt_or_ge→y8
open Option renaming some→J,none→K
namespace Go.Proofs.YtibjocmpkoepoaaGreat
open Go.z6 Go.z6.S
attribute [local irreducible] Rx Ry Rn Ex Pf
def OP (l:List C8)(n:Int)(hl:O l<=1000000):Pf A 85 [.d (E4 l),.d (Z n)] (.d (.bool (iO l n))):=by
 refine Pf.go 2 ?_;unfold E4;refine gr ?_;refine Ex.J1 (λk T' H' =>∃i:Nat,i<=O l/\k=O l - i/\T' =[.d (E4 l),.d (Z n),.any,.d (Z i)]/\H' =[]/\∀j,j<i->(Y l j).1≠n) ?_ (k:=O l) ⟨0,V,V,rfl,rfl,λ_ h=>V⟩;rintro k T' H' ⟨i,hi,rfl,rfl,rfl,hb⟩;refine Ex.seq ?_;unfold E4;refine tl (i:Int) (O l:Int) (λh1=>?_) (λh1=>?_)
 .have g1:i<O l:=V
  refine Ex.skip ?_;refine Ex.seq ?_;refine Ex.block ?_;refine tB (s7 (Y l i).1 n) ?_ (λh5=>?_) (λh5=>?_)
  .repeat' (first|refine gx ?_|refine fq (λhw=>?_) λhw=>?_|refine ⟨rfl,rfl,_,rfl,?_⟩|refine ⟨rfl,rfl⟩|fail)
   rfl
  .have h5:(Y l i).1=n:=by simpa [o6] using h5
   have:iO l n=W:=AD.2 ⟨_,E7 g1,h5⟩;refine gr ?_;exact ⟨_,rfl,by simp [this,j4]⟩
  .have h5:(Y l i).1≠n:=by simpa [o6] using h5
   refine gr ?_;refine ⟨O l - (i+1),V,i+1,V,rfl,rfl,rfl,λj hj=>?_⟩
   rcases y8 j i with h2|h2
   .exact hb j h2
   .rwa [show j=i by omega]
 .have:iO l n=F:=by
   rw [<- Bool.not_eq_true,AD];rintro ⟨q,h,e⟩;obtain ⟨j,hj,rfl⟩:=E0 h;rw [<- A7 hj] at e;exact hb j V e
  refine gr ?_;exact ⟨_,rfl,by simp [this,j4]⟩
set_option maxHeartbeats 4000000 in
def Ur (c:p7)(hs:D9 c)(hv:C4 c=W)(g:List C8)(hg:O g<=1000):Pf A 84 [cat c,.d (E4 g)] (.d (E4 (g.filter (O3 (R2 c))))):=by
 obtain ⟨w,Vz⟩:∃w,O3 (R2 c)=w:=⟨_,rfl⟩;rw [Vz];refine Pf.go 6 ?_;unfold E4;refine gr ?_;refine Ex.L4 (λq T' H' =>∃(i:Nat),i<=O g/\q=O g - i/\T' =[.any,.d (x3 E8 g),.ptr 0 0,.any,A8 2 E8 ((g.take i).filter w),.d (Z i),.any,.any]/\H' =[.cells (c.enc.map .d)]) ?_ (k:=O g) ⟨0,V,V,rfl,rfl⟩;rintro q T' H' ⟨i,hi,rfl,rfl,rfl⟩;refine Ex.seq ?_;refine tl (i:Int) (O g:Int) (λh2=>?_) (λh2=>?_)
 .have g1:i<O g:=V
  have e1:(g.take (i+1)).filter w=(g.take i).filter w++(if w (Y g i) then [Y g i] else []):=by
   rw [D2 V,List.filter_append]
   congr 1
   simp only [List.filter_cons,List.filter_nil]
  have e2:O ((g.take i).filter w)<=1000:=o5 (List.length_filter_le _ _) D;obtain ⟨acc,hacc⟩:∃acc,(g.take i).filter w=acc:=⟨_,rfl⟩;obtain ⟨p,hp⟩:∃p,Y g i=p:=⟨_,rfl⟩;rw [hacc,hp] at e1;rw [hacc] at e2 ⊢;refine Ex.skip ?_;refine Ex.seq ?_;refine Ex.block ?_;have hq:∃(v:c7) (n:Int),Pf A 20 [cat c,.d (Z p.1)] v/\(v= .own 1 0 []/\n=0\/∃ty:List Int,v= .d (ints ty)/\n=O ty)/\w p=(U4 0 p.2&&D0 p.2 n):=by
   rw [<- Vz];cases h:R5 c p.1 with
   |true=>exact ⟨_,_,It c hs _ h,.inr ⟨_,rfl,rfl⟩,MC h⟩
   |false=>exact ⟨_,0,Sx c hs _ h,.inl ⟨rfl,rfl⟩,by rw [MB hv h];cases h1:U4 0 p.2<;>cases h2:D0 p.2 0<;>simp_all [r7,s4];omega⟩
  obtain ⟨v,n,p20,HV,hwp⟩:=hq;refine Ex.seq ?_;refine gr ?_;rw [hp]
  rcases HV with ⟨rfl,rfl⟩|⟨ty,rfl,rfl⟩
  all_goals
   refine gc p20 ?_;refine tB (w p) ?_ (λh3=>?_) (λh3=>?_)
   .rw [hwp]
    repeat' (first|refine gx ?_|refine fq (λhw=>?_) λhw=>?_|refine ⟨rfl,rfl,_,rfl,?_⟩|refine ⟨rfl,rfl⟩|fail)
    all_goals simp_all
   .repeat' (first|refine oN (enc:=E8) p ?_|refine yY (ys:=[p]) (h2:=?_)|refine gx ?_|fail)
    exact ⟨O g - (i+1),V,_,_,A6 (j5 rfl) (j5 rfl),i+1,V,rfl,by rw [e1,h3];rfl,rfl⟩
   .refine gr ?_
    exact ⟨O g - (i+1),V,_,_,A6 (j5 rfl) (j5 rfl),i+1,V,rfl,by rw [e1,h3];simp;rfl,rfl⟩
 .obtain rfl:i=O g:=V
  rw [D3];refine gr ?_;exact ⟨_,rfl,rfl⟩
def ZW (l:List C8)(p:C8)(hl:O l<=1000000):Pf A 87 [.d (E4 l),qC p] (.d (.bool (decide (p∈l)))):=by
 refine Pf.go 3 ?_;unfold qC E4;refine gr ?_;refine Ex.J1 (λk T' H' =>∃i:Nat,i<=O l/\k=O l - i/\T' =[.d (E4 l),.any,.ptr 0 0,.any,.d (Z i)]/\H' =[.cells [.d (Z p.1),.d (Z p.2)]]/\∀j,j<i->Y l j≠p) ?_ (k:=O l) ⟨0,V,V,rfl,rfl,λ_ h=>V⟩;rintro k T' H' ⟨i,hi,rfl,rfl,rfl,hb⟩;refine Ex.seq ?_;unfold E4;refine tl (i:Int) (O l:Int) (λh1=>?_) (λh1=>?_)
 .have g1:i<O l:=V
  refine Ex.skip ?_;refine Ex.seq ?_;refine Ex.block ?_;refine tB (decide (Y l i=p)) ?_ (λh5=>?_) (λh5=>?_)
  .repeat' (first|refine gx ?_|refine fq (λhw=>?_) λhw=>?_|refine ⟨rfl,rfl,_,rfl,?_⟩|refine ⟨rfl,rfl⟩|fail)
   rw [BD];simp
  .have h5:Y l i=p:=by simpa using h5
   have:p∈l:=h5 ▸ E7 g1;refine gr ?_;exact ⟨_,rfl,by simp [this,j4]⟩
  .have h5:Y l i≠p:=by simpa using h5
   refine gr ?_;refine ⟨O l - (i+1),V,i+1,V,rfl,rfl,rfl,λj hj=>?_⟩
   rcases y8 j i with h2|h2
   .exact hb j h2
   .rwa [show j=i by omega]
 .have:p∉l:=λh=>by
   obtain ⟨j,hj,e⟩:=E0 h;exact hb j V ((A7 hj).trans e)
  refine gr ?_;exact ⟨_,rfl,by simp [this,j4]⟩
theorem Dv:∀(l:List I4) (k i:Nat),k<O l->((l.take k).any λy=>K7 y (Y l k))=F->I5 (Y l k) l i=((i+k:Nat):Int)
 |[],k,i,h,_=>by simp at h
 |x::l,0,i,_,_=>by simp [I5,O1,E2]
 |x::l,k+1,i,h,h2=>by
  simp only [List.take_succ_cons,List.any_cons,B2,bp] at h2 ⊢;simp only [I5,h2.1,j6,if_false];rw [Dv l k (i+1) (by simpa using h) h2.2]
  congr 1
  omega
def LV (c:p7)(s:I4):eH c s=M4 c s:=by rw [FO];rfl
def HG {c:p7}(hv:C4 c=W){k:Nat}(h:k<p7.ns c):M4 c (Y (p7.sn c) k)=(k:Int):=by
 obtain ⟨h1,_,_⟩:=W6 hv;have aO:p7.ns c=O c.j7+O c.views:=rfl;have hnl:=P6 c;have he:=(oB (h1 k V)).2;rw [qy c h,<- Iz c V] at he;have:=Dv (p7.sn c) k 0 (by rw [S3];exact h) he;rw [<- LV];unfold eH F0;rw [hv,if_pos rfl,s9 (by rw [S3];exact k9 _),this,Nat.zero_add]
def UO (c:p7){i:Nat}(h:i<O c.j7):Y (p7.sn c) i=(Y c.j7 i).name:=by
 have h2:i<O (p7.sn c):=by simp [p7.sn];omega
 rw [A7 h2,A7 h];simp [p7.sn,h]
def Zk (c:p7){i:Nat}(h:i<O c.views):Y (p7.sn c) (O c.j7+i)=(Y c.views i).name:=by
 have h2:O c.j7+i<O (p7.sn c):=by simp [p7.sn];omega
 rw [A7 h2,A7 h];simp [p7.sn]
def Lb {l:List I4}{j:Nat}(h:j<O l)(P:I4->Bool):(l.take (j+1)).any P=((l.take j).any P||P (Y l j)):=by
 rw [D2 h,List.any_append];simp
set_option maxHeartbeats 16000000 in
def p34 (c:p7)(hs:D9 c)(hv:C4 c=W)(ht:O c.j7<=8)(hw:O c.views<=12)(l:List C8)(hl:O l<=50) :
  ∃g r,g=l.filter (O3 (R2 c))/\r=sj (dN c) g/\Pf A 34 [cat c,.d (E4 l)] (.d (E4 (P9 c g r 8))):=by
 have aO:p7.ns c=O c.j7+O c.views:=rfl;have XM:=yR c hs;rw [hv] at XM;have Ur:=Ur c hs hv l V;have hgl:O (l.filter (O3 (R2 c)))<=50:=o5 (List.length_filter_le _ _) hl;have p78:=at8 c hs hv ht hw (l.filter (O3 (R2 c))) hgl;rw [List.filter_filter,show (λa=>O3 (R2 c) a&&O3 (R2 c) a)=O3 (R2 c) from funext λ_=>Bool.and_self _] at p78;have hrl:O (sj (dN c) (l.filter (O3 (R2 c))))<=100100:=by
  rw [sj,Y6];have:=xe (dN c) (l.filter (O3 (R2 c)));have:=jI hv ht hw;omega
 refine ⟨_,_,rfl,rfl,?_⟩;generalize l.filter (O3 (R2 c))=g at *
 generalize sj (dN c) g=r at *
 have Tm:=λs=>JS c hs s
 simp only [LV] at Tm;have hR:=λn=>OP r n V
 have hG:=λn=>OP g n V
 have hfl:=λk=>uI c hs.sm.dP g r k
 have hfw:=hs.sm.dP;unfold p7.dP at hfw;refine Pf.go 15 ?_;unfold E4 at Ur p78 hR hG ⊢;refine gr ?_;refine tc F XM (λh=>by cases h) (λ_=>?_);refine gc (And.intro Ur p78) ?_;refine Ex.L4 (λq T' H' =>∃i:Nat,i<=O c.j7/\q=O c.j7 - i/\T' =[.any,.any,.ptr 0 0,.any,.d (x3 E8 g),.d (x3 E8 r),A8 2 E8 (V9 0 (N8 c g r 0) (P9 c g r 0) i),.d (Z i),.any,.any,.any,.any,.any,.any,.any,.any,.any]/\H' =[.cells (c.enc.map .d)]) ?_ (k:=O c.j7) ⟨0,V,V,rfl,rfl⟩;rintro q T' H' ⟨i,hi,rfl,rfl,rfl⟩;refine Ex.seq ?_;refine tl (i:Int) (O c.j7:Int) (λh1=>?_) (λh1=>?_)
 .have g1:i<O c.j7:=V
  have g2:=V1 0 (N8 c g r 0) (P9 c g r 0) i;have g3:=hfl 0;have ge:V9 0 (N8 c g r 0) (P9 c g r 0) (i+1)=fG (V9 0 (N8 c g r 0) (P9 c g r 0) i) 0 i (N8 c g r 0 i):=rfl;obtain ⟨X,hX⟩:∃X,V9 0 (N8 c g r 0) (P9 c g r 0) i=X:=⟨_,rfl⟩;rw [hX] at g2 ge ⊢;have gv:iO r i=N8 c g r 0 i:=by
   show iO r i=iO r (M4 c (Y c.j7 i).name)
   rw [<- UO c g1,HG hv V]
  refine Ex.skip ?_;refine Ex.seq ?_;refine Ex.block ?_;refine tB (N8 c g r 0 i) ?_ (λh5=>?_) (λh5=>?_)
  .repeat' (first|refine cl (hR _) ?_|refine gx ?_|refine fq (λhw=>?_) λhw=>?_|refine ⟨rfl,rfl,_,rfl,?_⟩|refine ⟨rfl,rfl⟩|fail)
   exact gv
  .have hr:roomFor (O X+[((0,i):C8)].length) 16=W:=jU D
   repeat' (first|refine mJ (cs:=(E8 (0,(i:Int))).map .d) ?_|refine oN (enc:=E8) (0,(i:Int)) ?_|refine yY (enc:=E8) (ys:=[(0,(i:Int))]) (hr:=hr) (h2:=?_)|refine gx ?_|fail)
   exact ⟨O c.j7 - (i+1),V,_,_,A6 (j5 rfl) (o5 (O0 _ _) (by simp [C9,P8])),i+1,V,rfl,by rw [ge,h5];rfl,rfl⟩
  .refine gr ?_
   exact ⟨O c.j7 - (i+1),V,_,_,A6 (j5 rfl) (o5 (O0 _ _) (by simp [C9,P8])),i+1,V,rfl,by rw [ge,h5];rfl,rfl⟩
 obtain rfl:i=O c.j7:=V
 clear h1 hi;have ge:V9 0 (N8 c g r 0) (P9 c g r 0) (O c.j7)=P9 c g r 1:=rfl;rw [ge];refine gr ?_;refine Ex.L4 (λq T' H' =>∃i:Nat,i<=O c.views/\q=O c.views - i/\T' =[.any,.any,.ptr 0 0,.any,.d (x3 E8 g),.d (x3 E8 r),A8 2 E8 (V9 1 (N8 c g r 1) (P9 c g r 1) i),.any,.d (Z i),.any,.any,.any,.any,.any,.any,.any,.any]/\H' =[.cells (c.enc.map .d)]) ?_ (k:=O c.views) ⟨0,V,V,rfl,rfl⟩;rintro q T' H' ⟨i,hi,rfl,rfl,rfl⟩;refine Ex.seq ?_;refine tl (i:Int) (O c.views:Int) (λh1=>?_) (λh1=>?_)
 .have g1:i<O c.views:=V
  have g2:=V1 1 (N8 c g r 1) (P9 c g r 1) i;have g3:=hfl 1;have ge:V9 1 (N8 c g r 1) (P9 c g r 1) (i+1)=fG (V9 1 (N8 c g r 1) (P9 c g r 1) i) 1 i (N8 c g r 1 i):=rfl;obtain ⟨X,hX⟩:∃X,V9 1 (N8 c g r 1) (P9 c g r 1) i=X:=⟨_,rfl⟩;rw [hX] at g2 ge ⊢;have gv:iO r (O c.j7+i)=N8 c g r 1 i:=by
   show iO r (O c.j7+i)=iO r (M4 c (Y c.views i).name)
   rw [<- Zk c g1,HG hv V];rfl
  refine Ex.skip ?_;refine Ex.seq ?_;refine Ex.block ?_;refine tB (N8 c g r 1 i) ?_ (λh5=>?_) (λh5=>?_)
  .repeat' (first|refine ad V ?_|refine cl (hR _) ?_|refine gx ?_|refine fq (λhw=>?_) λhw=>?_|refine ⟨rfl,rfl,_,rfl,?_⟩|refine ⟨rfl,rfl⟩|fail)
   exact gv
  .have hr:roomFor (O X+[((1,i):C8)].length) 16=W:=jU D
   repeat' (first|refine mJ (cs:=(E8 (1,(i:Int))).map .d) ?_|refine oN (enc:=E8) (1,(i:Int)) ?_|refine yY (enc:=E8) (ys:=[(1,(i:Int))]) (hr:=hr) (h2:=?_)|refine gx ?_|fail)
   exact ⟨O c.views - (i+1),V,_,_,A6 (j5 rfl) (o5 (O0 _ _) (by simp [C9,P8])),i+1,V,rfl,by rw [ge,h5];rfl,rfl⟩
  .refine gr ?_
   exact ⟨O c.views - (i+1),V,_,_,A6 (j5 rfl) (o5 (O0 _ _) (by simp [C9,P8])),i+1,V,rfl,by rw [ge,h5];rfl,rfl⟩
 obtain rfl:i=O c.views:=V
 clear h1 hi;have ge:V9 1 (N8 c g r 1) (P9 c g r 1) (O c.views)=P9 c g r 2:=rfl;rw [ge];refine gr ?_;refine Ex.L4 (λq T' H' =>∃i:Nat,i<=O c.idxs/\q=O c.idxs - i/\T' =[.any,.any,.ptr 0 0,.any,.d (x3 E8 g),.d (x3 E8 r),A8 2 E8 (V9 2 (N8 c g r 2) (P9 c g r 2) i),.any,.any,.d (Z i),.any,.any,.any,.any,.any,.any,.any]/\H' =[.cells (c.enc.map .d)]) ?_ (k:=O c.idxs) ⟨0,V,V,rfl,rfl⟩;rintro q T' H' ⟨i,hi,rfl,rfl,rfl⟩;refine Ex.seq ?_;refine tl (i:Int) (O c.idxs:Int) (λh1=>?_) (λh1=>?_)
 .have g1:i<O c.idxs:=V
  have g2:=V1 2 (N8 c g r 2) (P9 c g r 2) i;have g3:=hfl 2;have ge:V9 2 (N8 c g r 2) (P9 c g r 2) (i+1)=fG (V9 2 (N8 c g r 2) (P9 c g r 2) i) 2 i (N8 c g r 2 i):=rfl;obtain ⟨X,hX⟩:∃X,V9 2 (N8 c g r 2) (P9 c g r 2) i=X:=⟨_,rfl⟩;rw [hX] at g2 ge ⊢;have gv:iO r (M4 c (Y c.idxs i).source)=N8 c g r 2 i:=rfl;refine Ex.skip ?_;refine Ex.seq ?_;refine Ex.block ?_;refine tB (N8 c g r 2 i) ?_ (λh5=>?_) (λh5=>?_)
  .repeat' (first|refine cl (Tm _) ?_|refine cl (hR _) ?_|refine gx ?_|refine fq (λhw=>?_) λhw=>?_|refine ⟨rfl,rfl,_,rfl,?_⟩|refine ⟨rfl,rfl⟩|fail)
   exact gv
  .have hr:roomFor (O X+[((2,i):C8)].length) 16=W:=jU D
   repeat' (first|refine mJ (cs:=(E8 (2,(i:Int))).map .d) ?_|refine oN (enc:=E8) (2,(i:Int)) ?_|refine yY (enc:=E8) (ys:=[(2,(i:Int))]) (hr:=hr) (h2:=?_)|refine gx ?_|fail)
   exact ⟨O c.idxs - (i+1),V,_,_,A6 (j5 rfl) (o5 (O0 _ _) (by simp [C9,P8])),i+1,V,rfl,by rw [ge,h5];rfl,rfl⟩
  .refine gr ?_
   exact ⟨O c.idxs - (i+1),V,_,_,A6 (j5 rfl) (o5 (O0 _ _) (by simp [C9,P8])),i+1,V,rfl,by rw [ge,h5];rfl,rfl⟩
 obtain rfl:i=O c.idxs:=V
 clear h1 hi;have ge:V9 2 (N8 c g r 2) (P9 c g r 2) (O c.idxs)=P9 c g r 3:=rfl;rw [ge];refine gr ?_;refine Ex.L4 (λq T' H' =>∃i:Nat,i<=O c.F4/\q=O c.F4 - i/\T' =[.any,.any,.ptr 0 0,.any,.d (x3 E8 g),.d (x3 E8 r),A8 2 E8 (V9 3 (N8 c g r 3) (P9 c g r 3) i),.any,.any,.any,.d (Z i),.any,.any,.any,.any,.any,.any]/\H' =[.cells (c.enc.map .d)]) ?_ (k:=O c.F4) ⟨0,V,V,rfl,rfl⟩;rintro q T' H' ⟨i,hi,rfl,rfl,rfl⟩;refine Ex.seq ?_;refine tl (i:Int) (O c.F4:Int) (λh1=>?_) (λh1=>?_)
 .have g1:i<O c.F4:=V
  have g2:=V1 3 (N8 c g r 3) (P9 c g r 3) i;have g3:=hfl 3;have ge:V9 3 (N8 c g r 3) (P9 c g r 3) (i+1)=fG (V9 3 (N8 c g r 3) (P9 c g r 3) i) 3 i (N8 c g r 3 i):=rfl;obtain ⟨X,hX⟩:∃X,V9 3 (N8 c g r 3) (P9 c g r 3) i=X:=⟨_,rfl⟩;rw [hX] at g2 ge ⊢;have gv:decide ((M4 c (Y c.F4 i).source,(Y c.F4 i).col)∈r)=N8 c g r 3 i:=rfl;have ZW:=ZW r (M4 c (Y c.F4 i).source,(Y c.F4 i).col) V;unfold E4 qC at ZW;refine Ex.skip ?_;refine Ex.seq ?_;refine Ex.block ?_;refine tB (N8 c g r 3 i) ?_ (λh5=>?_) (λh5=>?_)
  .repeat' (first|refine cl (Tm _) ?_|refine cl (ZW) ?_|refine mJ ?_|refine gx ?_|refine fq (λhw=>?_) λhw=>?_|refine ⟨rfl,rfl,_,rfl,?_⟩|refine ⟨rfl,rfl⟩|fail)
   exact gv
  .have hr:roomFor (O X+[((3,i):C8)].length) 16=W:=jU D
   repeat' (first|refine mJ (cs:=(E8 (3,(i:Int))).map .d) ?_|refine oN (enc:=E8) (3,(i:Int)) ?_|refine yY (enc:=E8) (ys:=[(3,(i:Int))]) (hr:=hr) (h2:=?_)|refine gx ?_|fail)
   exact ⟨O c.F4 - (i+1),V,_,_,A6 (j5 rfl) (o5 (O0 _ _) (by simp [C9,P8])),i+1,V,rfl,by rw [ge,h5];rfl,rfl⟩
  .refine gr ?_
   exact ⟨O c.F4 - (i+1),V,_,_,A6 (j5 rfl) (o5 (O0 _ _) (by simp [C9,P8])),i+1,V,rfl,by rw [ge,h5];rfl,rfl⟩
 obtain rfl:i=O c.F4:=V
 clear h1 hi;have ge:V9 3 (N8 c g r 3) (P9 c g r 3) (O c.F4)=P9 c g r 4:=rfl;rw [ge];refine gr ?_;refine Ex.L4 (λq T' H' =>∃i:Nat,i<=O c.H8/\q=O c.H8 - i/\T' =[.any,.any,.ptr 0 0,.any,.d (x3 E8 g),.d (x3 E8 r),A8 2 E8 (V9 4 (N8 c g r 4) (P9 c g r 4) i),.any,.any,.any,.any,.d (Z i),.any,.any,.any,.any,.any]/\H' =[.cells (c.enc.map .d)]) ?_ (k:=O c.H8) ⟨0,V,V,rfl,rfl⟩;rintro q T' H' ⟨i,hi,rfl,rfl,rfl⟩;refine Ex.seq ?_;refine tl (i:Int) (O c.H8:Int) (λh1=>?_) (λh1=>?_)
 .have g1:i<O c.H8:=V
  have g2:=V1 4 (N8 c g r 4) (P9 c g r 4) i;have g3:=hfl 4;have ge:V9 4 (N8 c g r 4) (P9 c g r 4) (i+1)=fG (V9 4 (N8 c g r 4) (P9 c g r 4) i) 4 i (N8 c g r 4 i):=rfl;obtain ⟨X,hX⟩:∃X,V9 4 (N8 c g r 4) (P9 c g r 4) i=X:=⟨_,rfl⟩;rw [hX] at g2 ge ⊢;have gv:iO r (M4 c (Y c.H8 i).source)=N8 c g r 4 i:=rfl;refine Ex.skip ?_;refine Ex.seq ?_;refine Ex.block ?_;refine tB (N8 c g r 4 i) ?_ (λh5=>?_) (λh5=>?_)
  .repeat' (first|refine cl (Tm _) ?_|refine cl (hR _) ?_|refine gx ?_|refine fq (λhw=>?_) λhw=>?_|refine ⟨rfl,rfl,_,rfl,?_⟩|refine ⟨rfl,rfl⟩|fail)
   exact gv
  .have hr:roomFor (O X+[((4,i):C8)].length) 16=W:=jU D
   repeat' (first|refine mJ (cs:=(E8 (4,(i:Int))).map .d) ?_|refine oN (enc:=E8) (4,(i:Int)) ?_|refine yY (enc:=E8) (ys:=[(4,(i:Int))]) (hr:=hr) (h2:=?_)|refine gx ?_|fail)
   exact ⟨O c.H8 - (i+1),V,_,_,A6 (j5 rfl) (o5 (O0 _ _) (by simp [C9,P8])),i+1,V,rfl,by rw [ge,h5];rfl,rfl⟩
  .refine gr ?_
   exact ⟨O c.H8 - (i+1),V,_,_,A6 (j5 rfl) (o5 (O0 _ _) (by simp [C9,P8])),i+1,V,rfl,by rw [ge,h5];rfl,rfl⟩
 obtain rfl:i=O c.H8:=V
 clear h1 hi;have ge:V9 4 (N8 c g r 4) (P9 c g r 4) (O c.H8)=P9 c g r 5:=rfl;rw [ge];refine gr ?_;refine Ex.L4 (λq T' H' =>∃i:Nat,i<=O c.J5/\q=O c.J5 - i/\T' =[.any,.any,.ptr 0 0,.any,.d (x3 E8 g),.d (x3 E8 r),A8 2 E8 (V9 5 (N8 c g r 5) (P9 c g r 5) i),.any,.any,.any,.any,.any,.d (Z i),.any,.any,.any,.any]/\H' =[.cells (c.enc.map .d)]) ?_ (k:=O c.J5) ⟨0,V,V,rfl,rfl⟩;rintro q T' H' ⟨i,hi,rfl,rfl,rfl⟩;refine Ex.seq ?_;refine tl (i:Int) (O c.J5:Int) (λh1=>?_) (λh1=>?_)
 .have g1:i<O c.J5:=V
  have g2:=V1 5 (N8 c g r 5) (P9 c g r 5) i;have g3:=hfl 5;have ge:V9 5 (N8 c g r 5) (P9 c g r 5) (i+1)=fG (V9 5 (N8 c g r 5) (P9 c g r 5) i) 5 i (N8 c g r 5 i):=rfl;obtain ⟨X,hX⟩:∃X,V9 5 (N8 c g r 5) (P9 c g r 5) i=X:=⟨_,rfl⟩;rw [hX] at g2 ge ⊢;have gv:iO r (M4 c (Y c.J5 i).source)=N8 c g r 5 i:=rfl;refine Ex.skip ?_;refine Ex.seq ?_;refine Ex.block ?_;refine tB (N8 c g r 5 i) ?_ (λh5=>?_) (λh5=>?_)
  .repeat' (first|refine cl (Tm _) ?_|refine cl (hR _) ?_|refine gx ?_|refine fq (λhw=>?_) λhw=>?_|refine ⟨rfl,rfl,_,rfl,?_⟩|refine ⟨rfl,rfl⟩|fail)
   exact gv
  .have hr:roomFor (O X+[((5,i):C8)].length) 16=W:=jU D
   repeat' (first|refine mJ (cs:=(E8 (5,(i:Int))).map .d) ?_|refine oN (enc:=E8) (5,(i:Int)) ?_|refine yY (enc:=E8) (ys:=[(5,(i:Int))]) (hr:=hr) (h2:=?_)|refine gx ?_|fail)
   exact ⟨O c.J5 - (i+1),V,_,_,A6 (j5 rfl) (o5 (O0 _ _) (by simp [C9,P8])),i+1,V,rfl,by rw [ge,h5];rfl,rfl⟩
  .refine gr ?_
   exact ⟨O c.J5 - (i+1),V,_,_,A6 (j5 rfl) (o5 (O0 _ _) (by simp [C9,P8])),i+1,V,rfl,by rw [ge,h5];rfl,rfl⟩
 obtain rfl:i=O c.J5:=V
 clear h1 hi;have ge:V9 5 (N8 c g r 5) (P9 c g r 5) (O c.J5)=P9 c g r 6:=rfl;rw [ge];refine gr ?_;refine Ex.L4 (λq T' H' =>∃i:Nat,i<=O c.J9/\q=O c.J9 - i/\T' =[.any,.any,.ptr 0 0,.any,.d (x3 E8 g),.any,A8 2 E8 (V9 6 (N8 c g r 6) (P9 c g r 6) i),.any,.any,.any,.any,.any,.any,.d (Z i),.any,.any,.any]/\H' =[.cells (c.enc.map .d)]) ?_ (k:=O c.J9) ⟨0,V,V,rfl,rfl⟩;rintro q T' H' ⟨i,hi,rfl,rfl,rfl⟩;refine Ex.seq ?_;refine tl (i:Int) (O c.J9:Int) (λh1=>?_) (λh1=>?_)
 .have g1:i<O c.J9:=V
  have g2:=V1 6 (N8 c g r 6) (P9 c g r 6) i;have g3:=hfl 6;have ge:V9 6 (N8 c g r 6) (P9 c g r 6) (i+1)=fG (V9 6 (N8 c g r 6) (P9 c g r 6) i) 6 i (N8 c g r 6 i):=rfl;obtain ⟨X,hX⟩:∃X,V9 6 (N8 c g r 6) (P9 c g r 6) i=X:=⟨_,rfl⟩;rw [hX] at g2 ge ⊢;have gv:iO g (M4 c (Y c.J9 i).table)=N8 c g r 6 i:=rfl;refine Ex.skip ?_;refine Ex.seq ?_;refine Ex.block ?_;refine tB (N8 c g r 6 i) ?_ (λh5=>?_) (λh5=>?_)
  .repeat' (first|refine cl (Tm _) ?_|refine cl (hG _) ?_|refine gx ?_|refine fq (λhw=>?_) λhw=>?_|refine ⟨rfl,rfl,_,rfl,?_⟩|refine ⟨rfl,rfl⟩|fail)
   exact gv
  .have hr:roomFor (O X+[((6,i):C8)].length) 16=W:=jU D
   repeat' (first|refine mJ (cs:=(E8 (6,(i:Int))).map .d) ?_|refine oN (enc:=E8) (6,(i:Int)) ?_|refine yY (enc:=E8) (ys:=[(6,(i:Int))]) (hr:=hr) (h2:=?_)|refine gx ?_|fail)
   exact ⟨O c.J9 - (i+1),V,_,_,A6 (j5 rfl) (o5 (O0 _ _) (by simp [C9,P8])),i+1,V,rfl,by rw [ge,h5];rfl,rfl⟩
  .refine gr ?_
   exact ⟨O c.J9 - (i+1),V,_,_,A6 (j5 rfl) (o5 (O0 _ _) (by simp [C9,P8])),i+1,V,rfl,by rw [ge,h5];rfl,rfl⟩
 obtain rfl:i=O c.J9:=V
 clear h1 hi;have ge:V9 6 (N8 c g r 6) (P9 c g r 6) (O c.J9)=P9 c g r 7:=rfl;rw [ge];refine gr ?_;refine Ex.L4 (λq T' H' =>∃i:Nat,i<=O c.K6/\q=O c.K6 - i/\T' =[.any,.any,.ptr 0 0,.any,.d (x3 E8 g),.any,A8 2 E8 (V9 7 (N8 c g r 7) (P9 c g r 7) i),.any,.any,.any,.any,.any,.any,.any,.d (Z i),.any,.any]/\H' =[.cells (c.enc.map .d)]) ?_ (k:=O c.K6) ⟨0,V,V,rfl,rfl⟩;rintro q T' H' ⟨i,hi,rfl,rfl,rfl⟩;refine Ex.seq ?_;refine tl (i:Int) (O c.K6:Int) (λh1=>?_) (λh1=>?_)
 .have g1:i<O c.K6:=V
  have g2:=V1 7 (N8 c g r 7) (P9 c g r 7) i;have g3:=hfl 7;have ge:V9 7 (N8 c g r 7) (P9 c g r 7) (i+1)=fG (V9 7 (N8 c g r 7) (P9 c g r 7) i) 7 i (N8 c g r 7 i):=rfl;obtain ⟨X,hX⟩:∃X,V9 7 (N8 c g r 7) (P9 c g r 7) i=X:=⟨_,rfl⟩;rw [hX] at g2 ge ⊢;have gv:(Y c.K6 i).tables.any (λs=>iO g (M4 c s))=N8 c g r 7 i:=rfl;have hbk:=hs.bk i g1;obtain ⟨b,hb⟩:∃b,(Y c.K6 i).tables=b:=⟨_,rfl⟩;rw [hb] at gv hbk;refine Ex.skip ?_;refine Ex.seq ?_;refine Ex.block ?_;refine gr ?_;refine Ex.L4 (λq T' H' =>∃j:Nat,j<=O b/\q=O b - j/\T' =[.any,.any,.ptr 0 0,.any,.d (x3 E8 g),.any,A8 2 E8 X,.any,.any,.any,.any,.any,.any,.any,.d (Z i),.d (.bool ((b.take j).any λs=>iO g (M4 c s))),.d (Z j)]/\H' =[.cells (c.enc.map .d)]) ?_ (k:=O b) ⟨0,V,V,rfl,rfl⟩;rintro q T' H' ⟨j,hj,rfl,rfl,rfl⟩;refine Ex.seq ?_;refine tB (D0 j (O b)) ?_ (λh6=>?_) (λh6=>?_)
  .repeat' (first|refine gx ?_|refine fq (λhw=>?_) λhw=>?_|refine ⟨rfl,rfl,_,rfl,?_⟩|refine ⟨rfl,rfl⟩|fail)
   rw [hb]
  .have h6:=A5 h6
   have g6:j<O b:=V
   have g7:j<O (Y c.K6 i).tables:=by rw [hb];exact g6
   have e6:=Lb g6 λs=>iO g (M4 c s)
   cases hacc:(b.take j).any λs=>iO g (M4 c s)
   all_goals
    rw [hacc] at e6;refine gc (And.intro Tm hG) ?_;refine ⟨O b - (j+1),V,_,_,A6 (j5 rfl) (o5 (O0 _ _) (by simp [C9,P8])),j+1,V,rfl,?_,rfl⟩;rw [e6,<- hb];rfl
  have h6:=A9 h6;obtain rfl:j=O b:=V
  rw [D3,gv];refine gr ?_;refine tB (N8 c g r 7 i) ?_ (λh5=>?_) (λh5=>?_)
  .repeat' (first|refine gx ?_|refine fq (λhw=>?_) λhw=>?_|refine ⟨rfl,rfl,_,rfl,?_⟩|refine ⟨rfl,rfl⟩|fail)
   rfl
  .have hr:roomFor (O X+[((7,i):C8)].length) 16=W:=jU D
   repeat' (first|refine mJ (cs:=(E8 (7,(i:Int))).map .d) ?_|refine oN (enc:=E8) (7,(i:Int)) ?_|refine yY (enc:=E8) (ys:=[(7,(i:Int))]) (hr:=hr) (h2:=?_)|refine gx ?_|fail)
   exact ⟨O c.K6 - (i+1),V,_,_,A6 (j5 rfl) (o5 (O0 _ _) (by simp [C9,P8])),i+1,V,rfl,by rw [ge,h5];rfl,rfl⟩
  .refine gr ?_
   exact ⟨O c.K6 - (i+1),V,_,_,A6 (j5 rfl) (o5 (O0 _ _) (by simp [C9,P8])),i+1,V,rfl,by rw [ge,h5];rfl,rfl⟩
 obtain rfl:i=O c.K6:=V
 clear h1 hi;have ge:V9 7 (N8 c g r 7) (P9 c g r 7) (O c.K6)=P9 c g r 8:=rfl;rw [ge];refine gr ?_;exact ⟨_,rfl,rfl⟩
def aV (a b:Int):Int:=if a<b then -1 else if b<a then 1 else 0
def XI (a:Int):Pf A 136 [.d (Z a)] (.d (.bool F)):=by
 refine Pf.gr 1 ?_;exact ⟨_,rfl,by simp [j4,o6]⟩
def p83 (a b:Int):Pf A 83 [.d (Z a),.d (Z b)] (.d (Z (aV a b))):=by
 have pa:=XI a;have pb:=XI b;refine Pf.go 3 ?_;refine gc (And.intro pa pb) ?_;refine tc F trivial (λh=>by cases h) (λh=>?_);refine gr ?_;refine tc F trivial (λh=>by cases h) (λh=>?_);refine gr ?_;refine tl a b (λh1=>?_) (λh1=>?_)
 .refine gr ?_
  refine ⟨_,rfl,?_⟩;simp only [j4,aV];rw [if_pos h1];rfl
 refine gr ?_;refine tl b a (λh2=>?_) (λh2=>?_)
 .refine gr ?_
  refine ⟨_,rfl,?_⟩;simp only [j4,aV];rw [if_neg V,if_pos h2];rfl
 .refine gr ?_
  refine ⟨_,rfl,?_⟩;simp only [j4,aV];rw [if_neg V,if_neg V];rfl
def p82 (a b:Int):Pf A 82 [.d (ints [a,b])] (.d (Z (if a=0 then b else a))):=by
 have e:ints [a,b]=x3 (λn=>[Z n]) [a,b]:=rfl;rw [e];refine Pf.gr 6 ?_;refine Ex.J1 (λk T' H' =>∃i:Nat,i<=2/\k=2 - i/\T' =[.any,.any,.d (Z 0),.any,.d (x3 (λn=>[Z n]) [a,b]),.d (Z 2),.d (Z i)]/\H' =[]/\(0<i->a=0)/\(1<i->b=0)) ?_ (k:=2) ⟨0,V,V,rfl,rfl,V,V⟩;rintro k T' H' ⟨i,hi,rfl,rfl,rfl,h1,h2⟩;refine Ex.seq ?_;refine tl (i:Int) 2 (λh3=>?_) (λh3=>?_)
 .have g1:i<[a,b].length:=D
  refine Ex.skip ?_;refine Ex.seq ?_;refine Ex.block ?_;refine gr ?_;obtain ⟨x,hx⟩:∃x,Y [a,b] i=x:=⟨_,rfl⟩;rw [hx];have hc:i=0/\x=a\/i=1/\x=b:=by
   rcases (show i=0\/i=1 by omega) with rfl|rfl
   .exact .inl ⟨rfl,by rw [<- hx,O1]⟩
   .exact .inr ⟨rfl,by rw [<- hx,bp,O1]⟩
  refine tc (!s7 x 0) trivial (λh5=>?_) (λh5=>?_)
  .have h5:x≠0:=by simpa [o6] using h5
   refine gr ?_;refine ⟨_,rfl,?_⟩;simp only [j4]
   rcases hc with ⟨rfl,rfl⟩|⟨rfl,rfl⟩
   .rw [if_neg h5]
   .rw [if_pos (h1 V)]
  .have h5:x=0:=by simpa [o6] using h5
   refine gr ?_;refine ⟨2 - (i+1),V,i+1,V,rfl,rfl,rfl,λ_=>?_,λ_=>?_⟩
   .rcases hc with ⟨rfl,rfl⟩|⟨rfl,rfl⟩
    .exact h5
    .exact h1 V
   .rcases hc with ⟨rfl,rfl⟩|⟨rfl,rfl⟩
    .omega
    .exact h5
 .obtain rfl:i=2:=V
  refine gr ?_;exact ⟨_,rfl,by rw [if_pos (h1 V),h2 V];rfl⟩
def VC (p q:C8):Bool:=D0 (if aV p.1 q.1=0 then aV p.2 q.2 else aV p.1 q.1) 0
def p32 (p q:C8):Pf A 32 [qC p,qC q] (.d (.bool (VC p q))):=by
 have p1:=p83 p.1 q.1;have p2:=p83 p.2 q.2;have p3:=p82 (aV p.1 q.1) (aV p.2 q.2);refine Pf.go 3 ?_;unfold qC;refine gc (And.intro p1 (And.intro p2 p3)) ?_;exact ⟨_,rfl,by simp [j4,VC]⟩
def p33 (l:List C8)(hl:O l<=100000):Pf A 33 [.d (E4 l),.d (E4 l)] (.d (.bool W)):=by
 refine Pf.go 2 ?_;unfold E4;refine gr ?_;refine tc F trivial (λh=>by cases h) (λh=>?_);refine gr ?_;refine Ex.J1 (λk T' H' =>∃i:Nat,i<=O l/\k=O l - i/\T' =[.d (x3 E8 l),.d (x3 E8 l),.any,.d (Z i)]/\H' =[]) ?_ (k:=O l) ⟨0,V,V,rfl,rfl⟩;rintro k T' H' ⟨i,hi,rfl,rfl,rfl⟩;refine Ex.seq ?_;refine tl (i:Int) (O l:Int) (λh1=>?_) (λh1=>?_)
 .have g1:i<O l:=V
  refine Ex.skip ?_;refine Ex.seq ?_;refine Ex.block ?_;refine tB F ?_ (λh5=>by cases h5) (λh5=>?_)
  .repeat' (first|refine gx ?_|refine fq (λhw=>?_) λhw=>?_|refine ⟨rfl,rfl,_,rfl,?_⟩|refine ⟨rfl,rfl⟩|fail)
   rw [BD];simp
  .refine gr ?_
   exact ⟨O l - (i+1),V,i+1,V,rfl,rfl,rfl⟩
 .refine gr ?_
  exact ⟨_,rfl,by simp [j4]⟩
def SO (a b:C8):Prop:=a.1<b.1\/(a.1=b.1/\a.2<b.2)
theorem GH {k:Int}{P:Nat->Bool}{f:List C8}(hf:f.Pairwise SO)(hk:∀p∈f,p.1<k):∀n,(V9 k P f n).Pairwise SO
 |0=>hf
 |n+1=>by
  show (fG (V9 k P f n) k n (P n)).Pairwise SO
  unfold fG;split
  .rw [List.pairwise_append]
   refine ⟨GH hf hk n,List.pairwise_singleton _ _,λa ha b hb=>?_⟩;rw [List.mem_singleton.1 hb]
   rcases Bs.1 ha with h|⟨i,h1,_,rfl⟩
   .exact .inl (hk a h)
   .exact .inr ⟨rfl,by simp only;omega⟩
  .exact GH hf hk n
theorem LL (c:p7)(g r:List C8):∀k,(P9 c g r k).Pairwise SO
 |0=>List.Pairwise.nil
 |k+1=>GH (LL c g r k) (λp hp=>by
   obtain ⟨j,i,h1,_,_,rfl⟩:=Im.1 hp;simp only;omega) _
def Xy {x y:C8}(h:SO x y):VC x y=W/\VC y x=F:=by
 unfold SO at h;simp only [VC,aV,s4,decide_eq_true_eq,decide_eq_false_iff_not];constructor<;>(repeat' split)<;>omega
set_option maxHeartbeats 8000000 in
def lf9 (hK:Pf A 27 [] (.d (.bool W))){xs:List Int}(hx:O xs<=17592186043904)(l:List C8):Pf A 9 [.d (ints xs),.d (E4 l)] (.d (.bool W)):=by
 obtain ⟨c,_,ts,hc,_,_,_,pM⟩:=p28 hx;have e:ints xs=x3 (λn=>[Z n]) xs:=by simp [ints,x3,List.flatMap_singleton']
 rw [e] at pM ⊢;unfold E4;refine Pf.gr 4 ?_;refine tc (D0 100 (O xs)||D0 20 (O l)) trivial (λh=>?_) (λh=>?_)
 .refine gc hK ?_
  exact ⟨_,rfl,rfl⟩
 simp only [B2] at h;have h1:=A9 h.1;have h2:=A9 h.2;have ht1:=hc.t1;have hvw:=hc.vw;obtain ⟨_,_,rfl,rfl,pA⟩:=p29 c hc.sm hc.val V V l V;obtain ⟨_,_,rfl,rfl,pB⟩:=p34 c hc.sm hc.val V V l V;have oF:=uI c hc.sm.sm.dP (l.filter (O3 (R2 c))) (sj (dN c) (l.filter (O3 (R2 c)))) 8;have hpw:=LL c (l.filter (O3 (R2 c))) (sj (dN c) (l.filter (O3 (R2 c)))) 8;generalize P9 c (l.filter (O3 (R2 c))) _ 8=s at *
 have pC:=p33 s V;have h32:∀p q:C8,Pf A 32 [.agg [.d (Z p.1),.d (Z p.2)],.agg [.d (Z q.1),.d (Z q.2)]] (.d (.bool (VC p q))):=p32;unfold E4 at pA pB pC;refine gc (And.intro pM pA) ?_;refine Ex.J1 (λq T' H' =>∃(j:Nat),1<=j/\(j<=O s\/j=1)/\q=O s - j/\T' =[.any,.d (x3 E8 l),.any,.ptr 0 0,.d (x3 E8 s),.d (Z j)]/\H' =[.cells (c.enc.map .d)]) ?_ (k:=O s - 1) ⟨1,V,.inr rfl,V,rfl,rfl⟩;rintro q T' H' ⟨j,hj1,hj,rfl,rfl,rfl⟩;refine Ex.seq ?_;refine tl (j:Int) (O s:Int) (λh4=>?_) (λh4=>?_)
 .have gj:j<O s:=V
  have ej:((j:Int) - 1).toNat=j - 1:=V
  have hlt:SO (Y s ((j:Int) - 1).toNat) (Y s j):=by
   rw [ej,A7 gj,A7 V];exact List.pairwise_iff_getElem.1 hpw _ _ _ _ V
  obtain ⟨hA,hB⟩:=Xy hlt;refine Ex.skip ?_;refine Ex.seq ?_;refine Ex.block ?_;refine tB F ?_ (λh5=>by cases h5) (λh5=>?_)
  .repeat' (first|refine mN (h32 _ _) ?_|refine sb V ?_|refine gx ?_|refine fq (λhw=>?_) λhw=>?_|refine ⟨rfl,rfl,_,rfl,?_⟩|refine ⟨rfl,rfl⟩|fail)
   all_goals simp_all
  .refine gr ?_
   exact ⟨O s - (j+1),V,j+1,V,.inl V,rfl,rfl,rfl⟩
 refine gc (And.intro pB (And.intro pC hK)) ?_;exact ⟨_,rfl,rfl⟩
end Go.Proofs.YtibjocmpkoepoaaGreat


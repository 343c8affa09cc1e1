import Derived.Test.YtibjocmpkoepoaaGreatUN4
set_option linter.all false
open Bool renaming and_eq_true → c7
open List renaming cons_append → A5, mem_append → M4, mem_append_left → E0, mem_append_right → E7, mem_map → F5, mem_singleton → q6, nil_append → D8, replicate → c9
open Nat renaming le_refl → o5, lt_or_ge → y4, zero_le → I7
namespace Go.Proofs.YtibjocmpkoepoaaGreat
open Go.x9 Go.x9.S
theorem tf {ps:List G8}{to:G8}{d:Bool}{f:C5}(h:f ∈ yf ps to d):f.src ∈ ps/\f.dst=to/\f.dat=d:=by
 obtain ⟨p,hp,rfl⟩:=F5.1 h;simp_all
theorem Iu {s p:Int}{f:C5}:∀ {k},f ∈ vQ s p k->f.src.1=s/\f.dst.1=s/\f.dat=false
 |0,h=>by simp [vQ] at h
 |k+1,h=>by
  rw [vQ,M4] at h
  rcases h with h|h
  .exact Iu h
  .split at h
   .obtain ⟨h1,h2,h3⟩:=tf h
    simp_all
   .cases h
theorem It {c:y5}{f:C5}:∀ {k},f ∈ vP c k->f.src.1=f.dst.1/\f.dat=false/\0<=f.dst.1/\f.dst.1<k
 |0,h=>by simp [vP] at h
 |k+1,h=>by
  rw [vP,M4] at h
  rcases h with h|h
  .obtain ⟨a,b,d,e⟩:=It h
   grind
  .split at h
   .obtain ⟨p,_,h⟩:=List.mem_flatMap.1 h
    grind [Iu]
   .cases h
theorem Iv {s:Int}{L R:List G8}{f:C5}(h0:L.length<=R.length):∀ {k},k<=L.length->f ∈ rS s L R k->f.src ∈ L++R/\f.dst.1=s
 |0,_,h=>by simp [rS] at h
 |k+1,hk,h=>by
  rw [rS,M4,M4] at h
  rcases h with h|h|h
  .exact Iv h0 (by omega) h
  .obtain ⟨h1,h2,_⟩:=tf h
   grind [E0,O7,E7]
  .obtain ⟨h1,h2,_⟩:=tf h
   grind [E0,O7,E7]
theorem Ir {s:Int}{ds:List (List G8)}{cs:List G8}{f:C5}:∀ {k},k<=ds.length->f ∈ vi s ds cs k->(f.src ∈ ds.flatten\/f.src ∈ cs)/\f.dst.1=s
 |0,_,h=>by simp [vi] at h
 |k+1,hk,h=>by
  rw [vi,M4,M4] at h
  rcases h with h|h|h
  .exact Ir (by omega) h
  .obtain ⟨h1,h2,_⟩:=tf h
   grind [List.mem_flatten,O7]
  grind [tf]
def Ak {e:List Y6}{ps:List G8}(h:Cf e ps.length){q:G8}(hq:q ∈ rI e ps):q ∈ ps:=by
 obtain ⟨x,hx,rfl⟩:=F5.1 hq;have:=h.col x hx;simp_all [O7]
theorem Io {v:Vw}{L R:List G8}(ok:EL v L R){q:G8}(hq:q ∈ (nI v (L++R) v.items.length).flatten):q ∈ L++R:=by
 obtain ⟨d,hd,hq⟩:=List.mem_flatten.1 hq;obtain ⟨x,hx,rfl⟩:=F5.1 hd;rw [List.take_length] at hx;obtain ⟨i,hi,rfl⟩:=List.getElem_of_mem hx;rw [<- I9 hi] at hq;exact Ak (ok.it i hi) hq
theorem Uk {v:Vw}{L R:List G8}(ok:EL v L R){q:G8}(hq:q ∈ (xQ v (L++R)).flatten):q ∈ L++R:=by
 rw [xQ,List.flatten_append,M4] at hq
 rcases hq with hq|hq
 .exact Io ok hq
 .obtain ⟨d,hd,hq⟩:=List.mem_flatten.1 hq
  obtain ⟨x,hx,rfl⟩:=F5.1 hd;rw [List.take_length] at hx;obtain ⟨i,hi,rfl⟩:=List.getElem_of_mem hx;rw [<- I9 hi] at hq;exact Ak (ok.ag i hi) hq
theorem Uj {v:Vw}{L R:List G8}(ok:EL v L R){q:G8}(hq:q ∈ Hq v L R):q ∈ L++R:=by
 unfold Hq at hq;simp only [M4] at hq
 rcases hq with (((hq|hq)|hq)|hq)|hq
 .exact Ak ok.wh hq
 .rw [q6] at hq
  rw [hq];exact E0 _ (O7 ok.l0)
 .split at hq
  .rename_i h
   have:=A9 h;simp_all [E7,O7]
  .cases hq
 .obtain ⟨p,hp,hq⟩:=List.mem_flatMap.1 hq
  rw [List.take_length] at hp;obtain ⟨i,hi,rfl⟩:=List.getElem_of_mem hp;have h:=ok.on i hi;rw [I9 hi] at h
  grind [E0,O7,E7]
 grind [Io]
def Rc {s:Int}{v:Vw}{L R:List G8}(ok:EL v L R){f:C5}(h:f ∈ jK s v L R):f.src ∈ L++R/\f.dst.1=s:=by
 unfold jK at h;split at h
 .rename_i h2
  exact Iv (ok.un h2) (o5 _) h
 .obtain ⟨h1,h2⟩:=Ir (o5 _) h
  grind [Uk,Uj]
theorem An {c:y5}{L R:Nat->List G8}{f:C5}:∀ {k},f ∈ vS c L R k↔∃ i,i<k/\f ∈ jK ((c.k9.length:Int)+(i:Int)) (nth c.views i) (L i) (R i)
 |0=>by simp [vS]
 |k+1=>by
  rw [vS,M4,An (k:=k)]
  grind
theorem FD {s:Int}{p:G8}:∀ {n},p ∈ Se s n->p.1=s/\0<=p.2/\p.2<n
 |0,h=>by simp [Se] at h
 |n+1,h=>by
  rw [Se,M4] at h
  rcases h with h|h
  .obtain ⟨a,b,d⟩:=FD h
   omega
  grind
theorem NX {s:Int}:∀ {n i},i<n->nth (Se s n) i=(s,(i:Int))
 |n+1,i,h=>by
  have hl:=tw s n
  rcases y4 i n with h1|h1
  .rw [<- NX h1,Se,I9 (by simp;omega),I9 (by omega),List.getElem_append_left (by omega)]
  grind [Se,I9,List.getElem_append_right]
def XN {c:y5}(hv:K1 c=true){f:C5}(h:f ∈ cH c) :
  (f.src.1=f.dst.1/\f.dat=false/\0<=f.dst.1/\f.dst.1<c.k9.length)\/((c.k9.length:Int)<=f.dst.1/\0<=f.src.1/\f.src.1<f.dst.1):=by
 have h:=SX h
 rcases M4.1 h with h|h
 .grind [It]
 .obtain ⟨i,hi,h⟩:=An.1 h
  obtain ⟨ok,⟨_,l2,l3⟩,hr,_,_⟩:=DZ hv hi;obtain ⟨h1,h2⟩:=Rc ok h
  rcases M4.1 h1 with h1|h1
  .have:=FD h1
   omega
  .unfold FR at h1
   split at h1
   .cases h1
   .have:=FD h1
    grind
theorem IM {s:Int}{ds:List (List G8)}{cs:List G8}{p:G8}(hp:p ∈ cs):∀ {k j:Nat},j<k->∃ f ∈ vi s ds cs k,f.src=p/\f.dst=(s,(j:Int))
 |k+1,j,h=>by
  rcases y4 j k with h1|h1
  .obtain ⟨f,hf,e⟩:=IM hp h1
   exact ⟨f,by exact E0 _ hf,e⟩
  .obtain rfl:j=k:=by omega
   exact ⟨⟨p,(s,(j:Int)),false⟩,by exact E7 _ (E7 _ (F5.2 ⟨p,hp,rfl⟩)),rfl,rfl⟩
theorem JP {s:Int}{L R:List G8}:∀ {k j:Nat},j<k->∃ f ∈ rS s L R k,f.src=nth L 0/\f.dst=(s,(j:Int))
 |k+1,j,h=>by
  rcases y4 j k with h1|h1
  .obtain ⟨f,hf,e⟩:=JP h1
   exact ⟨f,by exact E0 _ hf,e⟩
  .obtain rfl:j=k:=by omega
   exact ⟨⟨nth L 0,(s,(j:Int)),false⟩,by exact E7 _ (E7 _ (F5.2 ⟨_,List.mem_cons_self,rfl⟩)),rfl,rfl⟩
def zy {c:y5}(hv:K1 c=true){i:Nat}(hi:i<c.views.length){j:Nat}(hj:j<(P4 c (c.k9.length+i)).length) :
  ∃ f ∈ cH c,f.src=(aR c (nth c.views i).left,0)/\f.dst=((c.k9.length:Int)+(i:Int),(j:Int)):=by
 obtain ⟨ok,_,_,nu,un⟩:=DZ hv hi;have hl:nth (Ih c i) 0=(aR c (nth c.views i).left,0):=by
  have:=ok.l0;simp_all [Ih,plN,tw,NX]
 have key:∃ f ∈ jK ((c.k9.length:Int)+(i:Int)) (nth c.views i) (Ih c i) (FR c i),f.src=nth (Ih c i) 0/\f.dst=((c.k9.length:Int)+(i:Int),(j:Int)):=by
  unfold jK;split
  .rename_i h2
   rw [un h2] at hj;exact JP hj
  simp_all [IM,xQ,nI,Hr,Hq]
 obtain ⟨f,hf,e1,e2⟩:=key;obtain ⟨g,hg,e3,e4⟩:=SR (c:=c) (f:=f) (E7 _ (An.2 ⟨i,hi,hf⟩))
 grind
theorem zz {c:y5}(hv:K1 c=true):∀ (n v:Nat),v<n->v<c.k9.length+c.views.length->∃ t:Nat,t<c.k9.length/\mW (cH c) [((t:Int),0)] ((v:Int),0)
 |0,v,h,_=>by omega
 |n+1,v,h,hn=>by
  rcases y4 v c.k9.length with h1|h1
  .exact ⟨v,h1,.base (q6.2 rfl)⟩
  .obtain ⟨i,rfl⟩:∃ i,v=c.k9.length+i:=⟨v - c.k9.length,by omega⟩
   have hg:=bT hv (c.k9.length+i+1) (c.k9.length+i) (by omega) hn;obtain ⟨f,hf,e1,e2⟩:=zy hv (i:=i) (by omega) (j:=0) (by omega);obtain ⟨_,⟨_,l2,l3⟩,_,_,_⟩:=DZ hv (i:=i) (by omega);obtain ⟨t,ht,hr⟩:=zz hv n (aR c (nth c.views i).left).toNat (by omega) (by omega);refine ⟨t,ht,?_⟩;have e3:(((aR c (nth c.views i).left).toNat:Nat):Int)=aR c (nth c.views i).left:=by omega
   rw [e3,<- e1] at hr;have:=mW.step hf hr;simp_all
def Qr {c:y5}(hv:K1 c=true){i:Nat}(hi:i<c.views.length){j:Nat}(hj:j<(P4 c (c.k9.length+i)).length) :
  ∃ t:Nat,t<c.k9.length/\mW (cH c) [((t:Int),0)] ((c.k9.length:Int)+(i:Int),(j:Int)):=by
 obtain ⟨f,hf,e1,e2⟩:=zy hv hi hj;obtain ⟨_,⟨_,l2,l3⟩,_,_,_⟩:=DZ hv hi;obtain ⟨t,ht,hr⟩:=zz hv (c.k9.length+c.views.length) (aR c (nth c.views i).left).toNat (by omega) (by omega);have e3:(((aR c (nth c.views i).left).toNat:Nat):Int)=aR c (nth c.views i).left:=by omega
 rw [e3,<- e1] at hr;have:=mW.step hf hr
 grind
def VD {c:y5}(hv:K1 c=true){i:Nat}(hi:i<c.views.length){j:Nat}(hj:j<(P4 c (c.k9.length+i)).length) :
  0<(vK (cH c) c.k9.length ((c.k9.length:Int)+(i:Int),(j:Int))).length:=by
 obtain ⟨t,ht,hr⟩:=Qr hv hi hj;obtain ⟨f,hf,_⟩:=Is.2 ⟨hr,show ((t:Int)<(c.k9.length:Int)) by omega⟩;exact List.length_pos_of_mem hf
end Go.Proofs.YtibjocmpkoepoaaGreat
namespace Go.Proofs.YtibjocmpkoepoaaGreat
open Go.x9 Go.x9.S Go.x9.Sh
attribute [local irreducible] Rx Ry Rn Ex Pf
section
variable [Inhabited si]
def aK0 (xs:List Int)(h:xs.length<=17592186043904):Pq A 12 [.d (ints xs)] [tp xs 0] S8 fun v H1=>v= .ptr 1 0/\H1=[tp xs 0,tp xs 0]:=by
 have _:Inhabited si:=inferInstance;refine Pq.run (b:=1) [.d (ints xs),.any] rfl rfl rfl rfl rfl ?_;have e:ints xs=z8 (fun n=>[num n]) xs:=by simp [ints,z8,List.flatMap_singleton']
 rw [e];refine gr ?_;refine Ry.pure (v:= .own 1 0 []) (rs:=[]) rfl (by rfl) ?_;refine gr ?_;exact ⟨_,_,rfl,rfl,by simp [splice,tp,rq,opw,lk];exact ⟨rfl,rfl⟩⟩
end
def ai1 {xs:List Int}(hx:xs.length<=17592186043904):∃ (c0 c:y5) (o0 q0 q:Nat),Bt 4 c/\Pm A 12 [.d (ints xs)] [] S8 (.ptr 0 0) [tp xs 0]/\Pm A 12 [.d (ints xs)] [tp xs 0] S8 (.ptr 1 0) [tp xs 0,tp xs 0] /\
  Pm A 14 [.ptr 1 0,.d (num 3)] [tp xs 0,tp xs 0] (l1 1) (cat c0) [tp xs o0,tp xs q0]/\Pm A 13 [.ptr 0 0,cat c0,.d (num 4)] [tp xs o0] l1 (cat c) [tp xs q]/\q<=4 * xs.length:=by
 obtain ⟨v,H1,⟨rfl,rfl⟩,p12⟩:=aJ9 xs hx;obtain ⟨v,H1,⟨rfl,rfl⟩,ao4⟩:=aK0 xs hx;obtain ⟨v,H1,⟨o,o1,o2,o3⟩,p14⟩:=(bk7 (by omega) noC:(s33 3 1).ok (cA xs noC) A).2 [.ptr 1 0,.d (num 3)] [tp xs 0,tp xs 0] (by
  simp only [s33,Sh.y8.g];exact ⟨_,_,rfl,rfl,_,_,rfl,bE (by simp only [Sh.SD.g];rfl),rfl⟩) (by
  simp only [s33,Sh.K4.g];exact ⟨_,_,rfl,⟨0,I7 _,rfl⟩,_,_,rfl,⟨0,I7 _,rfl⟩,rfl⟩)
 have:=q6.1 o1;subst this;simp only [tH,c9,A5,D8,Sh.K4.g] at o3;obtain ⟨_,_,rfl,⟨o0,ho0,rfl⟩,_,_,rfl,⟨q0,hq0,rfl⟩,rfl⟩:=o3;obtain ⟨c0,rfl,_,_,_⟩:=XF (l:=[.slice none 1 3 Xu,.slice none 0 0 (c9 9 .top),.slice none 0 0 (c9 3 .top),.slice none 0 0 (c9 6 .top),.slice none 0 0 (c9 4 .top),.slice none 0 0 (c9 3 .top),.slice none 0 0 (c9 2 .top),.slice none 0 0 (c9 3 .top)]) o2;obtain ⟨v,H1,⟨o,o1,o4,o3⟩,p13⟩:=(o32 (by omega) noC 4 (.inr rfl):(Zh 4).ok (cA xs noC) A).2 [.ptr 0 0,cat c0,.d (num 4)] [tp xs o0] (by
  simp only [Zh,Sh.y8.g];exact ⟨_,_,rfl,rfl,_,_,rfl,o2,_,_,rfl,bE (by simp only [Sh.SD.g];rfl),rfl⟩) (by
  simp only [Zh,Sh.K4.g];exact ⟨_,_,rfl,⟨o0,ho0,rfl⟩,rfl⟩)
 have:=q6.1 o1;subst this;simp only [Sh.K4.g] at o3;obtain ⟨_,_,rfl,⟨q,hq,rfl⟩,rfl⟩:=o3;obtain ⟨c,rfl,hv,hs,h3⟩:=XF o4;exact ⟨c0,c,o0,q0,q,Bt.of h3 (YZ 4) (YY 4) hv hs,p12,ao4,p14,p13,hq⟩
def bj4 (c:y5)(hs:O4 c)(hv:K1 c=true)(ht:c.k9.length<=8)(hw:c.views.length<=8):Pf A 17 [cat c] (.d (sQ (cH c))):=by
 have UE:=UH c hs;rw [hv] at UE;have Ob:=Ob c hs hv ht hw;refine Pf.run [cat c,.any,.any] rfl rfl rfl rfl ?_;refine gr ?_;refine tB (!true) ?_ (fun h1=> ?_) (fun h1=> ?_)
 .repeat' (first|refine cl (UE) ?_|refine gx ?_|refine fk (h1:=fun hw=> ?_) (h2:=fun hw=> ?_)|refine R8 (h1:=fun hw=> ?_) (h2:=fun hw=> ?_)|refine ⟨rfl,rfl,_,rfl,?_⟩|refine ⟨rfl,rfl⟩|fail)
  all_goals exact cc
 .cases h1
 repeat' (first|refine sG Ob ?_|refine gx ?_|fail)
 exact ⟨_,rfl,rfl⟩
section
variable [Inhabited si]
set_option maxHeartbeats 16000000 in
def lf4 {xs:List Int}(hx:xs.length<=17592186043904):Pf A 4 [.d (ints xs)] (.d (.bool true)):=by
 have _:Inhabited si:=inferInstance;obtain ⟨ca,c,o0,q0,q,hB,p12,ao4,p14,p13,hq⟩:=ai1 hx;have hv:=hB.val;have hs:=hB.sm;obtain ⟨t1,t3,_⟩:=hB.k9;obtain ⟨v4,_⟩:=hB.views;have p17:=bj4 c hs hv (by omega) (by omega);have hd:=lU hv (by omega) (by omega);have hup:=fun f (h:f ∈ cH c)=>XN hv h
 refine Pf.run [.d (ints xs),.any,.any,.any,.any,.any,.any,.any,.any] rfl rfl rfl rfl ?_
 repeat' (first|refine cp p12 (I7 _) ?_|refine cp ao4 (by simp) ?_|refine c0 p14 rfl (h2:= ?_)|refine c0 p13 rfl (HD:=[tp xs q0]) (h2:= ?_)|refine sG p17 ?_|refine gx ?_|fail)
 show Ex A S8 0 _ ⟨[.d (ints xs),.d (.bool false),.ptr 2 0,.d (sQ (cH c)),.d (num 0),.any,.any,.any,.any],[tp xs q,tp xs q0,.cells (c.enc.map .d)]⟩ _
 obtain ⟨fs,uU⟩:∃ fs,cH c=fs:=⟨_,rfl⟩;rw [uU] at hd hup ⊢;refine Ex.M5 (fun k T H=>∃ (i:Nat) (w0 w1 w5 w6 w7 w8:c8),T=[w0,w1,.ptr 2 0,.d (sQ fs),.d (num i),w5,w6,w7,w8]/\H=[tp xs q,tp xs q0,.cells (c.enc.map .d)]/\i+k=fs.length) (by rintro _ _ _ ⟨_,_,_,_,_,_,_,rfl,rfl,_⟩;rfl) ?_ (k:=fs.length) ⟨0,_,_,_,_,_,_,rfl,rfl,by simp⟩;rintro k _ _ ⟨i,w0,w1,w5,w6,w7,w8,rfl,rfl,hk⟩;refine Ex.nT ?_;refine Ex.seq ?_;refine tb (F0 i fs.length) (fun h1=> ?_) (fun h1=> ?_)
 .have h2:=A9 h1
  have hu:=hup (nth fs i) (O7 (by omega));refine gr ?_;refine tb ((ah c.k9.length (nth fs i).dst.1&&ah (nth fs i).dst.1 (nth fs i).src.1)||(F0 (nth fs i).dst.1 c.k9.length&&(!(s8 (nth fs i).src.1 (nth fs i).dst.1)||(nth fs i).dat))) (fun h3=> ?_) (fun h3=> ?_)
  .exfalso
   rcases hu with ⟨a1,a2,a3,a4⟩|⟨a1,a2,a3⟩
   .simp [a1,a2,s9,y3,o6] at h3
    omega
   .simp [s9,y3,o6] at h3
    omega
  .refine gr ?_
   exact ⟨k - 1,by omega,i+1,_,_,_,_,_,_,rfl,rfl,by omega⟩
 .refine gr ?_
  refine Ex.M5 (fun k T H=>∃ (v:Nat) (w0 w1 w3 w4 w5 w7 w8:c8),T=[w0,w1,.ptr 2 0,w3,w4,w5,.d (num v),w7,w8]/\H=[tp xs q,tp xs q0,.cells (c.enc.map .d)]/\v+k=c.k9.length+c.views.length/\c.k9.length<=v) (by rintro _ _ _ ⟨_,_,_,_,_,_,_,_,rfl,rfl,_⟩;rfl) ?_ (k:=c.views.length) ⟨c.k9.length,_,_,_,_,_,_,_,rfl,rfl,rfl,o5 _⟩;rintro k2 _ _ ⟨v,w0,w1,w3,w4,w5,w7,w8,rfl,rfl,hk2,hvt⟩;refine Ex.nT ?_;refine Ex.seq ?_;refine tb (F0 v ((c.k9.length:Int)+(c.views.length:Int))) (fun h3=> ?_) (fun h3=> ?_)
  .have h4:=A9 h3
   have YP:=UN c hs (v:Int) (by have eV:y5.ns c=c.k9.length+c.views.length:=rfl;simp only [aS,hv,Bool.true_and,s9,y3,c7,decide_eq_true_eq];omega);rw [Int.toNat_natCast] at YP;obtain ⟨m,rfl⟩:∃ m,v=c.k9.length+m:=⟨v - c.k9.length,by omega⟩;have hcg:=bT hv (c.k9.length+m+1) (c.k9.length+m) (by omega) (show c.k9.length+m<c.k9.length+c.views.length by omega);have hne:0<(P4 c (c.k9.length+m)).length:=by omega
   have hfp:0<fs.length:=by
    obtain ⟨f,hf,_⟩:=zy hv (i:=m) (by omega) (j:=0) hne;rw [uU] at hf;exact List.length_pos_of_mem hf
   have Sd:=fun (j:Nat) (hj:j<(P4 c (c.k9.length+m)).length)=>aE3 c (((c.k9.length+m:Nat):Int),(j:Int)) hs hv (by omega) (by omega) (Fv (by omega) hj) (by rw [uU];exact hfp)
   have hpos:=fun (j:Nat) (hj:j<(P4 c (c.k9.length+m)).length)=>VD hv (i:=m) (by omega) hj
   rw [uU] at hpos Sd;obtain ⟨v,hvv⟩:∃ v,c.k9.length+m=v:=⟨_,rfl⟩;rw [hvv] at YP Sd hne hpos hcg h4 ⊢;obtain ⟨ty,yh⟩:∃ ty,P4 c v=ty:=⟨_,rfl⟩;rw [yh] at YP Sd hpos hne hcg
   repeat' (first|refine cl (YP) ?_|refine gx ?_|fail)
   refine Ex.M5 (fun k T H=>∃ (j:Nat) (w0 w1 w3 w4 w5:c8),T=[w0,w1,.ptr 2 0,w3,w4,w5,.d (num v),.d (num ty.length),.d (num j)]/\H=[tp xs q,tp xs q0,.cells (c.enc.map .d)]/\j+k=ty.length) (by rintro _ _ _ ⟨_,_,_,_,_,_,rfl,rfl,_⟩;rfl) ?_ (k:=ty.length) ⟨0,_,_,_,_,_,rfl,rfl,by simp⟩;rintro k3 _ _ ⟨j,w0,w1,w3,w4,w5,rfl,rfl,hk3⟩;refine Ex.nT ?_;refine Ex.seq ?_;refine tb (F0 j ty.length) (fun h5=> ?_) (fun h5=> ?_)
   .have h6:=A9 h5
    have hp:=hpos j (by omega);have Sd:=Sd j (by omega);obtain ⟨l,hl⟩:∃ l,vK fs c.k9.length ((v:Int),(j:Int))=l:=⟨_,rfl⟩;have hp:0<l.length:=by rw [<- hl,<- hvv,Int.natCast_add];exact hp
    rw [hl] at Sd;refine gr ?_;refine tB (s8 l.length 0) ?_ (fun h7=> ?_) (fun h7=> ?_)
    .repeat' (first|refine rV (cs:=(W4 ((v:Int),(j:Int))).map .d) ?_|refine sG Sd ?_|refine gx ?_|refine fk (h1:=fun hw=> ?_) (h2:=fun hw=> ?_)|refine R8 (h1:=fun hw=> ?_) (h2:=fun hw=> ?_)|refine ⟨rfl,rfl,_,rfl,?_⟩|refine ⟨rfl,rfl⟩|fail)
     all_goals exact cc
    .have:=aQ h7
     omega
    refine gr ?_;exact ⟨k3 - 1,by omega,j+1,_,_,_,_,_,rfl,rfl,by omega⟩
   .refine gr ?_
    exact ⟨k2 - 1,by omega,v+1,_,_,_,_,_,_,_,rfl,rfl,by omega,by omega⟩
  .repeat' (first|refine cl (aI5) ?_|refine gx ?_|fail)
   exact ⟨_,rfl,rfl⟩
end
end Go.Proofs.YtibjocmpkoepoaaGreat


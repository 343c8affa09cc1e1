/- Texts D40 D41 D42 (made short by a program) -/
import Derived.Test.YtkmclibmmlgogaaGreatE2
set_option linter.unusedVariables false
set_option linter.unusedSimpArgs false
open Nat renaming add_assoc → H9, le_refl → l5
namespace Go.Proofs.YtkmclibmmlgogaaGreat
open Go.u7 Go.u7.S
def yC (c:m9)(g:Nat)(ds:List C7)(ss:List W5):Prop:=ds=c.names.take g/\ss=z7 c (min g (m9.ns c))
def N5 (c:m9)(f:FuncId)(i g:Nat):Prop:=∃ dz sz,(J2 c g=0->yC c (g+1) dz sz)/\Pm A f [.ptr 4 0,.d (num i)] (HH c (c.names.take g) (z7 c (min g (m9.ns c)))) lW (.d (num (J2 c g))) (HH c dz sz)
theorem wY {c:m9}(hs:E8 c){i:Nat}(hi:i<c.j3.length)(hok:br c i):N5 c 68 i i:=by
 have aN:i<m9.ns c:=by unfold m9.ns;omega
 have hf:=hs.sm.fI.1;have hm:min i (m9.ns c)=i:=by omega
 have p:=Uv c (c.names.take i) (z7 c i) i hi (hs.sm.m8 i hi) (fun j hj=>hs.sm.A7 i j hi hj) (by rw [C4];omega) (by rw [C4];omega) (by omega)
  (fun k hk=>by
   rw [C4] at hk;have h1:=(cy (dU (hok k hk) (by omega))).1;rw [K2 c hk];refine ⟨?_,h1⟩;show 0<(P8 c k).length
   rw [pe c (by omega)];simpa using h1) (fun s hs' =>uB c (by omega) s hs')
 rw [BX hi hok] at p;unfold N5;rw [hm];refine ⟨_,_,fun h0=> ?_,p⟩;unfold yC;have hnl:i<c.names.length:=by have:=Z9 c;omega
 rw [II hi hok h0,<- mX c hi,Q4 c i hnl h0,Nat.min_eq_left (by omega)];exact ⟨rfl,rfl⟩
theorem sr {c:m9}(hs:E8 c)(hn:m9.ns c<=1000){g:Nat}(h:c.j3.length<=g)(h2:g<m9.ns c)(hok:br c g):N5 c 69 (g - c.j3.length) g:=by
 have hv:g - c.j3.length<c.views.length:=by unfold m9.ns at h2;omega
 have hm:min g (m9.ns c)=g:=by omega
 have p:=Uw c (c.names.take g) (z7 c g) (g - c.j3.length) hv (hs.on _ hv) (hs.wh _ hv) (hs.items _ hv) (hs.B3 _ hv) (fun j hj=>hs.yX _ j hv hj) (fun j hj=>hs.Kf _ j hv hj) (by rw [C4];omega)
  (fun k hk=>by
   rw [C4] at hk;have h1:=uA hs g k hk (by omega) hok;have h3:=O7 hs g k hk (by omega) (S8 hok (by omega));rw [K2 c hk];exact ⟨h1.2.1,by show (FY c k).length<=5000;omega,h1.1,by show (P8 c k).length<=5000;omega⟩) (fun s hs' =>uB c (by omega) s hs')
 rw [show nth c.views (g - c.j3.length)=T8 c g from rfl,xy h h2] at p;unfold N5;rw [hm];refine ⟨_,_,fun h0=> ?_,p⟩;unfold yC;have hnl:g<c.names.length:=by have:=Z9 c;omega
 rw [Ew h h2 h0,<- jR c h h2,Q4 c g hnl h0,Nat.min_eq_left (by omega)];exact ⟨rfl,rfl⟩
theorem wT {c:m9}(hs:E8 c)  {g i:Nat}(hg:g=m9.ns c+i)(hi:i<c.idxs.length)(hok:br c g):N5 c 70 i g:=by
 have hn:nth c.names g=(nth c.idxs i).name:=by
  rw [hg];exact Q0 c (m9.sn c) (c.D6.map gv.name++c.E3.map jy.name++c.G9.map iO.name++c.J3.map kI.name++c.K8.map kH.name) c.idxs gD.name (by simp [m9.names,m9.sn]) (by simp [Q2,H9]) hi
 have hm:min g (m9.ns c)=m9.ns c:=by omega
 have hnl:g<c.names.length:=by rw [R7];omega
 have dy:∀ k,k<(z7 c (m9.ns c)).length->(nth (z7 c (m9.ns c)) k).2.2.length<=100000:=fun k hk=>by
  rw [C4] at hk;have h3:=O7 hs (m9.ns c) k hk (l5 _) (S8 (fun m hm=>hok m (by omega)) (l5 _));rw [K2 c hk];show (P8 c k).length<=100000
  omega
 have p:=Ux c (c.names.take g) (z7 c (m9.ns c)) i hi dy;rw [HW hg hi] at p;unfold N5;rw [hm];refine ⟨_,_,fun h0=> ?_,p⟩;unfold yC;rw [<- hn,Q4 c g hnl h0,Nat.min_eq_right (by omega)];exact ⟨rfl,rfl⟩
theorem wW {c:m9}(hs:E8 c)  {g i:Nat}(hg:g=m9.ns c+(c.idxs.length)+i)(hi:i<c.D6.length)(hok:br c g):N5 c 71 i g:=by
 have hn:nth c.names g=(nth c.D6 i).name:=by
  rw [hg];exact Q0 c (m9.sn c++c.idxs.map gD.name) (c.E3.map jy.name++c.G9.map iO.name++c.J3.map kI.name++c.K8.map kH.name) c.D6 gv.name (by simp [m9.names,m9.sn]) (by simp [Q2,H9]) hi
 have hm:min g (m9.ns c)=m9.ns c:=by omega
 have hnl:g<c.names.length:=by rw [R7];omega
 have dy:∀ k,k<(z7 c (m9.ns c)).length->(nth (z7 c (m9.ns c)) k).2.2.length<=100000:=fun k hk=>by
  rw [C4] at hk;have h3:=O7 hs (m9.ns c) k hk (l5 _) (S8 (fun m hm=>hok m (by omega)) (l5 _));rw [K2 c hk];show (P8 c k).length<=100000
  omega
 have p:=Uy c (c.names.take g) (z7 c (m9.ns c)) i hi dy;rw [IB hg hi] at p;unfold N5;rw [hm];refine ⟨_,_,fun h0=> ?_,p⟩;unfold yC;rw [<- hn,Q4 c g hnl h0,Nat.min_eq_right (by omega)];exact ⟨rfl,rfl⟩
theorem wS {c:m9}(hs:E8 c)  {g i:Nat}(hg:g=m9.ns c+(c.idxs.length+c.D6.length)+i)(hi:i<c.E3.length)(hok:br c g):N5 c 72 i g:=by
 have hn:nth c.names g=(nth c.E3 i).name:=by
  rw [hg];exact Q0 c (m9.sn c++c.idxs.map gD.name++c.D6.map gv.name) (c.G9.map iO.name++c.J3.map kI.name++c.K8.map kH.name) c.E3 jy.name (by simp [m9.names,m9.sn]) (by simp [Q2,H9]) hi
 have hm:min g (m9.ns c)=m9.ns c:=by omega
 have hnl:g<c.names.length:=by rw [R7];omega
 have dy:∀ k,k<(z7 c (m9.ns c)).length->(nth (z7 c (m9.ns c)) k).2.2.length<=100000:=fun k hk=>by
  rw [C4] at hk;have h3:=O7 hs (m9.ns c) k hk (l5 _) (S8 (fun m hm=>hok m (by omega)) (l5 _));rw [K2 c hk];show (P8 c k).length<=100000
  omega
 have p:=Uz c (c.names.take g) (z7 c (m9.ns c)) i hi dy;rw [HJ hg hi] at p;unfold N5;rw [hm];refine ⟨_,_,fun h0=> ?_,p⟩;unfold yC;rw [<- hn,Q4 c g hnl h0,Nat.min_eq_right (by omega)];exact ⟨rfl,rfl⟩
theorem wV {c:m9}(hs:E8 c)(Xw:∀ k,k<c.views.length->(nth c.views k).kind≠1\/0<(nth c.views k).B3.length){g i:Nat}(hg:g=m9.ns c+(c.idxs.length+c.D6.length+c.E3.length)+i)(hi:i<c.G9.length)(hok:br c g):N5 c 73 i g:=by
 have hn:nth c.names g=(nth c.G9 i).name:=by
  rw [hg];exact Q0 c (m9.sn c++c.idxs.map gD.name++c.D6.map gv.name++c.E3.map jy.name) (c.J3.map kI.name++c.K8.map kH.name) c.G9 iO.name (by simp [m9.names,m9.sn]) (by simp [Q2,H9]) hi
 have hm:min g (m9.ns c)=m9.ns c:=by omega
 have hnl:g<c.names.length:=by rw [R7];omega
 have dy:∀ k,k<(z7 c (m9.ns c)).length->(nth (z7 c (m9.ns c)) k).2.2.length<=100000:=fun k hk=>by
  rw [C4] at hk;have h3:=O7 hs (m9.ns c) k hk (l5 _) (S8 (fun m hm=>hok m (by omega)) (l5 _));rw [K2 c hk];show (P8 c k).length<=100000
  omega
 have p:=UA c (c.names.take g) (z7 c (m9.ns c)) i hi hs.sm.fI.1 (by rw [C4];exact l5 _) hs.sm.fI.2.1 Xw;rw [Iu hg hi] at p;unfold N5;rw [hm];refine ⟨_,_,fun h0=> ?_,p⟩;unfold yC;rw [<- hn,Q4 c g hnl h0,Nat.min_eq_right (by omega)];exact ⟨rfl,rfl⟩
theorem wX {c:m9}(hs:E8 c)  {g i:Nat}(hg:g=m9.ns c+(c.idxs.length+c.D6.length+c.E3.length+c.G9.length)+i)(hi:i<c.J3.length)(hok:br c g):N5 c 74 i g:=by
 have hn:nth c.names g=(nth c.J3 i).name:=by
  rw [hg];exact Q0 c (m9.sn c++c.idxs.map gD.name++c.D6.map gv.name++c.E3.map jy.name++c.G9.map iO.name) (c.K8.map kH.name) c.J3 kI.name (by simp [m9.names,m9.sn]) (by simp [Q2,H9]) hi
 have hm:min g (m9.ns c)=m9.ns c:=by omega
 have hnl:g<c.names.length:=by rw [R7];omega
 have dy:∀ k,k<(z7 c (m9.ns c)).length->(nth (z7 c (m9.ns c)) k).2.2.length<=100000:=fun k hk=>by
  rw [C4] at hk;have h3:=O7 hs (m9.ns c) k hk (l5 _) (S8 (fun m hm=>hok m (by omega)) (l5 _));rw [K2 c hk];show (P8 c k).length<=100000
  omega
 have p:=UB c (c.names.take g) (z7 c (m9.ns c)) i hi hs.sm.fI.1;rw [IG hg hi] at p;unfold N5;rw [hm];refine ⟨_,_,fun h0=> ?_,p⟩;unfold yC;rw [<- hn,Q4 c g hnl h0,Nat.min_eq_right (by omega)];exact ⟨rfl,rfl⟩
theorem wR {c:m9}(hs:E8 c)  {g i:Nat}(hg:g=m9.ns c+(c.idxs.length+c.D6.length+c.E3.length+c.G9.length+c.J3.length)+i)(hi:i<c.K8.length)(hok:br c g):N5 c 75 i g:=by
 have hn:nth c.names g=(nth c.K8 i).name:=by
  rw [hg];exact Q0 c (m9.sn c++c.idxs.map gD.name++c.D6.map gv.name++c.E3.map jy.name++c.G9.map iO.name++c.J3.map kI.name) ([]) c.K8 kH.name (by simp [m9.names,m9.sn]) (by simp [Q2,H9]) hi
 have hm:min g (m9.ns c)=m9.ns c:=by omega
 have hnl:g<c.names.length:=by rw [R7];omega
 have dy:∀ k,k<(z7 c (m9.ns c)).length->(nth (z7 c (m9.ns c)) k).2.2.length<=100000:=fun k hk=>by
  rw [C4] at hk;have h3:=O7 hs (m9.ns c) k hk (l5 _) (S8 (fun m hm=>hok m (by omega)) (l5 _));rw [K2 c hk];show (P8 c k).length<=100000
  omega
 have p:=UC c (c.names.take g) (z7 c (m9.ns c)) i hi hs.sm.fI.1 (hs.bk i hi);rw [LO hg hi] at p;unfold N5;rw [hm];refine ⟨_,_,fun h0=> ?_,p⟩;unfold yC;rw [<- hn,Q4 c g hnl h0,Nat.min_eq_right (by omega)];exact ⟨rfl,rfl⟩
theorem Ij {c:m9}(h:tooMany c=false):m9.ns c<=20:=by
 simp only [tooMany,zf,o9,Bool.or_eq_false_iff,decide_eq_false_iff_not] at h;unfold m9.ns;omega
theorem zk (c:m9)(hs:E8 c):Pq A 29 [cat c] [.cells (c.enc.map .d)] bK (gF c c.names (z7 c (m9.ns c))):=by
 have hnl:=Z9 c;refine UD c hs.sm.fI (yC c) ⟨rfl,rfl⟩ (fun g ds ss ds' ss' h h' =>⟨h.1.trans h'.1.symm,h.2.trans h'.2.symm⟩) _ _ (fun ds ss h=>⟨by rw [h.1,List.take_length],by rw [h.2,Nat.min_eq_right hnl]⟩) ?_;rintro q i ds ss hq hi pJ hok ⟨rfl,rfl⟩;have h20:=Ij pJ
 match q,hq with
 |0,_ =>
  have hi' :i<c.j3.length:=hi;have e:K9 c 0+i=i:=by simp [K9]
  rw [e] at hok ⊢;exact wY hs hi' hok
 |1,_ =>
  have hi' :i<c.views.length:=hi;have e:K9 c 1+i=c.j3.length+i:=by simp [K9,cnt]
  rw [e] at hok ⊢;have:=sr hs (by omega) (g:=c.j3.length+i) (by omega) (by unfold m9.ns;omega) hok;rw [Nat.add_sub_cancel_left] at this;exact this
 |2,_=>exact wT hs (by simp [K9,cnt,m9.ns]) hi hok
 |3,_=>exact wW hs (by simp [K9,cnt,m9.ns,H9]) hi hok
 |4,_=>exact wS hs (by simp [K9,cnt,m9.ns,H9]) hi hok
 |5,_ =>
  refine wV hs (fun k hk=> ?_) (by simp [K9,cnt,m9.ns,H9]) hi hok;have hle:m9.ns c<=K9 c 5+i:=by simp [K9,cnt,m9.ns];omega
  have h9:=cB (bH (hok (k+c.j3.length) (by unfold m9.ns at hle;omega)) (by omega) (by unfold m9.ns;omega));have PZ:T8 c (k+c.j3.length)=nth c.views k:=by unfold T8;rw [Nat.add_sub_cancel]
  rw [PZ] at h9;exact rX h9.2.2.2
 |6,_=>exact wX hs (by simp [K9,cnt,m9.ns,H9]) hi hok
 |7,_=>exact wR hs (by simp [K9,cnt,m9.ns,H9]) hi hok
end Go.Proofs.YtkmclibmmlgogaaGreat


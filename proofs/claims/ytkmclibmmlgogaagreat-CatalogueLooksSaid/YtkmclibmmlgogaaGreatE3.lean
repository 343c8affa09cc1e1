/- Texts D40 D41 D42 (made short by a program) -/
import Derived.Test.YtkmclibmmlgogaaGreatE2
set_option linter.unusedVariables false
set_option linter.unusedSimpArgs false
open Bool renaming or_eq_false_iff → L6
open Nat renaming add_assoc → I8, le_refl → k9
namespace Go.Proofs.YtkmclibmmlgogaaGreat
open Go.z7 Go.z7.S
def zl (c:n5)(g:Nat)(ds:List D6)(ss:List Y0):Prop:=ds=c.names.take g/\ss=A6 c (min g (n5.ns c))
def O4 (c:n5)(f:FuncId)(i g:Nat):Prop:=∃ dz sz,(K2 c g=0->zl c (g+1) dz sz)/\Pm A f [.ptr 4 0,.d (num i)] (HH c (c.names.take g) (A6 c (min g (n5.ns c)))) lW (.d (num (K2 c g))) (HH c dz sz)
theorem xP {c:n5}(hs:C0 c){i:Nat}(hi:i<c.j3.length)(hok:bJ c i):O4 c 68 i i:=by
 have aY:i<n5.ns c:=by unfold n5.ns;omega
 have hf:=hs.sm.fq.1;have hm:min i (n5.ns c)=i:=by omega
 have p:=VE c (c.names.take i) (A6 c i) i hi (hs.sm.m9 i hi) (fun j hj=>hs.sm.C9 i j hi hj) (by rw [C8];omega) (by rw [C8];omega) (by omega)
  (fun k hk=>by
   rw [C8] at hk;have h1:=(cM (eo (hok k hk) (by omega))).1;rw [L1 c hk];refine ⟨?_,h1⟩;show 0<(Q5 c k).length
   rw [ql c (by omega)];simpa using h1) (fun s hs' =>vh c (by omega) s hs')
 rw [CG hi hok] at p;unfold O4;rw [hm];refine ⟨_,_,fun h0=> ?_,p⟩;unfold zl;have hnl:i<c.names.length:=by have:=Z1 c;omega
 rw [Jm hi hok h0,<- nG c hi,R8 c i hnl h0,Nat.min_eq_left (by omega)];exact ⟨rfl,rfl⟩
theorem th {c:n5}(hs:C0 c)(hn:n5.ns c<=1000){g:Nat}(h:c.j3.length<=g)(h2:g<n5.ns c)(hok:bJ c g):O4 c 69 (g - c.j3.length) g:=by
 have hv:g - c.j3.length<c.views.length:=by unfold n5.ns at h2;omega
 have hm:min g (n5.ns c)=g:=by omega
 have p:=VF c (c.names.take g) (A6 c g) (g - c.j3.length) hv (hs.on _ hv) (hs.wh _ hv) (hs.items _ hv) (hs.C2 _ hv) (fun j hj=>hs.zP _ j hv hj) (fun j hj=>hs.KP _ j hv hj) (by rw [C8];omega)
  (fun k hk=>by
   rw [C8] at hk;have h1:=rj hs g k hk (by omega) hok;have h3:=P0 hs g k hk (by omega) (U0 hok (by omega));rw [L1 c hk];exact ⟨h1.2.1,by show (vQ c k).length<=5000;omega,h1.1,by show (Q5 c k).length<=5000;omega⟩) (fun s hs' =>vh c (by omega) s hs')
 rw [show nth c.views (g - c.j3.length)=U5 c g from rfl,ye h h2] at p;unfold O4;rw [hm];refine ⟨_,_,fun h0=> ?_,p⟩;unfold zl;have hnl:g<c.names.length:=by have:=Z1 c;omega
 rw [Fe h h2 h0,<- kE c h h2,R8 c g hnl h0,Nat.min_eq_left (by omega)];exact ⟨rfl,rfl⟩
theorem xK {c:n5}(hs:C0 c)  {g i:Nat}(hg:g=n5.ns c+i)(hi:i<c.idxs.length)(hok:bJ c g):O4 c 70 i g:=by
 have hn:nth c.names g=(nth c.idxs i).name:=by
  rw [hg];exact R0 c (n5.sn c) (c.F3.map iK.name++c.F9.map kP.name++c.J3.map jV.name++c.K9.map nq.name++c.M8.map nj.name) c.idxs iW.name (by simp [n5.names,n5.sn]) (by simp [R2,I8]) hi
 have hm:min g (n5.ns c)=n5.ns c:=by omega
 have hnl:g<c.names.length:=by rw [T1];omega
 have dV:∀ k,k<(A6 c (n5.ns c)).length->(nth (A6 c (n5.ns c)) k).2.2.length<=100000:=fun k hk=>by
  rw [C8] at hk;have h3:=P0 hs (n5.ns c) k hk (k9 _) (U0 (fun m hm=>hok m (by omega)) (k9 _));rw [L1 c hk];show (Q5 c k).length<=100000
  omega
 have p:=VG c (c.names.take g) (A6 c (n5.ns c)) i hi dV;rw [IB hg hi] at p;unfold O4;rw [hm];refine ⟨_,_,fun h0=> ?_,p⟩;unfold zl;rw [<- hn,R8 c g hnl h0,Nat.min_eq_right (by omega)];exact ⟨rfl,rfl⟩
theorem xN {c:n5}(hs:C0 c)  {g i:Nat}(hg:g=n5.ns c+(c.idxs.length)+i)(hi:i<c.F3.length)(hok:bJ c g):O4 c 71 i g:=by
 have hn:nth c.names g=(nth c.F3 i).name:=by
  rw [hg];exact R0 c (n5.sn c++c.idxs.map iW.name) (c.F9.map kP.name++c.J3.map jV.name++c.K9.map nq.name++c.M8.map nj.name) c.F3 iK.name (by simp [n5.names,n5.sn]) (by simp [R2,I8]) hi
 have hm:min g (n5.ns c)=n5.ns c:=by omega
 have hnl:g<c.names.length:=by rw [T1];omega
 have dV:∀ k,k<(A6 c (n5.ns c)).length->(nth (A6 c (n5.ns c)) k).2.2.length<=100000:=fun k hk=>by
  rw [C8] at hk;have h3:=P0 hs (n5.ns c) k hk (k9 _) (U0 (fun m hm=>hok m (by omega)) (k9 _));rw [L1 c hk];show (Q5 c k).length<=100000
  omega
 have p:=VH c (c.names.take g) (A6 c (n5.ns c)) i hi dV;rw [Jf hg hi] at p;unfold O4;rw [hm];refine ⟨_,_,fun h0=> ?_,p⟩;unfold zl;rw [<- hn,R8 c g hnl h0,Nat.min_eq_right (by omega)];exact ⟨rfl,rfl⟩
theorem xJ {c:n5}(hs:C0 c)  {g i:Nat}(hg:g=n5.ns c+(c.idxs.length+c.F3.length)+i)(hi:i<c.F9.length)(hok:bJ c g):O4 c 72 i g:=by
 have hn:nth c.names g=(nth c.F9 i).name:=by
  rw [hg];exact R0 c (n5.sn c++c.idxs.map iW.name++c.F3.map iK.name) (c.J3.map jV.name++c.K9.map nq.name++c.M8.map nj.name) c.F9 kP.name (by simp [n5.names,n5.sn]) (by simp [R2,I8]) hi
 have hm:min g (n5.ns c)=n5.ns c:=by omega
 have hnl:g<c.names.length:=by rw [T1];omega
 have dV:∀ k,k<(A6 c (n5.ns c)).length->(nth (A6 c (n5.ns c)) k).2.2.length<=100000:=fun k hk=>by
  rw [C8] at hk;have h3:=P0 hs (n5.ns c) k hk (k9 _) (U0 (fun m hm=>hok m (by omega)) (k9 _));rw [L1 c hk];show (Q5 c k).length<=100000
  omega
 have p:=VI c (c.names.take g) (A6 c (n5.ns c)) i hi dV;rw [Io hg hi] at p;unfold O4;rw [hm];refine ⟨_,_,fun h0=> ?_,p⟩;unfold zl;rw [<- hn,R8 c g hnl h0,Nat.min_eq_right (by omega)];exact ⟨rfl,rfl⟩
theorem xM {c:n5}(hs:C0 c)(YM:∀ k,k<c.views.length->(nth c.views k).kind≠1\/0<(nth c.views k).C2.length){g i:Nat}(hg:g=n5.ns c+(c.idxs.length+c.F3.length+c.F9.length)+i)(hi:i<c.J3.length)(hok:bJ c g):O4 c 73 i g:=by
 have hn:nth c.names g=(nth c.J3 i).name:=by
  rw [hg];exact R0 c (n5.sn c++c.idxs.map iW.name++c.F3.map iK.name++c.F9.map kP.name) (c.K9.map nq.name++c.M8.map nj.name) c.J3 jV.name (by simp [n5.names,n5.sn]) (by simp [R2,I8]) hi
 have hm:min g (n5.ns c)=n5.ns c:=by omega
 have hnl:g<c.names.length:=by rw [T1];omega
 have dV:∀ k,k<(A6 c (n5.ns c)).length->(nth (A6 c (n5.ns c)) k).2.2.length<=100000:=fun k hk=>by
  rw [C8] at hk;have h3:=P0 hs (n5.ns c) k hk (k9 _) (U0 (fun m hm=>hok m (by omega)) (k9 _));rw [L1 c hk];show (Q5 c k).length<=100000
  omega
 have p:=VJ c (c.names.take g) (A6 c (n5.ns c)) i hi hs.sm.fq.1 (by rw [C8];exact k9 _) hs.sm.fq.2.1 YM;rw [IY hg hi] at p;unfold O4;rw [hm];refine ⟨_,_,fun h0=> ?_,p⟩;unfold zl;rw [<- hn,R8 c g hnl h0,Nat.min_eq_right (by omega)];exact ⟨rfl,rfl⟩
theorem xO {c:n5}(hs:C0 c)  {g i:Nat}(hg:g=n5.ns c+(c.idxs.length+c.F3.length+c.F9.length+c.J3.length)+i)(hi:i<c.K9.length)(hok:bJ c g):O4 c 74 i g:=by
 have hn:nth c.names g=(nth c.K9 i).name:=by
  rw [hg];exact R0 c (n5.sn c++c.idxs.map iW.name++c.F3.map iK.name++c.F9.map kP.name++c.J3.map jV.name) (c.M8.map nj.name) c.K9 nq.name (by simp [n5.names,n5.sn]) (by simp [R2,I8]) hi
 have hm:min g (n5.ns c)=n5.ns c:=by omega
 have hnl:g<c.names.length:=by rw [T1];omega
 have dV:∀ k,k<(A6 c (n5.ns c)).length->(nth (A6 c (n5.ns c)) k).2.2.length<=100000:=fun k hk=>by
  rw [C8] at hk;have h3:=P0 hs (n5.ns c) k hk (k9 _) (U0 (fun m hm=>hok m (by omega)) (k9 _));rw [L1 c hk];show (Q5 c k).length<=100000
  omega
 have p:=VK c (c.names.take g) (A6 c (n5.ns c)) i hi hs.sm.fq.1;rw [Jl hg hi] at p;unfold O4;rw [hm];refine ⟨_,_,fun h0=> ?_,p⟩;unfold zl;rw [<- hn,R8 c g hnl h0,Nat.min_eq_right (by omega)];exact ⟨rfl,rfl⟩
theorem xI {c:n5}(hs:C0 c)  {g i:Nat}(hg:g=n5.ns c+(c.idxs.length+c.F3.length+c.F9.length+c.J3.length+c.K9.length)+i)(hi:i<c.M8.length)(hok:bJ c g):O4 c 75 i g:=by
 have hn:nth c.names g=(nth c.M8 i).name:=by
  rw [hg];exact R0 c (n5.sn c++c.idxs.map iW.name++c.F3.map iK.name++c.F9.map kP.name++c.J3.map jV.name++c.K9.map nq.name) ([]) c.M8 nj.name (by simp [n5.names,n5.sn]) (by simp [R2,I8]) hi
 have hm:min g (n5.ns c)=n5.ns c:=by omega
 have hnl:g<c.names.length:=by rw [T1];omega
 have dV:∀ k,k<(A6 c (n5.ns c)).length->(nth (A6 c (n5.ns c)) k).2.2.length<=100000:=fun k hk=>by
  rw [C8] at hk;have h3:=P0 hs (n5.ns c) k hk (k9 _) (U0 (fun m hm=>hok m (by omega)) (k9 _));rw [L1 c hk];show (Q5 c k).length<=100000
  omega
 have p:=VL c (c.names.take g) (A6 c (n5.ns c)) i hi hs.sm.fq.1 (hs.bk i hi);rw [Mt hg hi] at p;unfold O4;rw [hm];refine ⟨_,_,fun h0=> ?_,p⟩;unfold zl;rw [<- hn,R8 c g hnl h0,Nat.min_eq_right (by omega)];exact ⟨rfl,rfl⟩
theorem BP {c:n5}(h:tooMany c=false):n5.ns c<=20:=by
 simp only [tooMany,zU,p8,L6,decide_eq_false_iff_not] at h;unfold n5.ns;omega
theorem mD (c:n5)(hs:C0 c):Pq A 29 [cat c] [.cells (c.enc.map .d)] cU (gW c c.names (A6 c (n5.ns c))):=by
 have hnl:=Z1 c;refine VM c hs.sm.fq (zl c) ⟨rfl,rfl⟩ (fun g ds ss ds' ss' h h' =>⟨h.1.trans h'.1.symm,h.2.trans h'.2.symm⟩) _ _ (fun ds ss h=>⟨by rw [h.1,List.take_length],by rw [h.2,Nat.min_eq_right hnl]⟩) ?_;rintro q i ds ss hq hi qy hok ⟨rfl,rfl⟩;have h20:=BP qy
 match q,hq with
 |0,_ =>
  have hi' :i<c.j3.length:=hi;have e:L9 c 0+i=i:=by simp [L9]
  rw [e] at hok ⊢;exact xP hs hi' hok
 |1,_ =>
  have hi' :i<c.views.length:=hi;have e:L9 c 1+i=c.j3.length+i:=by simp [L9,cnt]
  rw [e] at hok ⊢;have:=th hs (by omega) (g:=c.j3.length+i) (by omega) (by unfold n5.ns;omega) hok;rw [Nat.add_sub_cancel_left] at this;exact this
 |2,_=>exact xK hs (by simp [L9,cnt,n5.ns]) hi hok
 |3,_=>exact xN hs (by simp [L9,cnt,n5.ns,I8]) hi hok
 |4,_=>exact xJ hs (by simp [L9,cnt,n5.ns,I8]) hi hok
 |5,_ =>
  refine xM hs (fun k hk=> ?_) (by simp [L9,cnt,n5.ns,I8]) hi hok;have hle:n5.ns c<=L9 c 5+i:=by simp [L9,cnt,n5.ns];omega
  have h9:=cQ (bX (hok (k+c.j3.length) (by unfold n5.ns at hle;omega)) (by omega) (by unfold n5.ns;omega));have QI:U5 c (k+c.j3.length)=nth c.views k:=by unfold U5;rw [Nat.add_sub_cancel]
  rw [QI] at h9;exact sY h9.2.2.2
 |6,_=>exact xO hs (by simp [L9,cnt,n5.ns,I8]) hi hok
 |7,_=>exact xI hs (by simp [L9,cnt,n5.ns,I8]) hi hok
end Go.Proofs.YtkmclibmmlgogaaGreat


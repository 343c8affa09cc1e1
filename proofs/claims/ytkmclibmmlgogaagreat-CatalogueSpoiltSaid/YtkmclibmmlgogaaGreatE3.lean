/- Texts D40 D41 D42 (made short by a program) -/
import Derived.Test.YtkmclibmmlgogaaGreatE2
set_option linter.unusedVariables false
set_option linter.unusedSimpArgs false
open Nat renaming add_assoc → H9, le_refl → n5
namespace Go.Proofs.YtkmclibmmlgogaaGreat
open Go.y3 Go.y3.S
def Aq (c:m8)(g:Nat)(ds:List D8)(ss:List Y4):Prop:=ds=c.names.take g/\ss=A0 c (min g (m8.ns c))
def P3 (c:m8)(f:FuncId)(i g:Nat):Prop:=∃ dz sz,(K7 c g=0->Aq c (g+1) dz sz)/\Pm A f [.ptr 4 0,.d (num i)] (HH c (c.names.take g) (A0 c (min g (m8.ns c)))) lW (.d (num (K7 c g))) (HH c dz sz)
theorem yL {c:m8}(hs:B6 c){i:Nat}(hi:i<c.j3.length)(hok:bW c i):P3 c 68 i i:=by
 have cz:i<m8.ns c:=by unfold m8.ns;omega
 have hf:=hs.sm.fI.1;have hm:min i (m8.ns c)=i:=by omega
 have p:=XY c (c.names.take i) (A0 c i) i hi (hs.sm.m7 i hi) (fun j hj=>hs.sm.C5 i j hi hj) (by rw [D0];omega) (by rw [D0];omega) (by omega)
  (fun k hk=>by
   rw [D0] at hk;have h1:=(cU (ez (hok k hk) (by omega))).1;rw [M0 c hk];refine ⟨?_,h1⟩;show 0<(R3 c k).length
   rw [qH c (by omega)];simpa using h1) (fun s hs' =>wm c (by omega) s hs')
 rw [DD hi hok] at p;unfold P3;rw [hm];refine ⟨_,_,fun h0=> ?_,p⟩;unfold Aq;have hnl:i<c.names.length:=by have:=Z3 c;omega
 rw [Kx hi hok h0,<- og c hi,S3 c i hnl h0,Nat.min_eq_left (by omega)];exact ⟨rfl,rfl⟩
theorem tR {c:m8}(hs:B6 c)(hn:m8.ns c<=1000){g:Nat}(h:c.j3.length<=g)(h2:g<m8.ns c)(hok:bW c g):P3 c 69 (g - c.j3.length) g:=by
 have hv:g - c.j3.length<c.views.length:=by unfold m8.ns at h2;omega
 have hm:min g (m8.ns c)=g:=by omega
 have p:=XZ c (c.names.take g) (A0 c g) (g - c.j3.length) hv (hs.on _ hv) (hs.wh _ hv) (hs.items _ hv) (hs.C1 _ hv) (fun j hj=>hs.AN _ j hv hj) (fun j hj=>hs.Mu _ j hv hj) (by rw [D0];omega)
  (fun k hk=>by
   rw [D0] at hk;have h1:=rS hs g k hk (by omega) hok;have h3:=P7 hs g k hk (by omega) (U1 hok (by omega));rw [M0 c hk];exact ⟨h1.2.1,by show (wY c k).length<=5000;omega,h1.1,by show (R3 c k).length<=5000;omega⟩) (fun s hs' =>wm c (by omega) s hs')
 rw [show nth c.views (g - c.j3.length)=U7 c g from rfl,yZ h h2] at p;unfold P3;rw [hm];refine ⟨_,_,fun h0=> ?_,p⟩;unfold Aq;have hnl:g<c.names.length:=by have:=Z3 c;omega
 rw [Gj h h2 h0,<- kN c h h2,S3 c g hnl h0,Nat.min_eq_left (by omega)];exact ⟨rfl,rfl⟩
theorem yG {c:m8}(hs:B6 c)  {g i:Nat}(hg:g=m8.ns c+i)(hi:i<c.idxs.length)(hok:bW c g):P3 c 70 i g:=by
 have hn:nth c.names g=(nth c.idxs i).name:=by
  rw [hg];exact R7 c (m8.sn c) (c.E7.map iq.name++c.F1.map kj.name++c.I9.map jx.name++c.K9.map lS.name++c.M7.map lQ.name) c.idxs iC.name (by simp [m8.names,m8.sn]) (by simp [S0,H9]) hi
 have hm:min g (m8.ns c)=m8.ns c:=by omega
 have hnl:g<c.names.length:=by rw [T6];omega
 have eg:∀ k,k<(A0 c (m8.ns c)).length->(nth (A0 c (m8.ns c)) k).2.2.length<=100000:=fun k hk=>by
  rw [D0] at hk;have h3:=P7 hs (m8.ns c) k hk (n5 _) (U1 (fun m hm=>hok m (by omega)) (n5 _));rw [M0 c hk];show (R3 c k).length<=100000
  omega
 have p:=Ya c (c.names.take g) (A0 c (m8.ns c)) i hi eg;rw [JN hg hi] at p;unfold P3;rw [hm];refine ⟨_,_,fun h0=> ?_,p⟩;unfold Aq;rw [<- hn,S3 c g hnl h0,Nat.min_eq_right (by omega)];exact ⟨rfl,rfl⟩
theorem yJ {c:m8}(hs:B6 c)  {g i:Nat}(hg:g=m8.ns c+(c.idxs.length)+i)(hi:i<c.E7.length)(hok:bW c g):P3 c 71 i g:=by
 have hn:nth c.names g=(nth c.E7 i).name:=by
  rw [hg];exact R7 c (m8.sn c++c.idxs.map iC.name) (c.F1.map kj.name++c.I9.map jx.name++c.K9.map lS.name++c.M7.map lQ.name) c.E7 iq.name (by simp [m8.names,m8.sn]) (by simp [S0,H9]) hi
 have hm:min g (m8.ns c)=m8.ns c:=by omega
 have hnl:g<c.names.length:=by rw [T6];omega
 have eg:∀ k,k<(A0 c (m8.ns c)).length->(nth (A0 c (m8.ns c)) k).2.2.length<=100000:=fun k hk=>by
  rw [D0] at hk;have h3:=P7 hs (m8.ns c) k hk (n5 _) (U1 (fun m hm=>hok m (by omega)) (n5 _));rw [M0 c hk];show (R3 c k).length<=100000
  omega
 have p:=Yb c (c.names.take g) (A0 c (m8.ns c)) i hi eg;rw [Kq hg hi] at p;unfold P3;rw [hm];refine ⟨_,_,fun h0=> ?_,p⟩;unfold Aq;rw [<- hn,S3 c g hnl h0,Nat.min_eq_right (by omega)];exact ⟨rfl,rfl⟩
theorem yF {c:m8}(hs:B6 c)  {g i:Nat}(hg:g=m8.ns c+(c.idxs.length+c.E7.length)+i)(hi:i<c.F1.length)(hok:bW c g):P3 c 72 i g:=by
 have hn:nth c.names g=(nth c.F1 i).name:=by
  rw [hg];exact R7 c (m8.sn c++c.idxs.map iC.name++c.E7.map iq.name) (c.I9.map jx.name++c.K9.map lS.name++c.M7.map lQ.name) c.F1 kj.name (by simp [m8.names,m8.sn]) (by simp [S0,H9]) hi
 have hm:min g (m8.ns c)=m8.ns c:=by omega
 have hnl:g<c.names.length:=by rw [T6];omega
 have eg:∀ k,k<(A0 c (m8.ns c)).length->(nth (A0 c (m8.ns c)) k).2.2.length<=100000:=fun k hk=>by
  rw [D0] at hk;have h3:=P7 hs (m8.ns c) k hk (n5 _) (U1 (fun m hm=>hok m (by omega)) (n5 _));rw [M0 c hk];show (R3 c k).length<=100000
  omega
 have p:=Yc c (c.names.take g) (A0 c (m8.ns c)) i hi eg;rw [Jz hg hi] at p;unfold P3;rw [hm];refine ⟨_,_,fun h0=> ?_,p⟩;unfold Aq;rw [<- hn,S3 c g hnl h0,Nat.min_eq_right (by omega)];exact ⟨rfl,rfl⟩
theorem yI {c:m8}(hs:B6 c)(hg0:∀ k,k<c.views.length->(nth c.views k).kind≠1\/0<(nth c.views k).C1.length){g i:Nat}(hg:g=m8.ns c+(c.idxs.length+c.E7.length+c.F1.length)+i)(hi:i<c.I9.length)(hok:bW c g):P3 c 73 i g:=by
 have hn:nth c.names g=(nth c.I9 i).name:=by
  rw [hg];exact R7 c (m8.sn c++c.idxs.map iC.name++c.E7.map iq.name++c.F1.map kj.name) (c.K9.map lS.name++c.M7.map lQ.name) c.I9 jx.name (by simp [m8.names,m8.sn]) (by simp [S0,H9]) hi
 have hm:min g (m8.ns c)=m8.ns c:=by omega
 have hnl:g<c.names.length:=by rw [T6];omega
 have eg:∀ k,k<(A0 c (m8.ns c)).length->(nth (A0 c (m8.ns c)) k).2.2.length<=100000:=fun k hk=>by
  rw [D0] at hk;have h3:=P7 hs (m8.ns c) k hk (n5 _) (U1 (fun m hm=>hok m (by omega)) (n5 _));rw [M0 c hk];show (R3 c k).length<=100000
  omega
 have p:=Yd c (c.names.take g) (A0 c (m8.ns c)) i hi hs.sm.fI.1 (by rw [D0];exact n5 _) hs.sm.fI.2.1 hg0;rw [Kg hg hi] at p;unfold P3;rw [hm];refine ⟨_,_,fun h0=> ?_,p⟩;unfold Aq;rw [<- hn,S3 c g hnl h0,Nat.min_eq_right (by omega)];exact ⟨rfl,rfl⟩
theorem yK {c:m8}(hs:B6 c)  {g i:Nat}(hg:g=m8.ns c+(c.idxs.length+c.E7.length+c.F1.length+c.I9.length)+i)(hi:i<c.K9.length)(hok:bW c g):P3 c 74 i g:=by
 have hn:nth c.names g=(nth c.K9 i).name:=by
  rw [hg];exact R7 c (m8.sn c++c.idxs.map iC.name++c.E7.map iq.name++c.F1.map kj.name++c.I9.map jx.name) (c.M7.map lQ.name) c.K9 lS.name (by simp [m8.names,m8.sn]) (by simp [S0,H9]) hi
 have hm:min g (m8.ns c)=m8.ns c:=by omega
 have hnl:g<c.names.length:=by rw [T6];omega
 have eg:∀ k,k<(A0 c (m8.ns c)).length->(nth (A0 c (m8.ns c)) k).2.2.length<=100000:=fun k hk=>by
  rw [D0] at hk;have h3:=P7 hs (m8.ns c) k hk (n5 _) (U1 (fun m hm=>hok m (by omega)) (n5 _));rw [M0 c hk];show (R3 c k).length<=100000
  omega
 have p:=Ye c (c.names.take g) (A0 c (m8.ns c)) i hi hs.sm.fI.1;rw [Kw hg hi] at p;unfold P3;rw [hm];refine ⟨_,_,fun h0=> ?_,p⟩;unfold Aq;rw [<- hn,S3 c g hnl h0,Nat.min_eq_right (by omega)];exact ⟨rfl,rfl⟩
theorem yE {c:m8}(hs:B6 c)  {g i:Nat}(hg:g=m8.ns c+(c.idxs.length+c.E7.length+c.F1.length+c.I9.length+c.K9.length)+i)(hi:i<c.M7.length)(hok:bW c g):P3 c 75 i g:=by
 have hn:nth c.names g=(nth c.M7 i).name:=by
  rw [hg];exact R7 c (m8.sn c++c.idxs.map iC.name++c.E7.map iq.name++c.F1.map kj.name++c.I9.map jx.name++c.K9.map lS.name) ([]) c.M7 lQ.name (by simp [m8.names,m8.sn]) (by simp [S0,H9]) hi
 have hm:min g (m8.ns c)=m8.ns c:=by omega
 have hnl:g<c.names.length:=by rw [T6];omega
 have eg:∀ k,k<(A0 c (m8.ns c)).length->(nth (A0 c (m8.ns c)) k).2.2.length<=100000:=fun k hk=>by
  rw [D0] at hk;have h3:=P7 hs (m8.ns c) k hk (n5 _) (U1 (fun m hm=>hok m (by omega)) (n5 _));rw [M0 c hk];show (R3 c k).length<=100000
  omega
 have p:=Yf c (c.names.take g) (A0 c (m8.ns c)) i hi hs.sm.fI.1 (hs.bk i hi);rw [Of hg hi] at p;unfold P3;rw [hm];refine ⟨_,_,fun h0=> ?_,p⟩;unfold Aq;rw [<- hn,S3 c g hnl h0,Nat.min_eq_right (by omega)];exact ⟨rfl,rfl⟩
theorem CN {c:m8}(h:tooMany c=false):m8.ns c<=20:=by
 simp only [tooMany,AT,p5,Bool.or_eq_false_iff,decide_eq_false_iff_not] at h;unfold m8.ns;omega
theorem mT (c:m8)(hs:B6 c):Pq A 29 [cat c] [.cells (c.enc.map .d)] cB (iD c c.names (A0 c (m8.ns c))):=by
 have hnl:=Z3 c;refine Yg c hs.sm.fI (Aq c) ⟨rfl,rfl⟩ (fun g ds ss ds' ss' h h' =>⟨h.1.trans h'.1.symm,h.2.trans h'.2.symm⟩) _ _ (fun ds ss h=>⟨by rw [h.1,List.take_length],by rw [h.2,Nat.min_eq_right hnl]⟩) ?_;rintro q i ds ss hq hi qP hok ⟨rfl,rfl⟩;have h20:=CN qP
 match q,hq with
 |0,_ =>
  have hi' :i<c.j3.length:=hi;have e:M8 c 0+i=i:=by simp [M8]
  rw [e] at hok ⊢;exact yL hs hi' hok
 |1,_ =>
  have hi' :i<c.views.length:=hi;have e:M8 c 1+i=c.j3.length+i:=by simp [M8,cnt]
  rw [e] at hok ⊢;have:=tR hs (by omega) (g:=c.j3.length+i) (by omega) (by unfold m8.ns;omega) hok;rw [Nat.add_sub_cancel_left] at this;exact this
 |2,_=>exact yG hs (by simp [M8,cnt,m8.ns]) hi hok
 |3,_=>exact yJ hs (by simp [M8,cnt,m8.ns,H9]) hi hok
 |4,_=>exact yF hs (by simp [M8,cnt,m8.ns,H9]) hi hok
 |5,_ =>
  refine yI hs (fun k hk=> ?_) (by simp [M8,cnt,m8.ns,H9]) hi hok;have hle:m8.ns c<=M8 c 5+i:=by simp [M8,cnt,m8.ns];omega
  have h9:=cW (cw (hok (k+c.j3.length) (by unfold m8.ns at hle;omega)) (by omega) (by unfold m8.ns;omega));have SZ:U7 c (k+c.j3.length)=nth c.views k:=by unfold U7;rw [Nat.add_sub_cancel]
  rw [SZ] at h9;exact tM h9.2.2.2
 |6,_=>exact yK hs (by simp [M8,cnt,m8.ns,H9]) hi hok
 |7,_=>exact yE hs (by simp [M8,cnt,m8.ns,H9]) hi hok
end Go.Proofs.YtkmclibmmlgogaaGreat


/-
  What each declaration's method gives.; What each declaration's method gives.; The program's check answers as the reference's Check.
  (Put together by a small program out of several texts; blanks left out to keep the folder small.)
-/
import Derived.Test.YtkmclibmmlgogaaGreatE2
import Derived.Test.YtkmclibmmlgogaaGreatB6
set_option linter.unusedVariables false
set_option linter.unusedSimpArgs false
namespace Go.Proofs.YtkmclibmmlgogaaGreat
open Go.Abs Go.Abs.S
def STc (c:Cat)(g:Nat)(ds:List Str)(ss:List Sto):Prop:=ds=c.names.take g∧ss=stors c (min g (Cat.ns c))
def StepOK (c:Cat)(f:FuncId)(i g:Nat):Prop:=∃ dz sz,(errAt c g=0→STc c (g+1) dz sz)∧Pm A f [.ptr 4 0,.d (num i)] (HH c (c.names.take g) (stors c (min g (Cat.ns c)))) lW (.d (num (errAt c g))) (HH c dz sz)
theorem step_tab {c:Cat}(hs:Small2 c){i:Nat}(hi:i<c.tabs.length)(hok:okTo c i):StepOK c 68 i i:=by
 have hns:i<Cat.ns c:=by unfold Cat.ns;omega
 have hf:=hs.sm.few.1
 have hm:min i (Cat.ns c)=i:=by omega
 have p:=pm68 c (c.names.take i) (stors c i) i hi (hs.sm.cols i hi) (fun j hj=>hs.sm.owners i j hi hj) (by rw [stors_len];omega) (by rw [stors_len];omega) (by omega)
  (fun k hk=>by
   rw [stors_len] at hk
   have h1:=(tabErr_cols (errAt_tab (hok k hk) (by omega))).1
   rw [stors_nth c hk]
   refine ⟨?_,h1⟩
   show 0<(ctys c k).length
   rw [ctys_tab c (by omega)]
   simpa using h1) (fun s hs' =>sub_any c (by omega) s hs')
 rw [tabM_eq hi hok] at p
 unfold StepOK
 rw [hm]
 refine ⟨_,_,fun h0=> ?_,p⟩
 unfold STc
 have hnl:i<c.names.length:=by have:=names_len c;omega
 rw [tabS_eq hi hok h0,← names_tab c hi,decl_take c i hnl h0,Nat.min_eq_left (by omega)]
 exact ⟨rfl,rfl⟩
end Go.Proofs.YtkmclibmmlgogaaGreat
namespace Go.Proofs.YtkmclibmmlgogaaGreat
open Go.Abs Go.Abs.S
theorem step_view {c:Cat}(hs:Small2 c)(hn:Cat.ns c≤1000){g:Nat}(h:c.tabs.length≤g)(h2:g<Cat.ns c)(hok:okTo c g):StepOK c 69 (g - c.tabs.length) g:=by
 have hv:g - c.tabs.length<c.views.length:=by unfold Cat.ns at h2;omega
 have hm:min g (Cat.ns c)=g:=by omega
 have p:=pm69 c (c.names.take g) (stors c g) (g - c.tabs.length) hv (hs.on _ hv) (hs.wh _ hv) (hs.items _ hv) (hs.aggs _ hv) (fun j hj=>hs.itemE _ j hv hj) (fun j hj=>hs.aggE _ j hv hj) (by rw [stors_len];omega)
  (fun k hk=>by
   rw [stors_len] at hk
   have h1:=sto_pos hs g k hk (by omega) hok
   have h3:=ctys_len hs g k hk (by omega) (okTo_src hok (by omega))
   rw [stors_nth c hk]
   exact ⟨h1.2.1,by show (cnm c k).length≤5000;omega,h1.1,by show (ctys c k).length≤5000;omega⟩) (fun s hs' =>sub_any c (by omega) s hs')
 rw [show nth c.views (g - c.tabs.length)=vOf c g from rfl,viewM_eq h h2] at p
 unfold StepOK
 rw [hm]
 refine ⟨_,_,fun h0=> ?_,p⟩
 unfold STc
 have hnl:g<c.names.length:=by have:=names_len c;omega
 rw [viewS_eq h h2 h0,← names_view c h h2,decl_take c g hnl h0,Nat.min_eq_left (by omega)]
 exact ⟨rfl,rfl⟩
theorem step_idx {c:Cat}(hs:Small2 c)  {g i:Nat}(hg:g=Cat.ns c+i)(hi:i<c.idxs.length)(hok:okTo c g):StepOK c 70 i g:=by
 have hn:nth c.names g=(nth c.idxs i).name:=by
  rw [hg]
  exact names_at c (Cat.sn c) (c.skts.map Skt.name++c.cchs.map Cch.name++c.rlss.map Rls.name++c.stms.map Stm.name++c.bkps.map Bkp.name) c.idxs Idx.name (by simp [Cat.names,Cat.sn]) (by simp [sn_len,Nat.add_assoc]) hi
 have hm:min g (Cat.ns c)=Cat.ns c:=by omega
 have hnl:g<c.names.length:=by rw [names_len2];omega
 have hty:∀ k,k<(stors c (Cat.ns c)).length→(nth (stors c (Cat.ns c)) k).2.2.length≤100000:=fun k hk=>by
  rw [stors_len] at hk
  have h3:=ctys_len hs (Cat.ns c) k hk (Nat.le_refl _) (okTo_src (fun m hm=>hok m (by omega)) (Nat.le_refl _))
  rw [stors_nth c hk]
  show (ctys c k).length≤100000
  omega
 have p:=pm70 c (c.names.take g) (stors c (Cat.ns c)) i hi hty
 rw [idxM_eq hg hi] at p
 unfold StepOK
 rw [hm]
 refine ⟨_,_,fun h0=> ?_,p⟩
 unfold STc
 rw [← hn,decl_take c g hnl h0,Nat.min_eq_right (by omega)]
 exact ⟨rfl,rfl⟩
theorem step_skt {c:Cat}(hs:Small2 c)  {g i:Nat}(hg:g=Cat.ns c+(c.idxs.length)+i)(hi:i<c.skts.length)(hok:okTo c g):StepOK c 71 i g:=by
 have hn:nth c.names g=(nth c.skts i).name:=by
  rw [hg]
  exact names_at c (Cat.sn c++c.idxs.map Idx.name) (c.cchs.map Cch.name++c.rlss.map Rls.name++c.stms.map Stm.name++c.bkps.map Bkp.name) c.skts Skt.name (by simp [Cat.names,Cat.sn]) (by simp [sn_len,Nat.add_assoc]) hi
 have hm:min g (Cat.ns c)=Cat.ns c:=by omega
 have hnl:g<c.names.length:=by rw [names_len2];omega
 have hty:∀ k,k<(stors c (Cat.ns c)).length→(nth (stors c (Cat.ns c)) k).2.2.length≤100000:=fun k hk=>by
  rw [stors_len] at hk
  have h3:=ctys_len hs (Cat.ns c) k hk (Nat.le_refl _) (okTo_src (fun m hm=>hok m (by omega)) (Nat.le_refl _))
  rw [stors_nth c hk]
  show (ctys c k).length≤100000
  omega
 have p:=pm71 c (c.names.take g) (stors c (Cat.ns c)) i hi hty
 rw [sktM_eq hg hi] at p
 unfold StepOK
 rw [hm]
 refine ⟨_,_,fun h0=> ?_,p⟩
 unfold STc
 rw [← hn,decl_take c g hnl h0,Nat.min_eq_right (by omega)]
 exact ⟨rfl,rfl⟩
theorem step_cch {c:Cat}(hs:Small2 c)  {g i:Nat}(hg:g=Cat.ns c+(c.idxs.length+c.skts.length)+i)(hi:i<c.cchs.length)(hok:okTo c g):StepOK c 72 i g:=by
 have hn:nth c.names g=(nth c.cchs i).name:=by
  rw [hg]
  exact names_at c (Cat.sn c++c.idxs.map Idx.name++c.skts.map Skt.name) (c.rlss.map Rls.name++c.stms.map Stm.name++c.bkps.map Bkp.name) c.cchs Cch.name (by simp [Cat.names,Cat.sn]) (by simp [sn_len,Nat.add_assoc]) hi
 have hm:min g (Cat.ns c)=Cat.ns c:=by omega
 have hnl:g<c.names.length:=by rw [names_len2];omega
 have hty:∀ k,k<(stors c (Cat.ns c)).length→(nth (stors c (Cat.ns c)) k).2.2.length≤100000:=fun k hk=>by
  rw [stors_len] at hk
  have h3:=ctys_len hs (Cat.ns c) k hk (Nat.le_refl _) (okTo_src (fun m hm=>hok m (by omega)) (Nat.le_refl _))
  rw [stors_nth c hk]
  show (ctys c k).length≤100000
  omega
 have p:=pm72 c (c.names.take g) (stors c (Cat.ns c)) i hi hty
 rw [cchM_eq hg hi] at p
 unfold StepOK
 rw [hm]
 refine ⟨_,_,fun h0=> ?_,p⟩
 unfold STc
 rw [← hn,decl_take c g hnl h0,Nat.min_eq_right (by omega)]
 exact ⟨rfl,rfl⟩
theorem step_rls {c:Cat}(hs:Small2 c)(hg0:∀ k,k<c.views.length→(nth c.views k).kind≠1∨0<(nth c.views k).aggs.length){g i:Nat}(hg:g=Cat.ns c+(c.idxs.length+c.skts.length+c.cchs.length)+i)(hi:i<c.rlss.length)(hok:okTo c g):StepOK c 73 i g:=by
 have hn:nth c.names g=(nth c.rlss i).name:=by
  rw [hg]
  exact names_at c (Cat.sn c++c.idxs.map Idx.name++c.skts.map Skt.name++c.cchs.map Cch.name) (c.stms.map Stm.name++c.bkps.map Bkp.name) c.rlss Rls.name (by simp [Cat.names,Cat.sn]) (by simp [sn_len,Nat.add_assoc]) hi
 have hm:min g (Cat.ns c)=Cat.ns c:=by omega
 have hnl:g<c.names.length:=by rw [names_len2];omega
 have hty:∀ k,k<(stors c (Cat.ns c)).length→(nth (stors c (Cat.ns c)) k).2.2.length≤100000:=fun k hk=>by
  rw [stors_len] at hk
  have h3:=ctys_len hs (Cat.ns c) k hk (Nat.le_refl _) (okTo_src (fun m hm=>hok m (by omega)) (Nat.le_refl _))
  rw [stors_nth c hk]
  show (ctys c k).length≤100000
  omega
 have p:=pm73 c (c.names.take g) (stors c (Cat.ns c)) i hi hs.sm.few.1 (by rw [stors_len];exact Nat.le_refl _) hs.sm.few.2.1 hg0
 rw [rlsM_eq hg hi] at p
 unfold StepOK
 rw [hm]
 refine ⟨_,_,fun h0=> ?_,p⟩
 unfold STc
 rw [← hn,decl_take c g hnl h0,Nat.min_eq_right (by omega)]
 exact ⟨rfl,rfl⟩
theorem step_stm {c:Cat}(hs:Small2 c)  {g i:Nat}(hg:g=Cat.ns c+(c.idxs.length+c.skts.length+c.cchs.length+c.rlss.length)+i)(hi:i<c.stms.length)(hok:okTo c g):StepOK c 74 i g:=by
 have hn:nth c.names g=(nth c.stms i).name:=by
  rw [hg]
  exact names_at c (Cat.sn c++c.idxs.map Idx.name++c.skts.map Skt.name++c.cchs.map Cch.name++c.rlss.map Rls.name) (c.bkps.map Bkp.name) c.stms Stm.name (by simp [Cat.names,Cat.sn]) (by simp [sn_len,Nat.add_assoc]) hi
 have hm:min g (Cat.ns c)=Cat.ns c:=by omega
 have hnl:g<c.names.length:=by rw [names_len2];omega
 have hty:∀ k,k<(stors c (Cat.ns c)).length→(nth (stors c (Cat.ns c)) k).2.2.length≤100000:=fun k hk=>by
  rw [stors_len] at hk
  have h3:=ctys_len hs (Cat.ns c) k hk (Nat.le_refl _) (okTo_src (fun m hm=>hok m (by omega)) (Nat.le_refl _))
  rw [stors_nth c hk]
  show (ctys c k).length≤100000
  omega
 have p:=pm74 c (c.names.take g) (stors c (Cat.ns c)) i hi hs.sm.few.1
 rw [stmM_eq hg hi] at p
 unfold StepOK
 rw [hm]
 refine ⟨_,_,fun h0=> ?_,p⟩
 unfold STc
 rw [← hn,decl_take c g hnl h0,Nat.min_eq_right (by omega)]
 exact ⟨rfl,rfl⟩
theorem step_bkp {c:Cat}(hs:Small2 c)  {g i:Nat}(hg:g=Cat.ns c+(c.idxs.length+c.skts.length+c.cchs.length+c.rlss.length+c.stms.length)+i)(hi:i<c.bkps.length)(hok:okTo c g):StepOK c 75 i g:=by
 have hn:nth c.names g=(nth c.bkps i).name:=by
  rw [hg]
  exact names_at c (Cat.sn c++c.idxs.map Idx.name++c.skts.map Skt.name++c.cchs.map Cch.name++c.rlss.map Rls.name++c.stms.map Stm.name) ([]) c.bkps Bkp.name (by simp [Cat.names,Cat.sn]) (by simp [sn_len,Nat.add_assoc]) hi
 have hm:min g (Cat.ns c)=Cat.ns c:=by omega
 have hnl:g<c.names.length:=by rw [names_len2];omega
 have hty:∀ k,k<(stors c (Cat.ns c)).length→(nth (stors c (Cat.ns c)) k).2.2.length≤100000:=fun k hk=>by
  rw [stors_len] at hk
  have h3:=ctys_len hs (Cat.ns c) k hk (Nat.le_refl _) (okTo_src (fun m hm=>hok m (by omega)) (Nat.le_refl _))
  rw [stors_nth c hk]
  show (ctys c k).length≤100000
  omega
 have p:=pm75 c (c.names.take g) (stors c (Cat.ns c)) i hi hs.sm.few.1 (hs.bk i hi)
 rw [bkM_eq hg hi] at p
 unfold StepOK
 rw [hm]
 refine ⟨_,_,fun h0=> ?_,p⟩
 unfold STc
 rw [← hn,decl_take c g hnl h0,Nat.min_eq_right (by omega)]
 exact ⟨rfl,rfl⟩
end Go.Proofs.YtkmclibmmlgogaaGreat
namespace Go.Proofs.YtkmclibmmlgogaaGreat
open Go.Abs Go.Abs.S
theorem many_ns {c:Cat}(h:tooMany c=false):Cat.ns c≤20:=by
 simp only [tooMany,many6,ltB_eq,Bool.or_eq_false_iff,decide_eq_false_iff_not] at h
 unfold Cat.ns
 omega
theorem pq29c (c:Cat)(hs:Small2 c):Pq A 29 [cat c] [.cells (c.enc.map .d)] lim0 (chkPost c c.names (stors c (Cat.ns c))):=by
 have hnl:=names_len c
 refine pq29 c hs.sm.few (STc c) ⟨rfl,rfl⟩ (fun g ds ss ds' ss' h h' =>⟨h.1.trans h'.1.symm,h.2.trans h'.2.symm⟩) _ _ (fun ds ss h=>⟨by rw [h.1,List.take_length],by rw [h.2,Nat.min_eq_right hnl]⟩) ?_
 rintro q i ds ss hq hi hmany hok ⟨rfl,rfl⟩
 have h20:=many_ns hmany
 match q,hq with
 |0,_ =>
  have hi' :i<c.tabs.length:=hi
  have e:offs c 0+i=i:=by simp [offs]
  rw [e] at hok ⊢
  exact step_tab hs hi' hok
 |1,_ =>
  have hi' :i<c.views.length:=hi
  have e:offs c 1+i=c.tabs.length+i:=by simp [offs,cnt]
  rw [e] at hok ⊢
  have:=step_view hs (by omega) (g:=c.tabs.length+i) (by omega) (by unfold Cat.ns;omega) hok
  rw [Nat.add_sub_cancel_left] at this
  exact this
 |2,_=>exact step_idx hs (by simp [offs,cnt,Cat.ns]) hi hok
 |3,_=>exact step_skt hs (by simp [offs,cnt,Cat.ns,Nat.add_assoc]) hi hok
 |4,_=>exact step_cch hs (by simp [offs,cnt,Cat.ns,Nat.add_assoc]) hi hok
 |5,_ =>
  refine step_rls hs (fun k hk=> ?_) (by simp [offs,cnt,Cat.ns,Nat.add_assoc]) hi hok
  have hle:Cat.ns c≤offs c 5+i:=by simp [offs,cnt,Cat.ns];omega
  have h9:=viewErr_src (errAt_view (hok (k+c.tabs.length) (by unfold Cat.ns at hle;omega)) (by omega) (by unfold Cat.ns;omega))
  have h10:vOf c (k+c.tabs.length)=nth c.views k:=by unfold vOf;rw [Nat.add_sub_cancel]
  rw [h10] at h9
  exact shape_agg h9.2.2.2
 |6,_=>exact step_stm hs (by simp [offs,cnt,Cat.ns,Nat.add_assoc]) hi hok
 |7,_=>exact step_bkp hs (by simp [offs,cnt,Cat.ns,Nat.add_assoc]) hi hok
end Go.Proofs.YtkmclibmmlgogaaGreat

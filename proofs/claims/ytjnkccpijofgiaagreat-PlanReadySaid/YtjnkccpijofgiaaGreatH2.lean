/-
  The law PlanEqual in the machine; plans read from arguments.; The primitives of the plan's program: each does in the model what the machine takes as one step.; The program of the machine with its primitives is sound.
  (Put together by a small program out of several texts; blanks left out to keep the folder small.)
-/
import Derived.Test.YtjnkccpijofgiaaGreatH0
import Derived.Test.YtjnkccpijofgiaaGreatK2
import Derived.Test.YtjnkccpijofgiaaGreatB5
import Derived.Test.YtjnkccpijofgiaaGreatB6
import Derived.Test.YtjnkccpijofgiaaGreatB7
import Derived.Test.YtjnkccpijofgiaaGreatB8
import Derived.Test.YtjnkccpijofgiaaGreatH1
set_option linter.unusedVariables false
set_option linter.unusedSimpArgs false
namespace Go.Proofs.YtjnkccpijofgiaaGreat
open Go.Abs Go.Abs.S
attribute [local irreducible] Rx Ry Rn Ex Pf
def ctV3:List CT:=[ctI,ctI,ctI]
def ctV2:List CT:=[ctI,ctI]
def ctStp:List CT:=[ctI,ctI,ctI,.slice [ctI],ctI]
def ctPln:List CT:=[.slice ctV3,.slice ctV2,.slice ctStp]
theorem row_V3 {r:List Abs.Data}(h:FitsL ctV3 r):∃ v:V3,r=enc3 v∧True:=by
 simp only [ctV3,FitsL] at h
 obtain ⟨d0,_,rfl,h0,d1,_,rfl,h1,d2,_,rfl,h2,rfl⟩:=h
 obtain ⟨v0,rfl,k0⟩:=fits_num h0
 obtain ⟨v1,rfl,k1⟩:=fits_num h1
 obtain ⟨v2,rfl,k2⟩:=fits_num h2
 exact ⟨(v0,v1,v2),rfl,trivial⟩
theorem row_V2 {r:List Abs.Data}(h:FitsL ctV2 r):∃ v:V2,r=enc2 v∧True:=by
 simp only [ctV2,FitsL] at h
 obtain ⟨d0,_,rfl,h0,d1,_,rfl,h1,rfl⟩:=h
 obtain ⟨v0,rfl,k0⟩:=fits_num h0
 obtain ⟨v1,rfl,k1⟩:=fits_num h1
 exact ⟨(v0,v1),rfl,trivial⟩
structure OkS (s:PStep):Prop where
 af:s.af.length≤maxLen
 ai:∀ a ∈ s.af,okI a
 dl:okI s.dl
theorem row_Stp {r:List Abs.Data}(h:FitsL ctStp r):∃ s:PStep,r=encPS s∧OkS s:=by
 simp only [ctStp,FitsL] at h
 obtain ⟨d0,_,rfl,h0,d1,_,rfl,h1,d2,_,rfl,h2,d3,_,rfl,h3,d4,_,rfl,h4,rfl⟩:=h
 obtain ⟨v0,rfl,k0⟩:=fits_num h0
 obtain ⟨v1,rfl,k1⟩:=fits_num h1
 obtain ⟨v2,rfl,k2⟩:=fits_num h2
 obtain ⟨v3,rfl,k3,k3'⟩:=fits_slice (fun _=>row_num) h3
 obtain ⟨v4,rfl,k4⟩:=fits_num h4
 exact ⟨⟨v0,v1,v2,v3,v4⟩,rfl,⟨k3,k3',k4⟩⟩
structure Pln.ok (p:Pln):Prop where
 vs:p.vs.length≤maxLen
 ss:p.ss.length≤maxLen
 st:p.st.length≤maxLen
 sk:∀ s ∈ p.st,OkS s
theorem row_Pln {r:List Abs.Data}(h:FitsL ctPln r):∃ p:Pln,r=[v3s p.vs,v2s p.ss,stps p.st]∧p.ok:=by
 simp only [ctPln,FitsL] at h
 obtain ⟨d0,_,rfl,h0,d1,_,rfl,h1,d2,_,rfl,h2,rfl⟩:=h
 obtain ⟨v0,rfl,k0,_⟩:=fits_slice (fun _=>row_V3) h0
 obtain ⟨v1,rfl,k1,_⟩:=fits_slice (fun _=>row_V2) h1
 obtain ⟨v2,rfl,k2,k3⟩:=fits_slice (fun _=>row_Stp) h2
 exact ⟨⟨v0,v1,v2⟩,rfl,⟨k0,k1,k2,k3⟩⟩
theorem Pln.ok.fits {p:Pln}(h:p.ok):Fits1 p:=by
 refine ⟨h.vs,h.ss,h.st,fun i hi=> ?_⟩
 rw [nth_eq hi]
 exact (h.sk _ (List.getElem_mem hi)).af
theorem sameB_refl {α:Type}{eq:α→α→Bool}(h:∀ a,eq a a=true):∀ l:List α,sameB eq l l=true
 |[]=>rfl
 |a::l=>by simp only [sameB,h,sameB_refl h l,Bool.and_self]
theorem eqP_refl (p:Pln):eqP p p=true:=by
 unfold eqP
 rw [sameB_refl (by intro a;simp [eq3]),sameB_refl (by intro a;simp [eq2]),sameB_refl (fun a=>by simp [eqSt,sameB_refl (eq:=eqB) (by intro a;simp [eqB_eq])])]
 rfl
theorem pf5 (p q:Pln)(hp:Fits1 p)(hq:Fits1 q):Pf A 5 [planA p,planA q] (.d (.bool true)):=by
 refine Pf.run [planA p,planA q,.any,.any,.any] rfl rfl rfl rfl ?_
 have p1:=up (pf6 p hp)
 have p2:=up (pf6 q hq)
 have p3:=up (pf17 p p hp)
 rw [eqP_refl] at p3
 have p4:=up (pf17 p q hp)
 have p5:=up (pf18 p q hp hq)
 repeat' (first|refine cl (p1) ?_|refine cl (p2) ?_|refine cl (p3) ?_|refine cl (p4) ?_|refine cl (p5) ?_|refine cl (pf7) ?_|refine gx ?_|refine fk (h1:=fun hw=> ?_) (h2:=fun hw=> ?_)|refine fpk (h1:=fun hw=> ?_) (h2:=fun hw=> ?_)|refine Ex.condP ?_|refine Ex.condN ?_|refine Ex.cond rfl (fun ht=> ?_) (fun ht=> ?_)|refine Ex.test (Rn.text ?_)|refine Ex.test (Rn.draw ?_)|refine ⟨_,rfl,fun ht=> ?_,fun ht=> ?_⟩|refine ⟨_,rfl,?_⟩|fail)
 all_goals simp_all [oneOrTuple]
end Go.Proofs.YtjnkccpijofgiaaGreat
namespace Go.Proofs.YtjnkccpijofgiaaGreat
open Go.RowKit Go.Maps Go.Abs
theorem places_to:∀ (ps:List (Int×Int)) (i:Nat) (d:Abs.Data),(placesD ps)[i]? =some d→∃ u,(flV ps)[i]? =some u∧∀ G w,DR G w d u
 |[],i,d,h=>by simp [placesD] at h
 |(a,b)::r,0,d,h=>by simp [placesD] at h;subst h;exact ⟨_,rfl,fun G w=>by simp [DR]⟩
 |(a,b)::r,1,d,h=>by simp [placesD] at h;subst h;exact ⟨_,rfl,fun G w=>by simp [DR]⟩
 |(a,b)::r,i+2,d,h=>by
  simp only [placesD,List.getElem?_cons_succ] at h
  simpa only [flV,List.getElem?_cons_succ] using places_to r i d h
theorem places_from:∀ (ps:List (Int×Int)) (i:Nat) (u:Value),(flV ps)[i]? =some u→∃ d,(placesD ps)[i]? =some d∧∀ G w v,DR G w d v→v=u
 |[],i,u,h=>by simp [flV] at h
 |(a,b)::r,0,u,h=>by simp [flV] at h;subst h;exact ⟨_,rfl,fun G w v hv=>by simpa [DR] using hv⟩
 |(a,b)::r,1,u,h=>by simp [flV] at h;subst h;exact ⟨_,rfl,fun G w v hv=>by simpa [DR] using hv⟩
 |(a,b)::r,i+2,u,h=>by
  simp only [flV,List.getElem?_cons_succ] at h
  simpa only [placesD,List.getElem?_cons_succ] using places_from r i u h
theorem placesD_length:∀ l:List (Int×Int),(placesD l).length=l.length * 2
 |[]=>rfl
 |q::l=>by simp only [placesD,List.length_cons,placesD_length l];omega
theorem bnd_places:∀ l:List (Int×Int),bndL ((placesD l).map .d)=0
 |[]=>rfl
 |(a,b)::r=>by simp only [placesD,List.map_cons,bndL,AVal.bnd,bnd_places r];rfl
theorem keys_of {G:Gh}{I:Inj}{N:Nat→Prop}{w:World}:∀ (es:List (Key×AVal)) (ks:List (Int×Int)) (arr:List MapEntry),keysOf es=some ks→ER G I N w es arr→arr.map (·.key)=ks.map pv
 |[],ks,arr,h,hE=>by
  simp [keysOf] at h
  simp [ER] at hE
  subst h hE
  rfl
 |(k,v)::r,ks,arr,h,hE=>by
  simp only [ER] at hE
  obtain ⟨e,es',rfl,h1,_,h3⟩:=hE
  unfold keysOf at h
  split at h
  ·rename_i heq;cases heq
  ·rename_i a b v' r' heq
   cases heq
   split at h
   ·rename_i l hl
    cases h
    rw [List.map_cons,keys_of _ l es' hl h3,h1]
    rfl
   ·cases h
  ·cases h
theorem sorted_prim {prom:FuncId→Bool}{srt:List (Int×Int)→Option (List (Int×Int))}(hs:∀ ks s,srt ks=some s→0<ks.length∧ks.length≤1000000∧s.length=ks.length∧∀ ps,ps.Perm ks →
   ∃ n,call A0 n 74 [.sref 0 2 0 ps.length,.func 138 [] []] [.cells ((placesD ps).map .d)] ⟨0,0,1,0⟩=some (.tuple [],[.cells ((placesD s).map .d)])):PrimOK Tryz.prog prom 107 (pSorted srt):=by
 refine ⟨by kernel_rfl,fun args H l v H1 hrun w G I N vargs hp _=> ?_⟩
 unfold pSorted at hrun
 split at hrun
 ·rename_i id
  split at hrun
  ·rename_i es hes
   split at hrun
   ·rename_i ks hks
    split at hrun
    ·rename_i s hsrt
     cases hrun
     obtain ⟨x,rfl,hv⟩:=args_one hp.args
     simp only [VR] at hv
     obtain ⟨hN,rfl⟩:=hv
     have hO:=hp.hr id _ hes
     simp only [OR] at hO
     obtain ⟨_,arr,clk,h1,_,hE,hB⟩:=hO
     obtain ⟨k0,k1,k2,k3⟩:=hs ks s hsrt
     have hk:=keys_of es ks arr.toList hks hE
     refine (sorted_walk (I id).1 arr clk ks s w h1 hB.old hB.nodup hk k1 ?_).mono ?_
     ·intro v ps W hown hperm
      obtain ⟨n,hc⟩:=k3 ps hperm
      obtain ⟨hl,hrow⟩:=hown
      rcases hrow with ⟨rfl,h0⟩|⟨g,cap,cur,rfl,hg,hh,hc1,hc2,hc3,hc4⟩
      ·have:=hperm.length_eq
       omega
      ·refine (row_calls A0_ok (cap:=cap) (z:=2) hh hc1 (by omega) (fun i x hx=> ?_) (bnd_places ps) hc).mono ?_
       ·rw [List.getElem?_map] at hx
        cases hd:(placesD ps)[i]? with
        |none=>rw [hd] at hx;cases hx
        |some d =>
         rw [hd] at hx
         cases hx
         obtain ⟨u,u1,u2⟩:=places_to ps i d hd
         have hi:i<ps.length * 2:=by
          rw [← placesD_length]
          exact lt_of_getElem? hd
         rw [← hc4,List.getElem?_take,if_pos hi] at u1
         exact ⟨u,by simpa using u1,by simp only [VR];exact u2 _ _⟩
       ·rintro e W' ⟨rfl,hgr,c',G',I',N',j1,j2,j3⟩
        refine ⟨rfl,⟨by rw [flV_length,k2,hperm.length_eq],Or.inr ⟨g,cap,c',rfl,hg,j1,hc1,hc2,by omega,?_⟩⟩,hgr⟩
        apply List.ext_getElem?
        intro i
        rw [List.getElem?_take]
        split
        ·rename_i hi
         have hi' :i<(flV s).length:=by rw [flV_length,k2,← hperm.length_eq];exact hi
         rw [List.getElem?_eq_getElem hi']
         obtain ⟨d,d1,d2⟩:=places_from s i _ (List.getElem?_eq_getElem hi')
         obtain ⟨v,v1,v2⟩:=j3 i (.d d) (by rw [List.getElem?_map,d1];rfl)
         simp only [VR] at v2
         rw [← d2 _ _ v v2]
         simpa using v1
        ·rename_i hi
         rw [List.getElem?_eq_none]
         rw [flV_length,k2,← hperm.length_eq]
         omega
     ·rintro e w' ⟨v,rfl,hown,hBl⟩
      rw [← k2] at hown
      obtain ⟨G',hG,hwf',hv'⟩:=own_row (I:=I) (N:=N) (cs:=placesD s) hown hBl hp.wf ⟨by rw [flV_length,placesD_length],fun j c hj=>by
       obtain ⟨u,u1,u2⟩:=places_to s j c hj
       exact ⟨u,u1,u2 _ _⟩⟩
      exact ⟨_,G',I,N,rfl,below_post hp hBl hG hwf' hv'⟩
    ·cases hrun
   ·cases hrun
  ·cases hrun
 ·cases hrun
theorem bump_eq (num:Nat):bump num=bumpI num:=rfl
theorem hsOf_eq (af:List (List Nat)):∀ pre:List (Nm af.length),hsOf af pre=(pre.map (·.1.2)).foldl (fun hs n=>(af[n]?.getD []).foldl (bumpI n) hs) (List.replicate af.length 0):=by
 intro pre
 unfold hsOf
 rw [List.foldl_map]
 rfl
theorem back_eq (n:Nat)(ord:List Nat)(hord:∀ a ∈ ord,a<n):(upto (bkN n ord hord) ord.length).map (·.1.2)=ord.reverse:=by
 apply List.ext_getElem?
 intro i
 rcases Nat.lt_or_ge i ord.length with hi|hi
 ·rw [List.getElem?_eq_getElem (by simp [upto];exact hi),List.getElem?_reverse hi]
  simp only [upto,List.map_map,List.getElem_map,List.getElem_range,Function.comp]
  unfold bkN
  rw [dif_pos hi,List.getElem?_eq_getElem (by omega)]
 ·rw [List.getElem?_eq_none (by simp [upto];exact hi),List.getElem?_eq_none (by simp;exact hi)]
theorem af_at (st:List PStep)(n:Nat):((st.map fun s=>s.af.map Int.toNat)[n]?.getD [])=(nth st n).af.map Int.toNat:=by
 unfold nth
 rw [List.getElem?_map]
 cases st[n]? <;>rfl
theorem heights_eq (st:List PStep)(o:List Int)(hord:∀ a ∈ o.map Int.toNat,a<(st.map fun s=>s.af.map Int.toNat).length) :
  hsOf (st.map fun s=>s.af.map Int.toNat) (upto (bkN (st.map fun s=>s.af.map Int.toNat).length (o.map Int.toNat) hord) (o.map Int.toNat).length)=heightsI st o:=by
 rw [hsOf_eq,back_eq,← List.map_reverse,List.foldl_map,heightsI,List.length_map]
 congr 1
 funext hs n
 rw [af_at,List.foldl_map]
 rfl
section
variable {G:Gh} {w:World} {I:Inj} {N:Nat→Prop} {H:Heap}
theorem imm_lt (hwf:WF G w){b o:Nat}(h:Imm G b o):b<w.heap.size:=lt_of_label hwf (by intro e;simp [Imm,e] at h)
theorem cell_lt {b o:Nat}{v:Value}(h:w.cell? ⟨b,o,none⟩=some v):b<w.heap.size:=by
 rcases Nat.lt_or_ge b w.heap.size with hb|hb
 ·exact hb
 ·simp [World.cell?,Array.getElem?_eq_none hb] at h
theorem ints_eq (l:List Int):ints l= .slice l.length (l.map num):=by
 simp only [ints,encL]
 congr 1
 induction l<;>simp_all
theorem nums_at (hwf:WF G w){l:List Int}{v:Value}(hl:∀ a ∈ l,0≤a)(h:DR G w (ints l) v):NumsAt w w.heap.size v (l.map Int.toNat):=by
 rw [ints_eq] at h
 simp only [DR] at h
 rcases h with ⟨h|⟨a,h⟩,h3,_⟩|⟨b,o,cap,h,hcap,hd⟩
 ·have:l=[]:=List.eq_nil_of_length_eq_zero h3
  subst this
  exact Or.inl ⟨rfl,_,_,h⟩
 ·have:l=[]:=List.eq_nil_of_length_eq_zero h3
  subst this
  exact Or.inl ⟨rfl,_,_,h⟩
 ·have hat:∀ j (hj:j<l.length),Imm G b (o+j)∧w.cell? ⟨b,o+j,none⟩=some (.int .i64 l[j]):=fun j hj=>by
   obtain ⟨k1,u,k2,k3⟩:=DRs.at o _ hd j (num l[j]) (by rw [List.getElem?_map,List.getElem?_eq_getElem hj];rfl)
   simp only [num,DR] at k3
   subst k3
   exact ⟨k1,k2⟩
  refine Or.inr ⟨b,o,cap,by rw [h,List.length_map],fun h0=>imm_lt hwf (hat 0 (by simpa using h0)).1,fun j hj=> ?_⟩
  have hj' :j<l.length:=by simpa using hj
  rw [(hat j hj').2,List.getElem?_map,List.getElem?_eq_getElem hj']
  have:=hl _ (List.getElem_mem hj')
  simp
  omega
theorem iOf_eq:∀ (cs:List Abs.Data) (l:List Int),iOf cs=some l→cs=l.map num
 |[],l,h=>by cases h;rfl
 |c::cs,l,h=>by
  unfold iOf at h
  split at h
  ·rename_i heq;cases heq
  ·rename_i n r heq
   cases heq
   split at h
   ·rename_i l' hl'
    cases h
    rw [iOf_eq _ _ hl']
    rfl
   ·cases h
  ·cases h
theorem stps_eq:∀ (cs:List Abs.Data) (st:List PStep),stpsOf cs=some st→cs=st.flatMap encPS
 |[],st,h=>by simp [stpsOf] at h;subst h;rfl
 |[_],st,h=>by simp [stpsOf] at h
 |[_,_],st,h=>by simp [stpsOf] at h
 |[_,_,_],st,h=>by simp [stpsOf] at h
 |[_,_,_,_],st,h=>by simp [stpsOf] at h
 |a::b::c::d::e::r,st,h=>by
  unfold stpsOf at h
  split at h
  ·rename_i heq;cases heq
  ·rename_i m k i n xs d' r' heq
   cases heq
   split at h
   ·rename_i hl
    split at h
    ·rename_i l hn
     split at h
     ·rename_i ls hls
      cases h
      rw [stps_eq _ _ hls]
      have h1:=iOf_eq _ _ hn
      have h2:Abs.Data.slice n xs=ints l:=by
       rw [ints_eq,h1,← hl,h1,List.length_map]
      rw [h2]
      rfl
     ·cases h
    ·cases h
   ·cases h
  ·cases h
theorem flat_len:∀ st:List PStep,(st.flatMap encPS).length=st.length * 5
 |[]=>rfl
 |s::r=>by
  simp only [List.flatMap_cons,List.length_append,flat_len r,List.length_cons,encPS,List.length_nil]
  omega
theorem flat_at (st:List PStep)(j:Nat)(hj:j<st.length):(st.flatMap encPS)[j * 5+3]? =some (ints (nth st j).af):=by
 have h1:=flatMap_drop (enc:=encPS) (sz:=5) (fun _=>rfl) st j hj
 rw [← nth_eq hj] at h1
 have h2:(st.flatMap encPS)[j * 5+3]? =((st.flatMap encPS).drop (j * 5))[3]? :=by rw [List.getElem?_drop]
 rw [h2,h1]
 rfl
end
theorem heights_prim {prom:FuncId→Bool}:PrimOK Tryz.prog prom 8 pHeights:=by
 refine ⟨by kernel_rfl,fun args H l v H1 hrun w G I N vargs hp _=> ?_⟩
 unfold pHeights at hrun
 split at hrun
 ·rename_i x y z
  split at hrun
  ·rename_i n cs hrow
   split at hrun
   ·rename_i st hst
    split at hrun
    ·rename_i hfew
     cases hrun
     have hcs:=stps_eq _ _ hst
     simp only [fewS,Bool.and_eq_true,List.all_eq_true] at hfew
     have hf1:Few1 ⟨x,y,st⟩:=⟨Nat.le_of_ble_eq_true hfew.1,fun i hi=>Nat.le_of_ble_eq_true (hfew.2 _ (nth_mem hi))⟩
     have hlen:=hf1.st
     simp only at hlen
     obtain ⟨NN,hcall⟩:=pf10 ⟨x,y,st⟩ hf1
     have hcall:=hcall NN (Nat.le_refl _)
     obtain ⟨u,rfl,hv⟩:=args_one hp.args
     simp only [VR] at hv
     obtain ⟨arr,rfl,hv⟩:=hv
     simp only [VRs] at hv
     obtain ⟨vs,_,e1,hvs,ss,_,rfl,hss,sv,_,rfl,hsv,rfl⟩:=hv
     have harr:arr= #[vs,ss,sv]:=by
      apply Array.ext'
      rw [e1]
     subst harr
     have himm:∀ W,Below w.heap.size w W→∀ b o,Imm G b o→Imm (G0 W) b o∧W.cell? (ad b o)=w.cell? (ad b o):=fun W hBW b o hi=>by
      have hb:=imm_lt hp.wf hi
      have hb' :b<W.heap.size:=Nat.lt_of_lt_of_le hb hBW.size
      exact ⟨by simp [Imm,G0,hb'],hBW.cell (p:=⟨b,o,none⟩) hb⟩
     have key:(∀ af,(∀ s ∈ st,∀ a ∈ s.af,0≤a)→af=(st.map fun s=>s.af.map Int.toNat)→StepsAt w w.heap.size sv af)∧∀ W,Below w.heap.size w W→DR (G0 W) W (stps st) sv:=by
      rcases rowOf_sound hp.hr hrow hsv with ⟨h0,rfl,hs0⟩|⟨b,off,c,news,rfl,hnc,hl,hc,hd⟩
      ·have:st=[]:=by
        cases st with
        |nil=>rfl
        |cons s r=>simp [encPS] at hcs
       subst this
       refine ⟨?_,fun W _=> ?_⟩
       ·rintro af _ rfl
        rcases hs0 with rfl|⟨a,rfl⟩<;>exact Or.inl ⟨rfl,_,_,rfl⟩
       ·simp only [stps,encL,DR]
        exact Or.inl ⟨hs0,rfl,rfl⟩
      ·have hn:n=st.length:=by
        have h1:=hd.1
        rw [hcs] at h1
        have h2:=flat_len st
        omega
       refine ⟨?_,fun W hBW=> ?_⟩
       ·rintro af hpos rfl
        refine Or.inr ⟨b,off,c,by rw [hn,List.length_map],fun h0=> ?_,fun j hj=> ?_⟩
        ·have h0' :0<st.length:=by simpa using h0
         have q1:=flat_at st 0 h0'
         rw [← hcs] at q1
         obtain ⟨u,q2,_⟩:=hd.2 _ _ q1
         exact cell_lt (hc _ u q2)
        ·have hj' :j<st.length:=by simpa using hj
         have q1:=flat_at st j hj'
         rw [← hcs] at q1
         obtain ⟨u,q4,q5⟩:=hd.2 _ _ q1
         refine ⟨u,?_,?_⟩
         ·rw [show off+j * 5+3=off+(j * 5+3) by omega]
          exact hc _ u q4
         ·rw [af_at]
          exact nums_at hp.wf (hpos _ (nth_mem hj')) q5
       ·simp only [stps,encL,DR]
        refine Or.inr ⟨b,off,c,by rw [hn],by omega,DRs.of off _ fun j d hj=> ?_⟩
        rw [← hcs] at hj
        obtain ⟨u,q1,q2⟩:=hd.2 j d hj
        have q3:=hc j u q1
        have hb:=cell_lt q3
        have hb' :b<W.heap.size:=Nat.lt_of_lt_of_le hb hBW.size
        exact ⟨by simp [Imm,G0,hb'],u,(hBW.cell (p:=⟨b,off+j,none⟩) hb).trans q3,DR.mono (himm W hBW) _ _ q2⟩
     have order:∀ W,Below w.heap.size w W→Calls Tryz.prog 10 #[.agg #[vs,ss,sv]] W fun e W' =>∃ ov,e= .returned (.tuple #[ov,.int .i64 (ordR st).1])∧Below W.heap.size W W' ∧∃ G',WF G' W' ∧DR G' W' (ints (ordR st).2) ov:=fun W hBW=>by
      have hvs' :VRs (G0 W) (fun _=>(0,0)) (fun _=>False) W [planD ⟨x,y,st⟩] [.agg #[vs,ss,sv]]:=by
       simp only [VRs,VR,planD] at hvs hss ⊢
       exact ⟨_,_,rfl,⟨_,rfl,vs,_,rfl,DR.mono (himm W hBW) _ _ hvs,ss,_,rfl,DR.mono (himm W hBW) _ _ hss,_,_,rfl,key.2 W hBW,rfl⟩,rfl⟩
      refine (data_calls A0_ok hcall hvs').mono ?_
      rintro e W' ⟨x',G',I',N',rfl,hB',hwf',hx⟩
      simp only [VR] at hx
      obtain ⟨cs',rfl,hx⟩:=hx
      simp only [VRs,VR] at hx
      obtain ⟨ov,_,e2,hov,y',_,rfl,hy,rfl⟩:=hx
      simp only [num,DR] at hy
      subst hy
      have hcs' :cs' = #[ov,.int .i64 (ordR st).1]:=by
       apply Array.ext'
       rw [e2]
      subst hcs'
      exact ⟨ov,rfl,hB',G',hwf',hov⟩
     by_cases h0:(ordR st).1=0
     ·have hO:=ordR_ok h0
      have hord:∀ a ∈ (ordR st).2.map Int.toNat,a<(st.map fun s=>s.af.map Int.toNat).length:=by
       intro a ha
       obtain ⟨i,hi,rfl⟩:=List.mem_map.1 ha
       have:=hO.mem i hi
       rw [List.length_map]
       omega
      have hpos:∀ s ∈ st,∀ a ∈ s.af,0≤a∧a<st.length:=by
       intro s hs a ha
       obtain ⟨i,hi,rfl⟩:=List.mem_iff_getElem.1 hs
       rw [← nth_eq hi] at ha
       exact hO.af i hi a ha
      have hol:=hO.len
      refine (heights_walk w vs ss sv _ ((ordR st).2.map Int.toNat) (key.1 _ (fun s hs a ha=>(hpos s hs a ha).1) rfl) (by rw [List.length_map];omega) (by rw [List.length_map];omega) hord ?_ fun W hBW=> ?_).mono ?_
      ·intro l hl
       obtain ⟨s,hs,rfl⟩:=List.mem_map.1 hl
       obtain ⟨i,hi,rfl⟩:=List.mem_iff_getElem.1 hs
       have h20:=hf1.af i hi
       simp only [nth_eq hi] at h20
       refine ⟨by rw [List.length_map];omega,fun a ha=> ?_⟩
       obtain ⟨b,hb,rfl⟩:=List.mem_map.1 ha
       have:=hpos _ hs b hb
       rw [List.length_map]
       omega
      ·refine (order W hBW).mono ?_
       rintro e W' ⟨ov,rfl,hB',G',hwf',hov⟩
       rw [h0]
       refine ⟨ov,rfl,hB',?_⟩
       have hback:((ordR st).2.map Int.toNat).map Int.ofNat=(ordR st).2:=by
        rw [List.map_map]
        refine (List.map_congr_left fun a ha=> ?_).trans (List.map_id _)
        have:=hO.mem a ha
        show ((a.toNat:Nat):Int)=a
        omega
       rw [hback]
       rw [ints_eq] at hov
       simp only [DR] at hov
       rcases hov with ⟨hov|⟨a,hov⟩,h3,_⟩|⟨b2,o2,cap2,rfl,_,hds⟩
       ·exact Or.inl ⟨⟨_,_,hov⟩,List.eq_nil_of_length_eq_zero h3⟩
       ·exact Or.inl ⟨⟨_,_,hov⟩,List.eq_nil_of_length_eq_zero h3⟩
       ·have hat:∀ j (hj:j<(ordR st).2.length),b2<W'.heap.size∧W'.cell? ⟨b2,o2+j,none⟩=some (.int .i64 (ordR st).2[j]):=fun j hj=>by
         obtain ⟨i1,u,i2,i3⟩:=DRs.at o2 _ hds j (num (ordR st).2[j]) (by rw [List.getElem?_map,List.getElem?_eq_getElem hj];rfl)
         simp only [num,DR] at i3
         subst i3
         exact ⟨imm_lt hwf' i1,i2⟩
        refine Or.inr ⟨b2,o2,cap2,rfl,fun hz=> ?_,fun j hj=> ?_⟩
        ·have:=(hat 0 hz).1
         exact ⟨this,by omega⟩
        ·rw [(hat j hj).2,List.getElem?_eq_getElem hj]
         rfl
      ·rintro e w' ⟨hb,rfl,hge,hh,hBl⟩
       rw [heights_eq] at hh
       have hlt:hb<w'.heap.size:=by
        rcases Nat.lt_or_ge hb w'.heap.size with h|h
        ·exact h
        ·rw [Array.getElem?_eq_none h] at hh;cases hh
       have hR:heightsR st=(0,heightsI st (ordR st).2):=by
        unfold heightsR
        rw [if_pos h0]
       have hlen2:(heightsI st (ordR st).2).length=st.length:=by
        rw [heightsI,bumpL_len,List.length_replicate]
       have hG:∀ b,b<w.heap.size→(upd G hb .imm) b=G b:=fun b hb' =>upd_other (by omega)
       refine ⟨_,upd G hb .imm,I,N,rfl,below_post hp hBl hG (fun b hb' => ?_) ?_⟩
       ·rw [upd_other (by omega)]
        exact hp.wf b (Nat.le_trans hBl.size hb')
       ·rw [hR]
        simp only [VR]
        refine ⟨_,rfl,?_⟩
        simp only [VRs,VR,ints_eq,num,DR]
        refine ⟨_,_,rfl,Or.inr ⟨hb,0,st.length,by rw [hlen2,List.length_map],by omega,DRs.of 0 _ fun j d hj=> ?_⟩,_,_,rfl,rfl,rfl⟩
        rw [List.getElem?_map] at hj
        cases hq:(heightsI st (ordR st).2)[j]? with
        |none=>rw [hq] at hj;cases hj
        |some q =>
         rw [hq] at hj
         cases hj
         refine ⟨by simp [Imm],.int .i64 q,?_,by simp only [num,DR]⟩
         simp only [World.cell?,hh,rowA]
         simp [hq]
     ·refine (heights_err w vs ss sv (ordR st).1 h0 fun W hBW=>(order W hBW).mono ?_).mono ?_
      ·rintro e W' ⟨ov,rfl,hB',_⟩
       exact ⟨ov,rfl,hB'⟩
      ·rintro e w' ⟨rfl,hBl⟩
       have hR:heightsR st=((ordR st).1,[]):=by
        unfold heightsR
        rw [if_neg h0]
       refine ⟨_,G,I,N,rfl,below_post hp hBl (fun _ _=>rfl) (fun b hb=>hp.wf b (Nat.le_trans hBl.size hb)) ?_⟩
       rw [hR]
       simp only [VR]
       refine ⟨_,rfl,?_⟩
       simp only [VRs,VR,ints,encL,num,DR]
       exact ⟨_,_,rfl,Or.inl ⟨Or.inl rfl,rfl,rfl⟩,_,_,rfl,rfl,rfl⟩
    ·cases hrun
   ·cases hrun
  ·cases hrun
 ·cases hrun
end Go.Proofs.YtjnkccpijofgiaaGreat
namespace Go.Proofs.YtjnkccpijofgiaaGreat
open Go.RowKit Go.Maps Go.Abs
theorem s0a:call A0 60 74 [.sref 0 2 0 2,.func 138 [] []] [.cells [.d (.int .i64 0),.d (.int .i64 0),.d (.int .i64 1),.d (.int .i64 0)]] ⟨0,0,1,0⟩=some (.tuple [],[.cells [.d (.int .i64 0),.d (.int .i64 0),.d (.int .i64 1),.d (.int .i64 0)]]):=by kernel_rfl
theorem s0b:call A0 60 74 [.sref 0 2 0 2,.func 138 [] []] [.cells [.d (.int .i64 1),.d (.int .i64 0),.d (.int .i64 0),.d (.int .i64 0)]] ⟨0,0,1,0⟩=some (.tuple [],[.cells [.d (.int .i64 0),.d (.int .i64 0),.d (.int .i64 1),.d (.int .i64 0)]]):=by kernel_rfl
theorem perm_two {α:Type}{a b:α}{l:List α}(h:l.Perm [a,b]):l=[a,b]∨l=[b,a]:=by
 have hl:=h.length_eq
 match l,hl with
 |[x,y],_ =>
  rcases List.mem_cons.1 (h.mem_iff.1 (List.mem_cons_self (a:=x))) with rfl|hx
  ·have:=List.perm_singleton.1 (List.Perm.cons_inv h)
   simp at this
   subst this
   exact Or.inl rfl
  ·simp at hx
   subst hx
   have:=List.perm_singleton.1 (List.Perm.cons_inv (h.trans (List.Perm.swap _ _ _)))
   simp at this
   subst this
   exact Or.inr rfl
theorem srt0_ok:∀ ks s,srt0 ks=some s→0<ks.length∧ks.length≤1000000∧s.length=ks.length∧∀ ps,ps.Perm ks →
   ∃ n,call A0 n 74 [.sref 0 2 0 ps.length,.func 138 [] []] [.cells ((placesD ps).map .d)] ⟨0,0,1,0⟩=some (.tuple [],[.cells ((placesD s).map .d)]):=by
 intro ks s h
 unfold srt0 at h
 split at h
 ·rename_i hk
  cases h
  have key:∀ ps,ps=[((0:Int),(0:Int)),(1,0)]∨ps=[(1,0),(0,0)]→∃ n,call A0 n 74 [.sref 0 2 0 ps.length,.func 138 [] []] [.cells ((placesD ps).map .d)] ⟨0,0,1,0⟩=some (.tuple [],[.cells ((placesD [(0,0),(1,0)]).map .d)]):=by
   rintro ps (rfl|rfl)
   ·exact ⟨60,s0a⟩
   ·exact ⟨60,s0b⟩
  rcases hk with rfl|rfl
  ·exact ⟨by simp,by simp,rfl,fun ps hp=>key ps (perm_two hp)⟩
  ·exact ⟨by simp,by simp,rfl,fun ps hp=>key ps ((perm_two hp).symm)⟩
 ·cases h
theorem prims (f:FuncId)(p:List AVal→Heap→Lim→Option (AVal×Heap))(prom:FuncId→Bool)(h:A.prim f=some p):PrimOK Tryz.prog prom f p:=by
 simp only [A] at h
 split at h
 ·rename_i e;cases h;subst e
  exact growN_prim (by kernel_rfl) (fun n w h0 hn=>grow209 n w h0 hn)
 split at h
 ·rename_i e;cases h;subst e
  exact growN_prim (by kernel_rfl) (fun n w h0 hn=>by simpa using grow215 n w h0 hn)
 split at h
 ·rename_i e;cases h;subst e
  exact clone_prim (by kernel_rfl) clone40 clone40_nil
 split at h
 ·rename_i e;cases h;subst e
  exact clone_prim (by kernel_rfl) clone41 clone41_nil
 split at h
 ·rename_i e;cases h;subst e
  exact clone_prim (by kernel_rfl) clone100 clone100_nil
 split at h
 ·rename_i e;cases h;subst e
  exact sorted_prim srt0_ok
 split at h
 ·rename_i e;cases h;subst e
  exact heights_prim
 ·cases h
theorem A_sound:ProgOK Tryz.prog A:=A_ok fun f p h=>prims f p _ h
end Go.Proofs.YtjnkccpijofgiaaGreat

/- 'ImpactStores': WHATEVER THE INPUT: true; the input reads as it did. No conditions. -/
import Derived.Test.YtibjocmpkoepoaaGreatRows
import Derived.Test.YtibjocmpkoepoaaGreatN6
import Derived.Test.YtibjocmpkoepoaaGreatN3
import Derived.Test.YtibjocmpkoepoaaGreatY0
set_option linter.all false
open Nat renaming le_refl→k9
open List renaming length→O
open Option renaming some→J,none→K
open Bool renaming true→W,false→F
namespace Go.Proofs.YtibjocmpkoepoaaGreat
namespace Bi
open Go.ChangeShapes Go.WideShapes Go.ChangeAt Go.RowKit
theorem own:ownKnob Tryz.prog.godebug=K:=by kernel_rfl
open Go.z6 in
theorem walk (xs:List c7)(h:mH Tryz.prog Tryz.f9.params.toList [[.slice [Pp]],[.slice [Pp,Pp]]] xs)(hz:Szd Tryz.prog Tryz.f9.params.toList xs):∃n,call A n 9 xs [] N9=J (.d (.bool W),[]):=by
 rw [show Tryz.f9.params.toList=[22,49] by kernel_rfl] at h hz;simp only [mH] at h;obtain ⟨ds,r,rfl,h1,ds2,r2,rfl,h2,rfl⟩:=h;simp only [List.tail_cons,List.headD_cons,V3] at h1 h2;obtain ⟨d,r,rfl,h4,rfl⟩:=h1;obtain ⟨l,rfl, -, -⟩:=vW (enc:=λn=>[Z n]) (ok:=λ_=>True) (λr h=>by
  simp only [V3] at h;obtain ⟨d,_,rfl,h5,rfl⟩:=h;obtain ⟨m,rfl,_⟩:=vV h5;exact ⟨m,rfl,trivial⟩) h4
 obtain ⟨d,r,rfl,h5,rfl⟩:=h2;obtain ⟨vv,rfl, -, -⟩:=vW (enc:=E8) (ok:=λ_=>True) (λr h=>by
  obtain ⟨p,rfl,_⟩:=NN h;exact ⟨p,rfl,trivial⟩) h5
 have h0:=hz 0 22 3 (O l) (l.flatMap λn=>[Z n]) rfl (by kernel_rfl) (by rw [show isStr Tryz.prog 22=F by kernel_rfl];rfl);rw [show Tryz.prog.bytesOf 3=8 by kernel_rfl] at h0;have hx:O l<=17592186043904:=by unfold reachBytes at h0;omega
 rw [show isStr Tryz.prog 22=F by kernel_rfl,show isStr Tryz.prog 49=F by kernel_rfl];have e:ints l=x3 (λn=>[Z n]) l:=by simp [ints,x3,List.flatMap_singleton']
 have e2:asArg F [z6.Data.slice (O l) (l.flatMap λn=>[Z n])]= .d (ints l):=by rw [e];rfl
 obtain ⟨N,hN⟩:=lf9 aA6 hx vv;have:=hN N (k9 _);rw [<- e2] at this;exact ⟨N,this⟩
set_option maxRecDepth 100000 in
theorem lifted (os:Os)(started:os.Started)(H:Type)(enc:TypeId×Value->H) :
  ReturnsInHanded {} Tryz.checked os 9 .any (Rows.impactStoresSpec.pre6 enc Tryz.prog Tryz.f9 Rows.impactStoresRow.domain F) (Rows.impactStoresSpec.post enc Tryz.prog Tryz.f9 F W F F):=by
 refine returnsInHanded_of_change_sized (C:=Tryz.checked) own started (by kernel_rfl) Tryz.func9
  (ChangeSpec.witness6 (enc:=enc) (C:=Tryz.checked) F ⟨#[],#[.slice K 0 0,.slice K 0 0],[]⟩ 8 (by kernel_rfl) (by kernel_rfl) (by kernel_rfl) (by kernel_rfl)) ?_
 intro d6 base args ds gs before Xh hW aX5 hsz _;have hl:DataW.Whole enc Tryz.prog Tryz.f9.params.toList Rows.impactStoresSpec.vars F d6 args.toList ds gs before:=hW;have hlen:∃d1 d2,ds=[d1,d2]:=by
  obtain ⟨p,q,hA0,_⟩:=hl;rw [show Tryz.f9.params.toList=[22,49] by kernel_rfl] at hA0;obtain ⟨v0,vs0,d0,ds0,p0,q0,_,rfl,rfl,h0,r0⟩:=trodAll_cons hA0;obtain ⟨v1,vs1,d1,ds1,p1,q1,_,rfl,rfl,h1,r1⟩:=trodAll_cons r0;obtain ⟨_,rfl,_⟩:=trodAll_nil r1;exact ⟨_,_,rfl⟩
 obtain ⟨d1,d2,rfl⟩:=hlen;exact z6.yJ (ls:=[[.slice [z6.Pp]],[.slice [z6.Pp,z6.Pp]]]) SK rfl (by kernel_rfl) Tryz.underlying4 (by kernel_rfl) rfl Xh hW hsz walk
theorem fa0:(Rows.impactStoresRow.inPlace==Tryz.pinned.checked.prog.inPlace 9)=W:=by kernel_rfl
theorem fa1:(Rows.impactStoresRow.unfollowed==Tryz.pinned.checked.prog.unfollowed 9)=W:=by kernel_rfl
theorem fa2:(Rows.impactStoresRow.recurses==Tryz.pinned.checked.prog.recurses 9)=W:=by kernel_rfl
theorem fa3:(Rows.impactStoresRow.named==Tryz.pinned.checked.prog.varsNamed 9)=W:=by kernel_rfl
theorem fa4:laidOutB Tryz.pinned.checked.prog=W:=by kernel_rfl
theorem fa5:mapsRowed Tryz.pinned.checked.prog=W:=by kernel_rfl
theorem fa6:Tryz.pinned.checked.prog.stopsHeard=W:=by kernel_rfl
theorem fa7:(Rows.impactStoresRow.plainKeys==Tryz.pinned.checked.prog.plainKeys)=W:=by kernel_rfl
theorem fa8:(Rows.impactStoresRow.lifted==Tryz.pinned.checked.prog.liftsFinal)=W:=by kernel_rfl
theorem fa9:Tryz.pinned.checked.prog.mayEnter=W:=by kernel_rfl
theorem facts:joinedFacts Tryz.pinned.checked.prog 9 Tryz.f9 Rows.impactStoresSpec Rows.impactStoresRow=W:=by
 unfold joinedFacts;rw [fa0,fa1,fa2,fa3,fa4,fa5,fa6,fa7,fa8,fa9]
 kernel_rfl
theorem named:Tryz.pinned.checked.prog.funcNamed Rows.impactStoresRow.func=J 9:=by kernel_rfl
theorem inst:Tryz.f9.isInstance Tryz.pinned.checked.prog Rows.impactStoresRow.origin Rows.impactStoresRow.targs:=of_decide_eq_true (by kernel_rfl)
theorem wrap:Tryz.f9.isWrapper Tryz.pinned.checked.prog Rows.impactStoresRow.wrapper Rows.impactStoresRow.mainSum:=by
 unfold Func.isWrapper
 first|(rw [if_pos (by decide +kernel)];kernel_rfl)|(rw [if_neg (by decide +kernel)];exact ⟨rfl,rfl⟩)
def au7:Rows.impactStoresRow.holds Tryz.pinned (OpenSpec.ofChange Rows.impactStoresSpec) :=
 OpenClaim.holds_of_wide 9 Tryz.f9 rfl rfl rfl rfl rfl rfl rfl ⟨rfl,rfl,rfl,rfl,rfl⟩ rfl rfl rfl rfl rfl named Tryz.func9 facts inst wrap
  (λos started H enc _=>lifted os started H enc)
theorem proved:Rows.ImpactStoresSaid :=
 au7
end Bi
end Go.Proofs.YtibjocmpkoepoaaGreat


/- 'ImpactGrows': WHATEVER THE INPUT: true; the input reads as it did. No conditions. -/
import Derived.Test.YtibjocmpkoepoaaGreatRows
import Derived.Test.YtibjocmpkoepoaaGreatN4
import Derived.Test.YtibjocmpkoepoaaGreatN3
import Derived.Test.YtibjocmpkoepoaaGreatY0
set_option linter.all false
open Nat renaming le_refl→k9
open List renaming length→O
open Option renaming some→J,none→K
open Bool renaming true→W,false→F
namespace Go.Proofs.YtibjocmpkoepoaaGreat
namespace Jz
open Go.ChangeShapes Go.WideShapes Go.ChangeAt Go.RowKit
theorem own:ownKnob Tryz.prog.godebug=K:=by kernel_rfl
open Go.A5 in
theorem walk (xs:List c7)(h:qK Tryz.prog Tryz.f7.params.toList [[.slice [RJ]],[.slice [RJ,RJ]],[.slice [RJ,RJ]]] xs)(hz:Szd Tryz.prog Tryz.f7.params.toList xs):∃n,call A n 7 xs [] R5=J (.d (.bool W),[]):=by
 rw [show Tryz.f7.params.toList=[22,49,49] by kernel_rfl] at h hz;simp only [qK] at h;obtain ⟨ds,r,rfl,h1,ds2,r2,rfl,h2,ds3,r3,rfl,h3,rfl⟩:=h;simp only [List.tail_cons,List.headD_cons,aF] at h1 h2 h3;obtain ⟨d,r,rfl,h4,rfl⟩:=h1;obtain ⟨l,rfl, -, -⟩:=sZ (enc:=λn=>[Z n]) (ok:=λ_=>True) (λr h=>by
  simp only [aF] at h;obtain ⟨d,_,rfl,h5,rfl⟩:=h;obtain ⟨m,rfl,_⟩:=Bc h5;exact ⟨m,rfl,trivial⟩) h4
 obtain ⟨d,r,rfl,h5,rfl⟩:=h2;obtain ⟨vv,rfl, -, -⟩:=sZ (enc:=V5) (ok:=λ_=>True) (λr h=>by
  obtain ⟨p,rfl,_⟩:=Ko h;exact ⟨p,rfl,trivial⟩) h5
 obtain ⟨d,r,rfl,h6,rfl⟩:=h3;obtain ⟨gg,rfl, -, -⟩:=sZ (enc:=V5) (ok:=λ_=>True) (λr h=>by
  obtain ⟨p,rfl,_⟩:=Ko h;exact ⟨p,rfl,trivial⟩) h6
 have h0:=hz 0 22 3 (O l) (l.flatMap λn=>[Z n]) rfl (by kernel_rfl) (by rw [show isStr Tryz.prog 22=F by kernel_rfl];rfl);rw [show Tryz.prog.bytesOf 3=8 by kernel_rfl] at h0;have hx:O l<=17592186043904:=by unfold reachBytes at h0;omega
 rw [show isStr Tryz.prog 22=F by kernel_rfl,show isStr Tryz.prog 49=F by kernel_rfl];have e:ints l=y6 (λn=>[Z n]) l:=by simp [ints,y6,List.flatMap_singleton']
 have e2:asArg F [A5.Data.slice (O l) (l.flatMap λn=>[Z n])]= .d (ints l):=by rw [e];rfl
 obtain ⟨N,hN⟩:=lf7 bu6 hx vv gg;have:=hN N (k9 _);rw [<- e2] at this;exact ⟨N,this⟩
set_option maxRecDepth 100000 in
theorem lifted (os:Os)(started:os.Started)(H:Type)(enc:TypeId×Value->H) :
  ReturnsInHanded {} Tryz.checked os 7 .any (Rows.impactGrowsSpec.pre6 enc Tryz.prog Tryz.f7 Rows.impactGrowsRow.domain F) (Rows.impactGrowsSpec.post enc Tryz.prog Tryz.f7 F W F F):=by
 refine returnsInHanded_of_change_sized (C:=Tryz.checked) own started (by kernel_rfl) Tryz.func7
  (ChangeSpec.witness6 (enc:=enc) (C:=Tryz.checked) F ⟨#[],#[.slice K 0 0,.slice K 0 0,.slice K 0 0],[]⟩ 8 (by kernel_rfl) (by kernel_rfl) (by kernel_rfl) (by kernel_rfl)) ?_
 intro d5 base args ds gs before aF5 hW bR1 hsz _;have hl:DataW.Whole enc Tryz.prog Tryz.f7.params.toList Rows.impactGrowsSpec.vars F d5 args.toList ds gs before:=hW;have hlen:∃d1 d2 d3,ds=[d1,d2,d3]:=by
  obtain ⟨p,q,hA0,_⟩:=hl;rw [show Tryz.f7.params.toList=[22,49,49] by kernel_rfl] at hA0;obtain ⟨v0,vs0,d0,ds0,p0,q0,_,rfl,rfl,h0,r0⟩:=trodAll_cons hA0;obtain ⟨v1,vs1,d1,ds1,p1,q1,_,rfl,rfl,h1,r1⟩:=trodAll_cons r0;obtain ⟨v2,vs2,d2,ds2,p2,q2,_,rfl,rfl,h2,r2⟩:=trodAll_cons r1;obtain ⟨_,rfl,_⟩:=trodAll_nil r2;exact ⟨_,_,_,rfl⟩
 obtain ⟨d1,d2,d3,rfl⟩:=hlen;exact A5.DD (ls:=[[.slice [A5.RJ]],[.slice [A5.RJ,A5.RJ]],[.slice [A5.RJ,A5.RJ]]]) aj0 rfl (by kernel_rfl) Tryz.underlying4 (by kernel_rfl) rfl aF5 hW hsz walk
theorem fa0:(Rows.impactGrowsRow.inPlace==Tryz.pinned.checked.prog.inPlace 7)=W:=by kernel_rfl
theorem fa1:(Rows.impactGrowsRow.unfollowed==Tryz.pinned.checked.prog.unfollowed 7)=W:=by kernel_rfl
theorem fa2:(Rows.impactGrowsRow.recurses==Tryz.pinned.checked.prog.recurses 7)=W:=by kernel_rfl
theorem fa3:(Rows.impactGrowsRow.named==Tryz.pinned.checked.prog.varsNamed 7)=W:=by kernel_rfl
theorem fa4:laidOutB Tryz.pinned.checked.prog=W:=by kernel_rfl
theorem fa5:mapsRowed Tryz.pinned.checked.prog=W:=by kernel_rfl
theorem fa6:Tryz.pinned.checked.prog.stopsHeard=W:=by kernel_rfl
theorem fa7:(Rows.impactGrowsRow.plainKeys==Tryz.pinned.checked.prog.plainKeys)=W:=by kernel_rfl
theorem fa8:(Rows.impactGrowsRow.lifted==Tryz.pinned.checked.prog.liftsFinal)=W:=by kernel_rfl
theorem fa9:Tryz.pinned.checked.prog.mayEnter=W:=by kernel_rfl
theorem facts:joinedFacts Tryz.pinned.checked.prog 7 Tryz.f7 Rows.impactGrowsSpec Rows.impactGrowsRow=W:=by
 unfold joinedFacts;rw [fa0,fa1,fa2,fa3,fa4,fa5,fa6,fa7,fa8,fa9]
 kernel_rfl
theorem named:Tryz.pinned.checked.prog.funcNamed Rows.impactGrowsRow.func=J 7:=by kernel_rfl
theorem inst:Tryz.f7.isInstance Tryz.pinned.checked.prog Rows.impactGrowsRow.origin Rows.impactGrowsRow.targs:=of_decide_eq_true (by kernel_rfl)
theorem wrap:Tryz.f7.isWrapper Tryz.pinned.checked.prog Rows.impactGrowsRow.wrapper Rows.impactGrowsRow.mainSum:=by
 unfold Func.isWrapper
 first|(rw [if_pos (by decide +kernel)];kernel_rfl)|(rw [if_neg (by decide +kernel)];exact ⟨rfl,rfl⟩)
def bo7:Rows.impactGrowsRow.holds Tryz.pinned (OpenSpec.ofChange Rows.impactGrowsSpec) :=
 OpenClaim.holds_of_wide 7 Tryz.f7 rfl rfl rfl rfl rfl rfl rfl ⟨rfl,rfl,rfl,rfl,rfl⟩ rfl rfl rfl rfl rfl named Tryz.func7 facts inst wrap
  (λos started H enc _=>lifted os started H enc)
theorem proved:Rows.ImpactGrowsSaid :=
 bo7
end Jz
end Go.Proofs.YtibjocmpkoepoaaGreat


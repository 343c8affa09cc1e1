/- 'ImpactOthers': WHATEVER THE INPUT: true; the input reads as it did. No conditions. -/
import Derived.Test.YtibjocmpkoepoaaGreatRows
import Derived.Test.YtibjocmpkoepoaaGreatUN5
import Derived.Test.YtibjocmpkoepoaaGreatUN3
import Derived.Test.YtibjocmpkoepoaaGreatUY0
set_option linter.all false
open Nat renaming le_refl→j9
open List renaming length→O
open Option renaming some→J,none→K
open Bool renaming true→W,false→F
namespace Go.Proofs.YtibjocmpkoepoaaGreat
namespace As
open Go.ChangeShapes Go.WideShapes Go.ChangeAt Go.RowKit
theorem own:ownKnob Tryz.prog.godebug=K:=by kernel_rfl
open Go.y9 in
theorem walk (xs:List c7)(h:lB Tryz.prog Tryz.f11.params.toList [[.slice [UM]],[.slice [UM]]] xs)(hz:YD Tryz.prog Tryz.f11.params.toList xs):∃n,call A n 11 xs [] N6=J (.d (.bool W),[]):=by
 rw [show Tryz.f11.params.toList=[22,22] by kernel_rfl] at h hz;simp only [lB] at h;obtain ⟨ds,r,rfl,h1,ds2,r2,rfl,h2,rfl⟩:=h;simp only [List.tail_cons,List.headD_cons,U3] at h1 h2;obtain ⟨d,r,rfl,h4,rfl⟩:=h1;obtain ⟨l,rfl, -, -⟩:=uW (enc:=λn=>[Z n]) (ok:=λ_=>True) (λr h=>by
  simp only [U3] at h;obtain ⟨d,_,rfl,h5,rfl⟩:=h;obtain ⟨m,rfl,_⟩:=Ce h5;exact ⟨m,rfl,trivial⟩) h4
 obtain ⟨d,r,rfl,h5,rfl⟩:=h2;obtain ⟨pp,rfl, -, -⟩:=uW (enc:=λn=>[Z n]) (ok:=λ_=>True) (λr h=>by
  simp only [U3] at h;obtain ⟨d,_,rfl,h6,rfl⟩:=h;obtain ⟨m,rfl,_⟩:=Ce h6;exact ⟨m,rfl,trivial⟩) h5
 have h0:=hz 0 22 3 (O l) (l.flatMap λn=>[Z n]) rfl (by kernel_rfl) (by rw [show isStr Tryz.prog 22=F by kernel_rfl];rfl);rw [show Tryz.prog.bytesOf 3=8 by kernel_rfl] at h0;have hx:O l<=17592186043904:=by unfold reachBytes at h0;omega
 rw [show isStr Tryz.prog 22=F by kernel_rfl];have e:ints l=s7 (λn=>[Z n]) l:=by simp [ints,s7,List.flatMap_singleton']
 have e2:asArg F [y9.Data.slice (O l) (l.flatMap λn=>[Z n])]= .d (ints l):=by rw [e];rfl
 have e3:asArg F [y9.Data.slice (O pp) (pp.flatMap λn=>[Z n])]= .d (ints pp):=by
  rw [show ints pp=s7 (λn=>[Z n]) pp by simp [ints,s7,List.flatMap_singleton']];rfl
 obtain ⟨N,hN⟩:=al5 at4 hx pp;have:=hN N (j9 _);rw [<- e2,<- e3] at this;exact ⟨N,this⟩
set_option maxRecDepth 100000 in
theorem lifted (os:Os)(started:os.Started)(H:Type)(enc:TypeId×Value->H) :
  ReturnsInHanded {} Tryz.checked os 11 .any (Rows.impactOthersSpec.pre6 enc Tryz.prog Tryz.f11 Rows.impactOthersRow.domain F) (Rows.impactOthersSpec.post enc Tryz.prog Tryz.f11 F W F F):=by
 refine returnsInHanded_of_change_sized (C:=Tryz.checked) own started (by kernel_rfl) Tryz.func11
  (ChangeSpec.witness6 (enc:=enc) (C:=Tryz.checked) F ⟨#[],#[.slice K 0 0,.slice K 0 0],[]⟩ 8 (by kernel_rfl) (by kernel_rfl) (by kernel_rfl) (by kernel_rfl)) ?_
 intro d6 base args ds gs before VN hW aQ1 hsz _;have hl:DataW.Whole enc Tryz.prog Tryz.f11.params.toList Rows.impactOthersSpec.vars F d6 args.toList ds gs before:=hW;have hlen:∃d1 d2,ds=[d1,d2]:=by
  obtain ⟨p,q,hA0,_⟩:=hl;rw [show Tryz.f11.params.toList=[22,22] by kernel_rfl] at hA0;obtain ⟨v0,vs0,d0,ds0,p0,q0,_,rfl,rfl,h0,r0⟩:=trodAll_cons hA0;obtain ⟨v1,vs1,d1,ds1,p1,q1,_,rfl,rfl,h1,r1⟩:=trodAll_cons r0;obtain ⟨_,rfl,_⟩:=trodAll_nil r1;exact ⟨_,_,rfl⟩
 obtain ⟨d1,d2,rfl⟩:=hlen;exact y9.xE (ls:=[[.slice [y9.UM]],[.slice [y9.UM]]]) Rj rfl (by kernel_rfl) Tryz.underlying4 (by kernel_rfl) rfl VN hW hsz walk
theorem fa0:(Rows.impactOthersRow.inPlace==Tryz.pinned.checked.prog.inPlace 11)=W:=by kernel_rfl
theorem fa1:(Rows.impactOthersRow.unfollowed==Tryz.pinned.checked.prog.unfollowed 11)=W:=by kernel_rfl
theorem fa2:(Rows.impactOthersRow.recurses==Tryz.pinned.checked.prog.recurses 11)=W:=by kernel_rfl
theorem fa3:(Rows.impactOthersRow.named==Tryz.pinned.checked.prog.varsNamed 11)=W:=by kernel_rfl
theorem fa4:laidOutB Tryz.pinned.checked.prog=W:=by kernel_rfl
theorem fa5:mapsRowed Tryz.pinned.checked.prog=W:=by kernel_rfl
theorem fa6:Tryz.pinned.checked.prog.stopsHeard=W:=by kernel_rfl
theorem fa7:(Rows.impactOthersRow.plainKeys==Tryz.pinned.checked.prog.plainKeys)=W:=by kernel_rfl
theorem fa8:(Rows.impactOthersRow.lifted==Tryz.pinned.checked.prog.liftsFinal)=W:=by kernel_rfl
theorem fa9:Tryz.pinned.checked.prog.mayEnter=W:=by kernel_rfl
theorem facts:joinedFacts Tryz.pinned.checked.prog 11 Tryz.f11 Rows.impactOthersSpec Rows.impactOthersRow=W:=by
 unfold joinedFacts;rw [fa0,fa1,fa2,fa3,fa4,fa5,fa6,fa7,fa8,fa9]
 kernel_rfl
theorem named:Tryz.pinned.checked.prog.funcNamed Rows.impactOthersRow.func=J 11:=by kernel_rfl
theorem inst:Tryz.f11.isInstance Tryz.pinned.checked.prog Rows.impactOthersRow.origin Rows.impactOthersRow.targs:=of_decide_eq_true (by kernel_rfl)
theorem wrap:Tryz.f11.isWrapper Tryz.pinned.checked.prog Rows.impactOthersRow.wrapper Rows.impactOthersRow.mainSum:=by
 unfold Func.isWrapper
 first|(rw [if_pos (by decide +kernel)];kernel_rfl)|(rw [if_neg (by decide +kernel)];exact ⟨rfl,rfl⟩)
def an0:Rows.impactOthersRow.holds Tryz.pinned (OpenSpec.ofChange Rows.impactOthersSpec) :=
 OpenClaim.holds_of_wide 11 Tryz.f11 rfl rfl rfl rfl rfl rfl rfl ⟨rfl,rfl,rfl,rfl,rfl⟩ rfl rfl rfl rfl rfl named Tryz.func11 facts inst wrap
  (λos started H enc _=>lifted os started H enc)
theorem proved:Rows.ImpactOthersSaid :=
 an0
end As
end Go.Proofs.YtibjocmpkoepoaaGreat


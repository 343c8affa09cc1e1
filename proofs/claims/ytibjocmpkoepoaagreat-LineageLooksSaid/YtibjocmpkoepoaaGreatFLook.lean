/- The law LineageLooks returns true for every list of numbers and every list of places: the program and the reference find the same sources, the same reached places and the same stores, in every catalogue that is built from the list and in what is left of it when one field is spoilt. No condition. -/
import Derived.Test.YtibjocmpkoepoaaGreatRows
import Derived.Test.YtibjocmpkoepoaaGreatT5
import Derived.Test.YtibjocmpkoepoaaGreatY0
set_option linter.all false
open Nat renaming le_refl→l6
open List renaming length→O
open Option renaming some→J,none→K
open Bool renaming true→W,false→F
namespace Go.Proofs.YtibjocmpkoepoaaGreat
namespace JP
open Go.ChangeShapes Go.WideShapes Go.ChangeAt Go.RowKit
theorem own:ownKnob Tryz.prog.godebug=K:=by kernel_rfl
open Go.A1 in
theorem walk (xs:List c8)(h:sR Tryz.prog Tryz.f8.params.toList [[.slice [ctI]],[.slice [ctI,ctI]]] xs)(hz:Szd Tryz.prog Tryz.f8.params.toList xs):∃n,call A n 8 xs [] W8=J (.d (.bool W),[]):=by
 rw [show Tryz.f8.params.toList=[22,49] by kernel_rfl] at h hz;simp only [sR] at h;obtain ⟨ds,r,rfl,h1,ds2,r2,rfl,h2,rfl⟩:=h;simp only [List.tail_cons,List.headD_cons,aF] at h1 h2;obtain ⟨d,r,rfl,h4,rfl⟩:=h1;obtain ⟨l,rfl, -, -⟩:=Dk (enc:=λn=>[Z n]) (ok:=λ_=>True) (λr h=>by
  simp only [aF] at h;obtain ⟨d,_,rfl,h5,rfl⟩:=h;obtain ⟨m,rfl,_⟩:=Dj h5;exact ⟨m,rfl,trivial⟩) h4
 obtain ⟨d,r,rfl,h5,rfl⟩:=h2;obtain ⟨p,rfl, -, -⟩:=Dk (enc:=S7) (ok:=λ_=>True) (λr h=>by
  obtain ⟨p,rfl,_⟩:=ag2 h;exact ⟨p,rfl,trivial⟩) h5
 have h0:=hz 0 22 3 (O l) (l.flatMap λn=>[Z n]) rfl (by kernel_rfl) (by rw [show isStr Tryz.prog 22=F by kernel_rfl];rfl);rw [show Tryz.prog.bytesOf 3=8 by kernel_rfl] at h0;have hx:O l<=17592186043904:=by unfold reachBytes at h0;omega
 rw [show isStr Tryz.prog 22=F by kernel_rfl,show isStr Tryz.prog 49=F by kernel_rfl];have e:ints l=C6 (λn=>[Z n]) l:=by simp [ints,C6,List.flatMap_singleton']
 have e2:asArg F [A1.Data.slice (O l) (l.flatMap λn=>[Z n])]= .d (ints l):=by rw [e];rfl
 obtain ⟨N,hN⟩:=lf8 hx p;have:=hN N (l6 _);rw [<- e2] at this;exact ⟨N,this⟩
set_option maxRecDepth 100000 in
theorem lifted (os:Os)(started:os.Started)(H:Type)(enc:TypeId×Value->H) :
  ReturnsInHanded {} Tryz.checked os 8 .any (Rows.lineageLooksSpec.pre6 enc Tryz.prog Tryz.f8 Rows.lineageLooksRow.domain F) (Rows.lineageLooksSpec.post enc Tryz.prog Tryz.f8 F W F F):=by
 refine returnsInHanded_of_change_sized (C:=Tryz.checked) own started (by kernel_rfl) Tryz.func8
  (ChangeSpec.witness6 (enc:=enc) (C:=Tryz.checked) F ⟨#[],#[.slice K 0 0,.slice K 0 0],[]⟩ 8 (by kernel_rfl) (by kernel_rfl) (by kernel_rfl) (by kernel_rfl)) ?_
 intro f9 base args ds gs before bp4 hW cD9 hsz _;have hl:DataW.Whole enc Tryz.prog Tryz.f8.params.toList Rows.lineageLooksSpec.vars F f9 args.toList ds gs before:=hW;have hlen:∃d1 d2,ds=[d1,d2]:=by
  obtain ⟨p,q,hA0,_⟩:=hl;rw [show Tryz.f8.params.toList=[22,49] by kernel_rfl] at hA0;obtain ⟨v0,vs0,d0,ds0,p0,q0,_,rfl,rfl,h0,r0⟩:=trodAll_cons hA0;obtain ⟨v1,vs1,d1,ds1,p1,q1,_,rfl,rfl,h1,r1⟩:=trodAll_cons r0;obtain ⟨_,rfl,_⟩:=trodAll_nil r1;exact ⟨_,_,rfl⟩
 obtain ⟨d1,d2,rfl⟩:=hlen;exact A1.Gm (ls:=[[.slice [A1.ctI]],[.slice [A1.ctI,A1.ctI]]]) aQ8 rfl (by kernel_rfl) Tryz.underlying4 (by kernel_rfl) rfl bp4 hW hsz walk
theorem fa0:(Rows.lineageLooksRow.inPlace==Tryz.pinned.checked.prog.inPlace 8)=W:=by kernel_rfl
theorem fa1:(Rows.lineageLooksRow.unfollowed==Tryz.pinned.checked.prog.unfollowed 8)=W:=by kernel_rfl
theorem fa2:(Rows.lineageLooksRow.recurses==Tryz.pinned.checked.prog.recurses 8)=W:=by kernel_rfl
theorem fa3:(Rows.lineageLooksRow.named==Tryz.pinned.checked.prog.varsNamed 8)=W:=by kernel_rfl
theorem fa4:laidOutB Tryz.pinned.checked.prog=W:=by kernel_rfl
theorem fa5:mapsRowed Tryz.pinned.checked.prog=W:=by kernel_rfl
theorem fa6:Tryz.pinned.checked.prog.stopsHeard=W:=by kernel_rfl
theorem fa7:(Rows.lineageLooksRow.plainKeys==Tryz.pinned.checked.prog.plainKeys)=W:=by kernel_rfl
theorem fa8:(Rows.lineageLooksRow.lifted==Tryz.pinned.checked.prog.liftsFinal)=W:=by kernel_rfl
theorem fa9:Tryz.pinned.checked.prog.mayEnter=W:=by kernel_rfl
theorem facts:joinedFacts Tryz.pinned.checked.prog 8 Tryz.f8 Rows.lineageLooksSpec Rows.lineageLooksRow=W:=by
 unfold joinedFacts;rw [fa0,fa1,fa2,fa3,fa4,fa5,fa6,fa7,fa8,fa9]
 kernel_rfl
theorem named:Tryz.pinned.checked.prog.funcNamed Rows.lineageLooksRow.func=J 8:=by kernel_rfl
theorem inst:Tryz.f8.isInstance Tryz.pinned.checked.prog Rows.lineageLooksRow.origin Rows.lineageLooksRow.targs:=of_decide_eq_true (by kernel_rfl)
theorem wrap:Tryz.f8.isWrapper Tryz.pinned.checked.prog Rows.lineageLooksRow.wrapper Rows.lineageLooksRow.mainSum:=by
 unfold Func.isWrapper
 first|(rw [if_pos (by decide +kernel)];kernel_rfl)|(rw [if_neg (by decide +kernel)];exact ⟨rfl,rfl⟩)
def cc3:Rows.lineageLooksRow.holds Tryz.pinned (OpenSpec.ofChange Rows.lineageLooksSpec) :=
 OpenClaim.holds_of_wide 8 Tryz.f8 rfl rfl rfl rfl rfl rfl rfl ⟨rfl,rfl,rfl,rfl,rfl⟩ rfl rfl rfl rfl rfl named Tryz.func8 facts inst wrap
  (λos started H enc _=>lifted os started H enc)
theorem proved:Rows.LineageLooksSaid :=
 cc3
end JP
end Go.Proofs.YtibjocmpkoepoaaGreat


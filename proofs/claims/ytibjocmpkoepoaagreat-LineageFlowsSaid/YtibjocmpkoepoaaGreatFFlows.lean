/- The law LineageFlows returns true for every list of numbers: the program and the reference find the same flows in every catalogue that is built from the list, and in what is left of it when one field is spoilt. No condition. -/
import Derived.Test.YtibjocmpkoepoaaGreatRows
import Derived.Test.YtibjocmpkoepoaaGreatT5
import Derived.Test.YtibjocmpkoepoaaGreatY0
set_option linter.all false
open Nat renaming le_refl → n5
namespace Go.Proofs.YtibjocmpkoepoaaGreat
namespace GW
open Go.ChangeShapes Go.WideShapes Go.ChangeAt Go.RowKit
theorem own:ownKnob Tryz.prog.godebug=none:=by kernel_rfl
open Go.A2 in
theorem walk (xs:List c8)(h:qK Tryz.prog Tryz.f3.params.toList [[.slice [ctI]]] xs)(hz:Szd Tryz.prog Tryz.f3.params.toList xs):∃ n,call A n 3 xs [] an=some (.d (.bool true),[]):=by
 rw [show Tryz.f3.params.toList=[22] by kernel_rfl] at h hz;simp only [qK] at h;obtain ⟨ds,r,rfl,h1,rfl⟩:=h;simp only [List.tail_cons,List.headD_cons,Z8] at h1;obtain ⟨d,r,rfl,h4,rfl⟩:=h1;obtain ⟨l,rfl, -, -⟩:=Ns (enc:=fun n=>[num n]) (ok:=fun _=>True) (fun r h=>by
  simp only [Z8] at h;obtain ⟨d,_,rfl,h5,rfl⟩:=h;obtain ⟨m,rfl,_⟩:=VB h5;exact ⟨m,rfl,trivial⟩) h4
 have h0:=hz 0 22 3 l.length (l.flatMap fun n=>[num n]) rfl (by kernel_rfl) (by rw [show isStr Tryz.prog 22=false by kernel_rfl];rfl);rw [show Tryz.prog.bytesOf 3=8 by kernel_rfl] at h0;have hx:l.length<=17592186043904:=by unfold reachBytes at h0;omega
 rw [show isStr Tryz.prog 22=false by kernel_rfl];have e:ints l=B0 (fun n=>[num n]) l:=by simp [ints,B0,List.flatMap_singleton']
 have e2:asArg false [A2.Data.slice l.length (l.flatMap fun n=>[num n])]= .d (ints l):=by rw [e];rfl
 obtain ⟨N,hN⟩:=lf3 hx;have:=hN N (n5 _);rw [<- e2] at this;exact ⟨N,this⟩
set_option maxRecDepth 100000 in
theorem lifted (os:Os)(started:os.Started)(H:Type)(enc:TypeId×Value->H) :
  ReturnsInHanded {} Tryz.checked os 3 .any (Rows.lineageFlowsSpec.pre6 enc Tryz.prog Tryz.f3 Rows.lineageFlowsRow.domain false) (Rows.lineageFlowsSpec.post enc Tryz.prog Tryz.f3 false true false false):=by
 refine returnsInHanded_of_change_sized (C:=Tryz.checked) own started (by kernel_rfl) Tryz.func3
  (ChangeSpec.witness6 (enc:=enc) (C:=Tryz.checked) false ⟨#[],#[.slice none 0 0],[]⟩ 8 (by kernel_rfl) (by kernel_rfl) (by kernel_rfl) (by kernel_rfl)) ?_
 intro W base args ds gs before aS5 hW cc4 hsz _;have hl:DataW.Whole enc Tryz.prog Tryz.f3.params.toList Rows.lineageFlowsSpec.vars false W args.toList ds gs before:=hW;have hlen:∃ d1,ds=[d1]:=by
  obtain ⟨p,q,hA0,_⟩:=hl;rw [show Tryz.f3.params.toList=[22] by kernel_rfl] at hA0;obtain ⟨v0,vs0,d0,ds0,p0,q0,_,rfl,rfl,h0,r0⟩:=trodAll_cons hA0;obtain ⟨_,rfl,_⟩:=trodAll_nil r0;exact ⟨_,rfl⟩
 obtain ⟨d1,rfl⟩:=hlen;exact A2.DH (ls:=[[.slice [A2.ctI]]]) au9 rfl (by kernel_rfl) Tryz.underlying4 (by kernel_rfl) rfl aS5 hW hsz walk
theorem fa0:(Rows.lineageFlowsRow.inPlace==Tryz.pinned.checked.prog.inPlace 3)=true:=by kernel_rfl
theorem fa1:(Rows.lineageFlowsRow.unfollowed==Tryz.pinned.checked.prog.unfollowed 3)=true:=by kernel_rfl
theorem fa2:(Rows.lineageFlowsRow.recurses==Tryz.pinned.checked.prog.recurses 3)=true:=by kernel_rfl
theorem fa3:(Rows.lineageFlowsRow.named==Tryz.pinned.checked.prog.varsNamed 3)=true:=by kernel_rfl
theorem fa4:laidOutB Tryz.pinned.checked.prog=true:=by kernel_rfl
theorem fa5:mapsRowed Tryz.pinned.checked.prog=true:=by kernel_rfl
theorem fa6:Tryz.pinned.checked.prog.stopsHeard=true:=by kernel_rfl
theorem fa7:(Rows.lineageFlowsRow.plainKeys==Tryz.pinned.checked.prog.plainKeys)=true:=by kernel_rfl
theorem fa8:(Rows.lineageFlowsRow.lifted==Tryz.pinned.checked.prog.liftsFinal)=true:=by kernel_rfl
theorem fa9:Tryz.pinned.checked.prog.mayEnter=true:=by kernel_rfl
theorem facts:joinedFacts Tryz.pinned.checked.prog 3 Tryz.f3 Rows.lineageFlowsSpec Rows.lineageFlowsRow=true:=by
 unfold joinedFacts;rw [fa0,fa1,fa2,fa3,fa4,fa5,fa6,fa7,fa8,fa9]
 kernel_rfl
theorem named:Tryz.pinned.checked.prog.funcNamed Rows.lineageFlowsRow.func=some 3:=by kernel_rfl
theorem inst:Tryz.f3.isInstance Tryz.pinned.checked.prog Rows.lineageFlowsRow.origin Rows.lineageFlowsRow.targs:=of_decide_eq_true (by kernel_rfl)
theorem wrap:Tryz.f3.isWrapper Tryz.pinned.checked.prog Rows.lineageFlowsRow.wrapper Rows.lineageFlowsRow.mainSum:=by
 unfold Func.isWrapper
 first|(rw [if_pos (by decide +kernel)];kernel_rfl)|(rw [if_neg (by decide +kernel)];exact ⟨rfl,rfl⟩)
def bC1:Rows.lineageFlowsRow.holds Tryz.pinned (OpenSpec.ofChange Rows.lineageFlowsSpec) :=
 OpenClaim.holds_of_wide 3 Tryz.f3 rfl rfl rfl rfl rfl rfl rfl ⟨rfl,rfl,rfl,rfl,rfl⟩ rfl rfl rfl rfl rfl named Tryz.func3 facts inst wrap
  (fun os started H enc _=>lifted os started H enc)
theorem proved:Rows.LineageFlowsSaid :=
 bC1
end GW
end Go.Proofs.YtibjocmpkoepoaaGreat


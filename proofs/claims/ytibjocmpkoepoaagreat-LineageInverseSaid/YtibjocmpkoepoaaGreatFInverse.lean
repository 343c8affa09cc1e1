/- The law LineageInverse returns true for every list of numbers: in the catalogues that are built from it, a place is reached from a column of a table exactly if that column is among its sources. No condition. -/
import Derived.Test.YtibjocmpkoepoaaGreatRows
import Derived.Test.YtibjocmpkoepoaaGreatUN6
import Derived.Test.YtibjocmpkoepoaaGreatUY0
set_option linter.all false
open Nat renaming le_refl → o5
namespace Go.Proofs.YtibjocmpkoepoaaGreat
namespace od
open Go.ChangeShapes Go.WideShapes Go.ChangeAt Go.RowKit
theorem own:ownKnob Tryz.prog.godebug=none:=by kernel_rfl
open Go.x9 in
theorem walk (xs:List c8)(h:jo Tryz.prog Tryz.f6.params.toList [[.slice [ctI]]] xs)(hz:Szd Tryz.prog Tryz.f6.params.toList xs):∃ n,call A n 6 xs [] S8=some (.d (.bool true),[]):=by
 rw [show Tryz.f6.params.toList=[22] by kernel_rfl] at h hz;simp only [jo] at h;obtain ⟨ds,r,rfl,h1,rfl⟩:=h;simp only [List.tail_cons,List.headD_cons,X7] at h1;obtain ⟨d,r,rfl,h4,rfl⟩:=h1;obtain ⟨l,rfl, -, -⟩:=zP (enc:=fun n=>[num n]) (ok:=fun _=>True) (fun r h=>by
  simp only [X7] at h;obtain ⟨d,_,rfl,h5,rfl⟩:=h;obtain ⟨m,rfl,_⟩:=HA h5;exact ⟨m,rfl,trivial⟩) h4
 have h0:=hz 0 22 3 l.length (l.flatMap fun n=>[num n]) rfl (by kernel_rfl) (by rw [show isStr Tryz.prog 22=false by kernel_rfl];rfl);rw [show Tryz.prog.bytesOf 3=8 by kernel_rfl] at h0;have hx:l.length<=17592186043904:=by unfold reachBytes at h0;omega
 rw [show isStr Tryz.prog 22=false by kernel_rfl];have e:ints l=z8 (fun n=>[num n]) l:=by simp [ints,z8,List.flatMap_singleton']
 have e2:asArg false [x9.Data.slice l.length (l.flatMap fun n=>[num n])]= .d (ints l):=by rw [e];rfl
 obtain ⟨N,hN⟩:=lf6 hx;have:=hN N (o5 _);rw [<- e2] at this;exact ⟨N,this⟩
set_option maxRecDepth 100000 in
theorem lifted (os:Os)(started:os.Started)(H:Type)(enc:TypeId×Value->H) :
  ReturnsInHanded {} Tryz.checked os 6 .any (Rows.lineageInverseSpec.pre6 enc Tryz.prog Tryz.f6 Rows.lineageInverseRow.domain false) (Rows.lineageInverseSpec.post enc Tryz.prog Tryz.f6 false true false false):=by
 refine returnsInHanded_of_change_sized (C:=Tryz.checked) own started (by kernel_rfl) Tryz.func6
  (ChangeSpec.witness6 (enc:=enc) (C:=Tryz.checked) false ⟨#[],#[.slice none 0 0],[]⟩ 8 (by kernel_rfl) (by kernel_rfl) (by kernel_rfl) (by kernel_rfl)) ?_
 intro W base args ds gs before TM hW be4 hsz _;have hl:DataW.Whole enc Tryz.prog Tryz.f6.params.toList Rows.lineageInverseSpec.vars false W args.toList ds gs before:=hW;have hlen:∃ d1,ds=[d1]:=by
  obtain ⟨p,q,hA0,_⟩:=hl;rw [show Tryz.f6.params.toList=[22] by kernel_rfl] at hA0;obtain ⟨v0,vs0,d0,ds0,p0,q0,_,rfl,rfl,h0,r0⟩:=trodAll_cons hA0;obtain ⟨_,rfl,_⟩:=trodAll_nil r0;exact ⟨_,rfl⟩
 obtain ⟨d1,rfl⟩:=hlen;exact x9.qC (ls:=[[.slice [x9.ctI]]]) Sg rfl (by kernel_rfl) Tryz.underlying4 (by kernel_rfl) rfl TM hW hsz walk
theorem fa0:(Rows.lineageInverseRow.inPlace==Tryz.pinned.checked.prog.inPlace 6)=true:=by kernel_rfl
theorem fa1:(Rows.lineageInverseRow.unfollowed==Tryz.pinned.checked.prog.unfollowed 6)=true:=by kernel_rfl
theorem fa2:(Rows.lineageInverseRow.recurses==Tryz.pinned.checked.prog.recurses 6)=true:=by kernel_rfl
theorem fa3:(Rows.lineageInverseRow.named==Tryz.pinned.checked.prog.varsNamed 6)=true:=by kernel_rfl
theorem fa4:laidOutB Tryz.pinned.checked.prog=true:=by kernel_rfl
theorem fa5:mapsRowed Tryz.pinned.checked.prog=true:=by kernel_rfl
theorem fa6:Tryz.pinned.checked.prog.stopsHeard=true:=by kernel_rfl
theorem fa7:(Rows.lineageInverseRow.plainKeys==Tryz.pinned.checked.prog.plainKeys)=true:=by kernel_rfl
theorem fa8:(Rows.lineageInverseRow.lifted==Tryz.pinned.checked.prog.liftsFinal)=true:=by kernel_rfl
theorem fa9:Tryz.pinned.checked.prog.mayEnter=true:=by kernel_rfl
theorem facts:joinedFacts Tryz.pinned.checked.prog 6 Tryz.f6 Rows.lineageInverseSpec Rows.lineageInverseRow=true:=by
 unfold joinedFacts;rw [fa0,fa1,fa2,fa3,fa4,fa5,fa6,fa7,fa8,fa9]
 kernel_rfl
theorem named:Tryz.pinned.checked.prog.funcNamed Rows.lineageInverseRow.func=some 6:=by kernel_rfl
theorem inst:Tryz.f6.isInstance Tryz.pinned.checked.prog Rows.lineageInverseRow.origin Rows.lineageInverseRow.targs:=of_decide_eq_true (by kernel_rfl)
theorem wrap:Tryz.f6.isWrapper Tryz.pinned.checked.prog Rows.lineageInverseRow.wrapper Rows.lineageInverseRow.mainSum:=by
 unfold Func.isWrapper
 first|(rw [if_pos (by decide +kernel)];kernel_rfl)|(rw [if_neg (by decide +kernel)];exact ⟨rfl,rfl⟩)
def ao0:Rows.lineageInverseRow.holds Tryz.pinned (OpenSpec.ofChange Rows.lineageInverseSpec) :=
 OpenClaim.holds_of_wide 6 Tryz.f6 rfl rfl rfl rfl rfl rfl rfl ⟨rfl,rfl,rfl,rfl,rfl⟩ rfl rfl rfl rfl rfl named Tryz.func6 facts inst wrap
  (fun os started H enc _=>lifted os started H enc)
theorem proved:Rows.LineageInverseSaid :=
 ao0
end od
end Go.Proofs.YtibjocmpkoepoaaGreat


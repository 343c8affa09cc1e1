/- The law LineageMonotone returns true for every list of numbers: for the catalogues that are built from it, Reached contains its argument, is monotone, and is not changed by applying it twice. No condition. -/
import Derived.Test.YtibjocmpkoepoaaGreatRows
import Derived.Test.YtibjocmpkoepoaaGreatN2
import Derived.Test.YtibjocmpkoepoaaGreatY0
set_option linter.all false
open Nat renaming le_refl → o5
namespace Go.Proofs.YtibjocmpkoepoaaGreat
namespace xF
open Go.ChangeShapes Go.WideShapes Go.ChangeAt Go.RowKit
theorem own:ownKnob Tryz.prog.godebug=none:=by kernel_rfl
open Go.Abs in
theorem walk (xs:List j3)(h:oR Tryz.prog Tryz.f5.params.toList [[.slice [ctI]]] xs)(hz:Szd Tryz.prog Tryz.f5.params.toList xs):∃ n,call A n 5 xs [] Y8=some (.d (.bool true),[]):=by
 rw [show Tryz.f5.params.toList=[22] by kernel_rfl] at h hz;simp only [oR] at h;obtain ⟨ds,r,rfl,h1,rfl⟩:=h;simp only [List.tail_cons,List.headD_cons,Z1] at h1;obtain ⟨d,r,rfl,h4,rfl⟩:=h1;obtain ⟨l,rfl, -, -⟩:=Lj (enc:=fun n=>[num n]) (ok:=fun _=>True) (fun r h=>by
  simp only [Z1] at h;obtain ⟨d,_,rfl,h5,rfl⟩:=h;obtain ⟨m,rfl,_⟩:=SY h5;exact ⟨m,rfl,trivial⟩) h4
 have h0:=hz 0 22 3 l.length (l.flatMap fun n=>[num n]) rfl (by kernel_rfl) (by rw [show isStr Tryz.prog 22=false by kernel_rfl];rfl);rw [show Tryz.prog.bytesOf 3=8 by kernel_rfl] at h0;have hx:l.length<=17592186043904:=by unfold reachBytes at h0;omega
 rw [show isStr Tryz.prog 22=false by kernel_rfl];have e:ints l=A5 (fun n=>[num n]) l:=by simp [ints,A5,List.flatMap_singleton']
 have e2:asArg false [Abs.Data.slice l.length (l.flatMap fun n=>[num n])]= .d (ints l):=by rw [e];rfl
 obtain ⟨N,hN⟩:=lf5 hx;have:=hN N (o5 _);rw [<- e2] at this;exact ⟨N,this⟩
set_option maxRecDepth 100000 in
theorem lifted (os:Os)(started:os.Started)(H:Type)(enc:TypeId×Value->H) :
  ReturnsInHanded {} Tryz.checked os 5 .any (Rows.lineageMonotoneSpec.pre6 enc Tryz.prog Tryz.f5 Rows.lineageMonotoneRow.domain false) (Rows.lineageMonotoneSpec.post enc Tryz.prog Tryz.f5 false true false false):=by
 refine returnsInHanded_of_change_sized (C:=Tryz.checked) own started (by kernel_rfl) Tryz.func5
  (ChangeSpec.witness6 (enc:=enc) (C:=Tryz.checked) false ⟨#[],#[.slice none 0 0],[]⟩ 8 (by kernel_rfl) (by kernel_rfl) (by kernel_rfl) (by kernel_rfl)) ?_
 intro W base args ds gs before az8 hW bs2 hsz _;have hl:DataW.Whole enc Tryz.prog Tryz.f5.params.toList Rows.lineageMonotoneSpec.vars false W args.toList ds gs before:=hW;have hlen:∃ d1,ds=[d1]:=by
  obtain ⟨p,q,hA0,_⟩:=hl;rw [show Tryz.f5.params.toList=[22] by kernel_rfl] at hA0;obtain ⟨v0,vs0,d0,ds0,p0,q0,_,rfl,rfl,h0,r0⟩:=trodAll_cons hA0;obtain ⟨_,rfl,_⟩:=trodAll_nil r0;exact ⟨_,rfl⟩
 obtain ⟨d1,rfl⟩:=hlen;exact Abs.Ca (ls:=[[.slice [Abs.ctI]]]) ad7 rfl (by kernel_rfl) Tryz.underlying4 (by kernel_rfl) rfl az8 hW hsz walk
theorem fa0:(Rows.lineageMonotoneRow.inPlace==Tryz.pinned.checked.prog.inPlace 5)=true:=by kernel_rfl
theorem fa1:(Rows.lineageMonotoneRow.unfollowed==Tryz.pinned.checked.prog.unfollowed 5)=true:=by kernel_rfl
theorem fa2:(Rows.lineageMonotoneRow.recurses==Tryz.pinned.checked.prog.recurses 5)=true:=by kernel_rfl
theorem fa3:(Rows.lineageMonotoneRow.named==Tryz.pinned.checked.prog.varsNamed 5)=true:=by kernel_rfl
theorem fa4:laidOutB Tryz.pinned.checked.prog=true:=by kernel_rfl
theorem fa5:mapsRowed Tryz.pinned.checked.prog=true:=by kernel_rfl
theorem fa6:Tryz.pinned.checked.prog.stopsHeard=true:=by kernel_rfl
theorem fa7:(Rows.lineageMonotoneRow.plainKeys==Tryz.pinned.checked.prog.plainKeys)=true:=by kernel_rfl
theorem fa8:(Rows.lineageMonotoneRow.lifted==Tryz.pinned.checked.prog.liftsFinal)=true:=by kernel_rfl
theorem fa9:Tryz.pinned.checked.prog.mayEnter=true:=by kernel_rfl
theorem facts:joinedFacts Tryz.pinned.checked.prog 5 Tryz.f5 Rows.lineageMonotoneSpec Rows.lineageMonotoneRow=true:=by
 unfold joinedFacts;rw [fa0,fa1,fa2,fa3,fa4,fa5,fa6,fa7,fa8,fa9]
 kernel_rfl
theorem named:Tryz.pinned.checked.prog.funcNamed Rows.lineageMonotoneRow.func=some 5:=by kernel_rfl
theorem inst:Tryz.f5.isInstance Tryz.pinned.checked.prog Rows.lineageMonotoneRow.origin Rows.lineageMonotoneRow.targs:=of_decide_eq_true (by kernel_rfl)
theorem wrap:Tryz.f5.isWrapper Tryz.pinned.checked.prog Rows.lineageMonotoneRow.wrapper Rows.lineageMonotoneRow.mainSum:=by
 unfold Func.isWrapper
 first|(rw [if_pos (by decide +kernel)];kernel_rfl)|(rw [if_neg (by decide +kernel)];exact ⟨rfl,rfl⟩)
def aX6:Rows.lineageMonotoneRow.holds Tryz.pinned (OpenSpec.ofChange Rows.lineageMonotoneSpec) :=
 OpenClaim.holds_of_wide 5 Tryz.f5 rfl rfl rfl rfl rfl rfl rfl ⟨rfl,rfl,rfl,rfl,rfl⟩ rfl rfl rfl rfl rfl named Tryz.func5 facts inst wrap
  (fun os started H enc _=>lifted os started H enc)
theorem proved:Rows.LineageMonotoneSaid :=
 aX6
end xF
end Go.Proofs.YtibjocmpkoepoaaGreat


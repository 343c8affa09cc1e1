/- The law CatalogueOrder returns true for every list of numbers: in a catalogue that the program builds from a list, the sources of a view have smaller numbers, and a store is a source of exactly its direct dependents. No condition. (made short by a program) -/
import Derived.Test.YtkmclibmmlgogaaGreatRows
import Derived.Test.YtkmclibmmlgogaaGreatT3
import Derived.Test.YtkmclibmmlgogaaGreatX7
set_option linter.unusedVariables false
set_option linter.unusedSimpArgs false
open Nat renaming le_refl → l5
namespace Go.Proofs.YtkmclibmmlgogaaGreat
open Go.u7 in
theorem FE:qW Tryz.prog A:=VV (fun f p h=>by
 refine SE f p _ ?_;revert h;unfold A;simp only;split
 ·rename_i h;rintro h2;cases h2;exact .inr (.inr ⟨h,rfl⟩)
 ·split
  ·rename_i h;rintro h2;cases h2;exact .inl ⟨h,rfl⟩
  ·split
   ·rename_i h;rintro h2;cases h2;exact .inr (.inl ⟨h,rfl⟩)
   ·rintro h2;cases h2)
namespace catalogueOrder
open Go.ChangeShapes Go.WideShapes Go.ChangeAt Go.RowKit
theorem own:ownKnob Tryz.prog.godebug=none:=by kernel_rfl
open Go.u7 in
theorem walk (xs:List b6)(h:fq Tryz.prog Tryz.f5.params.toList [[.slice [VG]]] xs)(hz:ZS Tryz.prog Tryz.f5.params.toList xs):∃ n,call A n 5 xs [] bK=some (.d (.bool true),[]):=by
 rw [show Tryz.f5.params.toList=[33] by kernel_rfl] at h hz;simp only [fq] at h;obtain ⟨ds,r,rfl,h1,rfl⟩:=h;simp only [List.tail_cons,List.headD_cons,T1] at h1;obtain ⟨d,r,rfl,h4,rfl⟩:=h1;obtain ⟨l,rfl, -, -⟩:=vj (enc:=fun n=>[num n]) (ok:=fun _=>True) (fun r h=>by
  simp only [T1] at h;obtain ⟨d,_,rfl,h5,rfl⟩:=h;obtain ⟨m,rfl,_⟩:=CL h5;exact ⟨m,rfl,trivial⟩) h4
 have h0:=hz 0 33 3 l.length (l.flatMap fun n=>[num n]) rfl (by kernel_rfl) (by rw [show isStr Tryz.prog 33=false by kernel_rfl];rfl);rw [show Tryz.prog.bytesOf 3=8 by kernel_rfl] at h0;have hx:l.length<=17592186043904:=by unfold reachBytes at h0;omega
 rw [show isStr Tryz.prog 33=false by kernel_rfl];have e:ints l=y7 (fun n=>[num n]) l:=by simp [ints,y7,List.flatMap_singleton']
 have e2:asArg false [u7.Data.slice l.length (l.flatMap fun n=>[num n])]= .d (ints l):=by rw [e];rfl
 obtain ⟨N,hN⟩:=pf5 hx;have:=hN N (l5 _);rw [<- e2] at this;exact ⟨N,this⟩
set_option maxRecDepth 100000 in
theorem lifted (os:Os)(started:os.Started)(H:Type)(enc:TypeId×Value->H) :
  ReturnsInHanded {} Tryz.checked os 5 .any (Rows.catalogueOrderSpec.pre6 enc Tryz.prog Tryz.f5 Rows.catalogueOrderRow.domain false) (Rows.catalogueOrderSpec.post enc Tryz.prog Tryz.f5 false true false false):=by
 refine returnsInHanded_of_change_sized (C:=Tryz.checked) own started (by kernel_rfl) Tryz.func5
  (ChangeSpec.witness6 (enc:=enc) (C:=Tryz.checked) false ⟨#[],#[.slice none 0 0],[]⟩ 8 (by kernel_rfl) (by kernel_rfl) (by kernel_rfl) (by kernel_rfl)) ?_
 intro W base args ds gs before Mx hW al9 hsz _;have hl:DataW.Whole enc Tryz.prog Tryz.f5.params.toList Rows.catalogueOrderSpec.vars false W args.toList ds gs before:=hW;have hlen:∃ d1,ds=[d1]:=by
  obtain ⟨p,q,Xe,_⟩:=hl;rw [show Tryz.f5.params.toList=[33] by kernel_rfl] at Xe;obtain ⟨v0,vs0,d0,ds0,p0,q0,_,rfl,rfl,h0,r0⟩:=trodAll_cons Xe;obtain ⟨_,rfl,_⟩:=trodAll_nil r0;exact ⟨_,rfl⟩
 obtain ⟨d1,rfl⟩:=hlen;exact u7.nK (ls:=[[.slice [u7.VG]]]) FE rfl (by kernel_rfl) Tryz.underlying4 (by kernel_rfl) rfl Mx hW hsz walk
theorem Uj:Rows.catalogueOrderRow.holds Tryz.pinned (OpenSpec.ofChange Rows.catalogueOrderSpec) :=
 OpenClaim.holds_of_wide 5 Tryz.f5 rfl rfl rfl rfl rfl rfl rfl ⟨rfl,rfl,rfl,rfl,rfl⟩ rfl rfl rfl rfl rfl (by kernel_rfl) Tryz.func5 (by kernel_rfl)
  (of_decide_eq_true (by kernel_rfl)) (by unfold Func.isWrapper;first|(rw [if_pos (by decide +kernel)];kernel_rfl)|(rw [if_neg (by decide +kernel)];exact ⟨rfl,rfl⟩))
  (fun os started H enc _=>lifted os started H enc)
theorem proved:Rows.CatalogueOrderSaid :=
 Uj
end catalogueOrder
end Go.Proofs.YtkmclibmmlgogaaGreat


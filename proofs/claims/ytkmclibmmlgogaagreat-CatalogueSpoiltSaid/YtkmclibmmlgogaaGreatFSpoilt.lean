/- The law CatalogueSpoilt returns true for every list of numbers: the catalogue that the program builds from the list and then spoils is small, every look into it agrees with the reference, and the looks give nothing where it is not valid any more. No condition. (made short by a program) -/
import Derived.Test.YtkmclibmmlgogaaGreatRows
import Derived.Test.YtkmclibmmlgogaaGreatT5
import Derived.Test.YtkmclibmmlgogaaGreatX7
set_option linter.unusedVariables false
set_option linter.unusedSimpArgs false
open Nat renaming le_refl → n5
namespace Go.Proofs.YtkmclibmmlgogaaGreat
open Go.y3 in
theorem Wr:wB Tryz.prog A:=aw6 (fun f p h=>by
 refine an6 f p _ ?_;revert h;unfold A;simp only;split
 ·rename_i h;rintro h2;cases h2;exact .inr (.inr ⟨h,rfl⟩)
 ·split
  ·rename_i h;rintro h2;cases h2;exact .inl ⟨h,rfl⟩
  ·split
   ·rename_i h;rintro h2;cases h2;exact .inr (.inl ⟨h,rfl⟩)
   ·rintro h2;cases h2)
namespace catalogueSpoilt
open Go.ChangeShapes Go.WideShapes Go.ChangeAt Go.RowKit
theorem own:ownKnob Tryz.prog.godebug=none:=by kernel_rfl
open Go.y3 in
theorem walk (xs:List b6)(h:nO Tryz.prog Tryz.f8.params.toList [[.slice [ctI]]] xs)(hz:Szd Tryz.prog Tryz.f8.params.toList xs):∃ n,call A n 8 xs [] cB=some (.d (.bool true),[]):=by
 rw [show Tryz.f8.params.toList=[33] by kernel_rfl] at h hz;simp only [nO] at h;obtain ⟨ds,r,rfl,h1,rfl⟩:=h;simp only [List.tail_cons,List.headD_cons,W9] at h1;obtain ⟨d,r,rfl,h4,rfl⟩:=h1;obtain ⟨l,rfl, -, -⟩:=HZ (enc:=fun n=>[num n]) (ok:=fun _=>True) (fun r h=>by
  simp only [W9] at h;obtain ⟨d,_,rfl,h5,rfl⟩:=h;obtain ⟨m,rfl,_⟩:=OH h5;exact ⟨m,rfl,trivial⟩) h4
 have h0:=hz 0 33 3 l.length (l.flatMap fun n=>[num n]) rfl (by kernel_rfl) (by rw [show isStr Tryz.prog 33=false by kernel_rfl];rfl);rw [show Tryz.prog.bytesOf 3=8 by kernel_rfl] at h0;have hx:l.length<=17592186043904:=by unfold reachBytes at h0;omega
 rw [show isStr Tryz.prog 33=false by kernel_rfl];have e:ints l=z6 (fun n=>[num n]) l:=by simp [ints,z6,List.flatMap_singleton']
 have e2:asArg false [y3.Data.slice l.length (l.flatMap fun n=>[num n])]= .d (ints l):=by rw [e];rfl
 obtain ⟨N,hN⟩:=pf8 hx;have:=hN N (n5 _);rw [<- e2] at this;exact ⟨N,this⟩
set_option maxRecDepth 100000 in
theorem lifted (os:Os)(started:os.Started)(H:Type)(enc:TypeId×Value->H) :
  ReturnsInHanded {} Tryz.checked os 8 .any (Rows.catalogueSpoiltSpec.pre6 enc Tryz.prog Tryz.f8 Rows.catalogueSpoiltRow.domain false) (Rows.catalogueSpoiltSpec.post enc Tryz.prog Tryz.f8 false true false false):=by
 refine returnsInHanded_of_change_sized (C:=Tryz.checked) own started (by kernel_rfl) Tryz.func8
  (ChangeSpec.witness6 (enc:=enc) (C:=Tryz.checked) false ⟨#[],#[.slice none 0 0],[]⟩ 8 (by kernel_rfl) (by kernel_rfl) (by kernel_rfl) (by kernel_rfl)) ?_
 intro W base args ds gs before ah7 hW bo5 hsz _;have hl:DataW.Whole enc Tryz.prog Tryz.f8.params.toList Rows.catalogueSpoiltSpec.vars false W args.toList ds gs before:=hW;have hlen:∃ d1,ds=[d1]:=by
  obtain ⟨p,q,hA0,_⟩:=hl;rw [show Tryz.f8.params.toList=[33] by kernel_rfl] at hA0;obtain ⟨v0,vs0,d0,ds0,p0,q0,_,rfl,rfl,h0,r0⟩:=trodAll_cons hA0;obtain ⟨_,rfl,_⟩:=trodAll_nil r0;exact ⟨_,rfl⟩
 obtain ⟨d1,rfl⟩:=hlen;exact y3.Ad (ls:=[[.slice [y3.ctI]]]) Wr rfl (by kernel_rfl) Tryz.underlying4 (by kernel_rfl) rfl ah7 hW hsz walk
theorem aM9:Rows.catalogueSpoiltRow.holds Tryz.pinned (OpenSpec.ofChange Rows.catalogueSpoiltSpec) :=
 OpenClaim.holds_of_wide 8 Tryz.f8 rfl rfl rfl rfl rfl rfl rfl ⟨rfl,rfl,rfl,rfl,rfl⟩ rfl rfl rfl rfl rfl (by kernel_rfl) Tryz.func8 (by kernel_rfl)
  (of_decide_eq_true (by kernel_rfl)) (by unfold Func.isWrapper;first|(rw [if_pos (by decide +kernel)];kernel_rfl)|(rw [if_neg (by decide +kernel)];exact ⟨rfl,rfl⟩))
  (fun os started H enc _=>lifted os started H enc)
theorem proved:Rows.CatalogueSpoiltSaid :=
 aM9
end catalogueSpoilt
end Go.Proofs.YtkmclibmmlgogaaGreat


/- The law CatalogueLooks returns true for every list of numbers and every number: the catalogue that the program builds from the list is small whatever the list, and every look into a small catalogue is shown to agree with the reference. No condition. (made short by a program) -/
import Derived.Test.YtkmclibmmlgogaaGreatRows
import Derived.Test.YtkmclibmmlgogaaGreatT2
import Derived.Test.YtkmclibmmlgogaaGreatX7
set_option linter.unusedVariables false
set_option linter.unusedSimpArgs false
open List renaming mem_singleton → p4
open Nat renaming le_refl → k9
namespace Go.Proofs.YtkmclibmmlgogaaGreat
open Go.z7 in
theorem Ur:vq Tryz.prog A:=aj5 (fun f p h=>by
 refine ab2 f p _ ?_;revert h;unfold A;simp only;split
 ·rename_i h;rintro h2;cases h2;exact .inr (.inr ⟨h,rfl⟩)
 ·split
  ·rename_i h;rintro h2;cases h2;exact .inl ⟨h,rfl⟩
  ·split
   ·rename_i h;rintro h2;cases h2;exact .inr (.inl ⟨h,rfl⟩)
   ·rintro h2;cases h2)
namespace catalogueLooks
open Go.ChangeShapes Go.WideShapes Go.ChangeAt Go.RowKit
theorem own:ownKnob Tryz.prog.godebug=none:=by kernel_rfl
open Go.z7 in
theorem walk (xs:List b6)(h:jS Tryz.prog Tryz.f7.params.toList [[.slice [WU]],[WU]] xs)(hz:Szd Tryz.prog Tryz.f7.params.toList xs):∃ n,call A n 7 xs [] cU=some (.d (.bool true),[]):=by
 rw [show Tryz.f7.params.toList=[33,3] by kernel_rfl] at h hz;simp only [jS] at h;obtain ⟨ds,r,rfl,h1,ds2,r2,rfl,h2,rfl⟩:=h;simp only [List.tail_cons,List.headD_cons,V1] at h1 h2;obtain ⟨d,r,rfl,h3,rfl⟩:=h2;obtain ⟨n,rfl,hn⟩:=Dt h3;obtain ⟨d,r,rfl,h4,rfl⟩:=h1;obtain ⟨l,rfl, -, -⟩:=GH (enc:=fun n=>[num n]) (ok:=fun _=>True) (fun r h=>by
  simp only [V1] at h;obtain ⟨d,_,rfl,h5,rfl⟩:=h;obtain ⟨m,rfl,_⟩:=Dt h5;exact ⟨m,rfl,trivial⟩) h4
 have h0:=hz 0 33 3 l.length (l.flatMap fun n=>[num n]) rfl (by kernel_rfl) (by rw [show isStr Tryz.prog 33=false by kernel_rfl];rfl);rw [show Tryz.prog.bytesOf 3=8 by kernel_rfl] at h0;have hx:l.length<=17592186043904:=by unfold reachBytes at h0;omega
 rw [show isStr Tryz.prog 33=false by kernel_rfl,show isStr Tryz.prog 3=false by kernel_rfl];have e:ints l=A5 (fun n=>[num n]) l:=by simp [ints,A5,List.flatMap_singleton']
 have e2:asArg false [z7.Data.slice l.length (l.flatMap fun n=>[num n])]= .d (ints l):=by rw [e];rfl
 obtain ⟨v,H1,⟨o,o1,o2,o3⟩,N,hN⟩:=(o7 hx ⟨[],[],[],[],[],[],[],[]⟩).2 [.d (ints l),.d (num n)] [] (by
  simp only [s7,Sh.s9.g];refine ⟨_,_,rfl,Sh.aM ?_,_,_,rfl,Sh.aM ?_,rfl⟩
  ·simp only [Sh.SD.g]
   exact ⟨rfl,trivial⟩
  ·simp only [sI,Sh.SD.g]
   exact ⟨n,rfl,hn.1,by have:=hn.2;omega,trivial⟩) (by simp only [s7,Sh.F2.g])
 have:=p4.1 o1;subst this;obtain ⟨d,rfl,h6⟩:=Sh.Y7 o2;simp only [Sh.SD.g] at h6;subst h6;simp only [Sh.F2.g] at o3;subst o3;exact ⟨N,hN N (k9 _)⟩
set_option maxRecDepth 100000 in
theorem lifted (os:Os)(started:os.Started)(H:Type)(enc:TypeId×Value->H) :
  ReturnsInHanded {} Tryz.checked os 7 .any (Rows.catalogueLooksSpec.pre6 enc Tryz.prog Tryz.f7 Rows.catalogueLooksRow.domain false) (Rows.catalogueLooksSpec.post enc Tryz.prog Tryz.f7 false true false false):=by
 refine returnsInHanded_of_change_sized (C:=Tryz.checked) own started (by kernel_rfl) Tryz.func7
  (ChangeSpec.witness6 (enc:=enc) (C:=Tryz.checked) false ⟨#[],#[.slice none 0 0,.int .i64 0],[]⟩ 8 (by kernel_rfl) (by kernel_rfl) (by kernel_rfl) (by kernel_rfl)) ?_
 intro W base args ds gs before Zh hW ba2 hsz _;have hl:DataW.Whole enc Tryz.prog Tryz.f7.params.toList Rows.catalogueLooksSpec.vars false W args.toList ds gs before:=hW;have hlen:∃ d1 d2,ds=[d1,d2]:=by
  obtain ⟨p,q,hA0,_⟩:=hl;rw [show Tryz.f7.params.toList=[33,3] by kernel_rfl] at hA0;obtain ⟨v0,vs0,d0,ds0,p0,q0,_,rfl,rfl,h0,r0⟩:=trodAll_cons hA0;obtain ⟨v1,vs1,d1,ds1,p1,q1,_,rfl,rfl,h1,r1⟩:=trodAll_cons r0;obtain ⟨_,rfl,_⟩:=trodAll_nil r1;exact ⟨_,_,rfl⟩
 obtain ⟨d1,d2,rfl⟩:=hlen;exact z7.yV (ls:=[[.slice [z7.WU]],[z7.WU]]) Ur rfl (by kernel_rfl) Tryz.underlying4 (by kernel_rfl) rfl Zh hW hsz walk
theorem aA3:Rows.catalogueLooksRow.holds Tryz.pinned (OpenSpec.ofChange Rows.catalogueLooksSpec) :=
 OpenClaim.holds_of_wide 7 Tryz.f7 rfl rfl rfl rfl rfl rfl rfl ⟨rfl,rfl,rfl,rfl,rfl⟩ rfl rfl rfl rfl rfl (by kernel_rfl) Tryz.func7 (by kernel_rfl)
  (of_decide_eq_true (by kernel_rfl)) (by unfold Func.isWrapper;first|(rw [if_pos (by decide +kernel)];kernel_rfl)|(rw [if_neg (by decide +kernel)];exact ⟨rfl,rfl⟩))
  (fun os started H enc _=>lifted os started H enc)
theorem proved:Rows.CatalogueLooksSaid :=
 aA3
end catalogueLooks
end Go.Proofs.YtkmclibmmlgogaaGreat


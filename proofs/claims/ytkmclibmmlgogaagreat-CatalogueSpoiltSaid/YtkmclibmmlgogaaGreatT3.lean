/- The law CatalogueColumns. (made short by a program) -/
import Derived.Test.YtkmclibmmlgogaaGreatT2
set_option linter.unusedVariables false
set_option linter.unusedSimpArgs false
open List renaming mem_singleton → B0
namespace Go.Proofs.YtkmclibmmlgogaaGreat
open Go.y3 Go.y3.S Go.y3.Sh
attribute [local irreducible] Rx Ry Rn Ex Pf
theorem Oh {xs:List Int}(hx:xs.length<=17592186043904):∃ (c:m8) (q:Nat),J3 c=true/\B6 c/\Pm A 12 [.d (ints xs)] [] cB (.ptr 0 0) [tp xs 0]/\Pm A 13 [.ptr 0 0] [tp xs 0] l1 (cat c) [tp xs q]/\q<=4 * xs.length/\F2.g (aD xs gh) [] rF c.enc:=by
 obtain ⟨v,H1,⟨rfl,rfl⟩,p12⟩:=aP3 xs hx;obtain ⟨v,H1,⟨o,o1,o2,o3⟩,p13⟩:=(o13 (by omega) gh:s13.ok (aD xs gh) A).2 [.ptr 0 0] [tp xs 0] (by
  simp only [s13,Sh.q6.g];exact ⟨_,_,rfl,rfl,rfl⟩) (by
  simp only [s13,Sh.H6.g];exact ⟨_,_,rfl,⟨0,Nat.zero_le _,rfl⟩,rfl⟩)
 have:=B0.1 o1;subst this;simp only [Sh.H6.g] at o3;obtain ⟨_,_,rfl,⟨q,hq,rfl⟩,rfl⟩:=o3;simp only [Sh.SV.g] at o2;obtain ⟨cs,rfl,h0,h⟩:=o2;obtain ⟨ds,rfl,h3⟩:=Oy h0;obtain ⟨c,hc,h1,h2⟩:=h 0 rfl;have e:(ds.map b6.d).map b6.G4=ds.map b6.d:=by simp [b6.G4]
 rw [e] at hc;have e2:ds=c.enc:=(List.map_inj_right (fun _ _ h=>by cases h;rfl)).1 hc;subst e2;exact ⟨c,q,h1,h2,p12,p13,hq,h3⟩
theorem built {xs:List Int}(hx:xs.length<=17592186043904):∃ (c:m8) (q:Nat),J3 c=true/\B6 c/\Pm A 12 [.d (ints xs)] [] cB (.ptr 0 0) [tp xs 0]/\Pm A 13 [.ptr 0 0] [tp xs 0] l1 (cat c) [tp xs q]:=by
 obtain ⟨c,q,h1,h2,h3,h4,_⟩:=Oh hx;exact ⟨c,q,h1,h2,h3,h4⟩
end Go.Proofs.YtkmclibmmlgogaaGreat


/- The primitives of the machine at this program: slices.Sort, slices.Compact, slices.Grow. (made short by a program) -/
import Derived.Test.YtkmclibmmlgogaaGreatB7
import Derived.Test.YtkmclibmmlgogaaGreatShelf
import Derived.KernelRfl
set_option linter.unusedVariables false
set_option linter.unusedSimpArgs false
open Bool renaming and_eq_true → b5
namespace Go.Proofs.YtkmclibmmlgogaaGreat
open Go.y3 Go.Sort
theorem Yj (prom:FuncId->Bool):ku Tryz.prog prom 42 xY :=
 Nx (by kernel_rfl) (fun blk off cap zs w h1 h2 h3=>Any.slices_Sort_int Tryz.lays189 blk off cap zs w h1 h2 h3) (fun p cap w=>Any.slices_Sort_int_none Tryz.lays189 p cap w)
theorem Yk (prom:FuncId->Bool):ku Tryz.prog prom 43 gQ :=
 Ct (by kernel_rfl) (fun blk off cap zs w h1 h2 h3=>Any.slices_Compact_int Tryz.lays20 blk off cap zs w h1 h2 h3)
theorem TQ (prom:FuncId->Bool):ku Tryz.prog prom 172 xX:=by
 refine ML (by kernel_rfl) (fun w=>Any8.slices_Grow_room Tryz.lays4 none 0 0 0 w (by omega) (by omega) (by omega) (by omega)) (fun n w h0 hn=> ?_);have key:(match Tryz.prog.info? (Tryz.lays4_ren.t 25) with
   |some i=>decide (i.size=1)&&decide (i.bytes<=8)&&(match i.zero with
    |some z=>decide (z.cells.size=1)
    |none=>false)
   |none=>false)=true:=by kernel_rfl
 split at key
 ·rename_i i0 hi0
  simp only [b5,decide_eq_true_eq] at key;obtain ⟨⟨hs,hb⟩,key⟩:=key;split at key
  ·rename_i z hz
   have hz1:z.cells.size=1:=by simpa using key
   have hmul:(0+n) * i0.bytes<=1000000 * 8:=Nat.mul_le_mul (by omega) hb;refine (Any8.slices_Grow_grow Tryz.lays4 i0 z hi0 hz (by omega) none 0 0 n [] w (by omega) (by omega) (by omega) (by omega) (by simp) (fun _=>rfl) (fun a h=>by cases h)).mono ?_;rintro e w' ⟨rfl,rfl⟩;refine ⟨_,_,_,rfl,rfl,?_⟩;have:=grownCap_ge w (0+n) 0 (Tryz.lays4_ren.t 25);simp only [Array.size_append,size_zeroCells,hz1,List.size_toArray,List.length_nil];omega
  ·cases key
 ·cases key
theorem an6 (f:FuncId)(p:List b6->o6->G9->Option (b6×o6))(prom:FuncId->Bool)(h:(f=42/\p=xY)\/(f=43/\p=gQ)\/(f=172/\p=xX)):ku Tryz.prog prom f p:=by
 rcases h with ⟨rfl,rfl⟩|⟨rfl,rfl⟩|⟨rfl,rfl⟩
 ·exact Yj prom
 ·exact Yk prom
 ·exact TQ prom
end Go.Proofs.YtkmclibmmlgogaaGreat


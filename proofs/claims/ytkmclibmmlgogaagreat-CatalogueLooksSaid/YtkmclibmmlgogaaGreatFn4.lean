/- The functions of the program in the abstract machine's code (part 4), each held against the program by the kernel. (made short by a program) -/
import Derived.Test.YtkmclibmmlgogaaGreatProg
import Derived.Test.YtkmclibmmlgogaaGreatB4
import Derived.KernelRfl
set_option linter.unusedVariables false
set_option linter.unusedSimpArgs false
namespace Go.Proofs.YtkmclibmmlgogaaGreat
open Go.z7 Go.z7.Z
def Ye:q6:=(O3 ⟨1,[0,1,2],(sq (o5 [ur,i1 (.alloc [z0,z0,zs]) 2]) (sq (C4 [i0 (.load (some 3) S0),i0 (.call 187 [D0])] C6 (sq (o5 [i0 (.load (some 3) S0),i0 (.store 3 O7 D0)]) .ret) sk) (sq (o5 [i0 AE,i0 (.store 3 O7 D0)]) .ret))),[.cell 2 (some 3)],false⟩).1
theorem aq7:n6 Tryz.prog Tryz.f186 Ye=true:=by kernel_rfl
def Yf:q6:=(O3 ⟨1,[0,1,2,4],(sq FY (sq WJ jJ)),[.slot 2],false⟩).1
theorem aq8:n6 Tryz.prog Tryz.f187 Yf=true:=by kernel_rfl
def Yg:q6:=(O3 ⟨1,[0,1,2],(sq FY (sq (.block 0 (C4 [gM,y4,i0 (.call 184 [C6]),i0 (.bin .lss I9 D3),R6] y8 jJ (C4 [gM,y4,i0 AL,M7] y3 (sq (o5 [os 4 1,y4,iH,M7,it rL 3,it Ba 3,it pM 3,it JX 3,rX,ml 8,it rL 9,it (.load (some 3) M3) 9,it (.call 189 [R7]) 9,i0 yz,i1 Bc 2]) .ret) (C4 [gM,y4,si,M7] y3 (sq (o5 [os 4 1,y4,i0 (.bin .geq C6 D3),M7,it rL 3,it JV 3,it AE 3,it (.Mf false [.i,.i,.s] B3 D5) 3,rX,i1 gS 2]) .ret) sk)))) (sq (o5 [os 4 1,y4,iH,M7,it rL 3,it JV 3,it AE 3,it (.Mf false [.i,.i,.s] B3 D5) 3,rX,i1 gS 2]) .ret))),[.slot 2],false⟩).1
theorem aq9:n6 Tryz.prog Tryz.f188 Yg=true:=by kernel_rfl
def Yh:q6:=(O3 ⟨1,[0,1,2,4],(sq FY (sq WJ jJ)),[.slot 2],false⟩).1
theorem ar0:n6 Tryz.prog Tryz.f189 Yh=true:=by kernel_rfl
end Go.Proofs.YtkmclibmmlgogaaGreat


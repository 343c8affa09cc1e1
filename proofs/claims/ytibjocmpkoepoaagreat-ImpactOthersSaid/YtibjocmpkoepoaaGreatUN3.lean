import Derived.Test.YtibjocmpkoepoaaGreatUAbs
set_option linter.all false
open Option renaming some→J
open Bool renaming true→W,false→F
namespace Go.Proofs.YtibjocmpkoepoaaGreat
open Go.y9
def cW:c7:= .agg [(.d (.slice 1 [.str [116],(.slice 3 [.str [107],.int .i64 1,.str [],.str [],.slice 0 [],.int .i64 0,.int .i64 0,.str [97],.int .i64 1,.str [],.str [],.slice 0 [],.int .i64 0,.int .i64 0,.str [98],.int .i64 1,.str [],.str [],.slice 0 [],.int .i64 0,.int .i64 0]),.int .i64 0,.int .i64 0])),(.d (.slice 1 [.str [118],.int .i64 0,.str [116],.str [],.slice 0 [],.slice 0 [],(.slice 1 [.str [98],(.slice 1 [.int .i64 2,.int .i64 0,.int .i64 0,.str [],.int .i64 2])]),.bool F,.slice 0 []])),(.d (.slice 0 [])),(.d (.slice 0 [])),(.d (.slice 0 [])),(.d (.slice 0 [])),(.d (.slice 1 [.str [115],.str [116]])),(.d (.slice 0 []))]
theorem w46:call A 300 46 [cW] [] N6=J (.d (.bool W),[]):=by kernel_rfl
theorem aw1:call A 300 115 [cW,.d (.int .i64 0)] [] N6=J (.d (.slice 3 [.int .i64 1,.int .i64 1,.int .i64 1]),[]):=by kernel_rfl
theorem aw2:call A 300 115 [cW,.d (.int .i64 1)] [] N6=J (.d (.slice 1 [.int .i64 1]),[]):=by kernel_rfl
theorem w71:call A 300 71 [cW,.d (.str [116])] [] N6=J (.d (.int .i64 0),[]):=by kernel_rfl
theorem w72:call A 300 71 [cW,.d (.str [118])] [] N6=J (.d (.int .i64 1),[]):=by kernel_rfl
def esW:List xS:=[⟨46,[cW],.d (.bool W)⟩,⟨115,[cW,.d (.int .i64 0)],.d (.slice 3 [.int .i64 1,.int .i64 1,.int .i64 1])⟩,⟨115,[cW,.d (.int .i64 1)],.d (.slice 1 [.int .i64 1])⟩,⟨71,[cW,.d (.str [116])],.d (.int .i64 0)⟩,⟨71,[cW,.d (.str [118])],.d (.int .i64 1)⟩]
def RG:∀e,e∈esW->call A 300 e.f e.args [] N6=J (e.res,[]):=by
 intro e he;simp only [esW,List.mem_cons,List.not_mem_nil,or_false] at he
 rcases he with rfl|rfl|rfl|rfl|rfl
 .exact w46
 .exact aw1
 .exact aw2
 .exact w71
 .exact w72
theorem aw5:call (memo A esW) 300 27 [] [] N6=J (.d (.bool W),[]):=by kernel_rfl
def at4:Pf A 27 [] (.d (.bool W)):=Pf.TH RG aw5 V
end Go.Proofs.YtibjocmpkoepoaaGreat


import Derived.Test.YtibjocmpkoepoaaGreatAbs
set_option linter.all false
open List renaming mem_cons→B6
open Option renaming some→J
open Bool renaming true→W,false→F
namespace Go.Proofs.YtibjocmpkoepoaaGreat
open Go.A1
def cW:c8:= .agg [(.d (.slice 1 [.str [116],(.slice 2 [.str [107],.int .i64 1,.str [],.str [],.slice 0 [],.int .i64 0,.int .i64 0,.str [118],.int .i64 2,.str [],.str [],.slice 0 [],.int .i64 0,.int .i64 0]),.int .i64 0,.int .i64 0])),(.d (.slice 1 [.str [120],.int .i64 0,.str [116],.str [],.slice 0 [],(.slice 3 [.int .i64 11,.int .i64 0,.int .i64 0,.str [],.int .i64 0,.int .i64 2,.int .i64 0,.int .i64 0,.str [],.int .i64 0,.int .i64 1,.int .i64 1,.int .i64 1,.str [],.int .i64 0]),(.slice 1 [.str [118],(.slice 1 [.int .i64 2,.int .i64 0,.int .i64 0,.str [],.int .i64 1])]),.bool F,.slice 0 []])),(.d (.slice 0 [])),(.d (.slice 0 [])),(.d (.slice 0 [])),(.d (.slice 0 [])),(.d (.slice 0 [])),(.d (.slice 0 []))]
theorem w46:call A 300 46 [cW] [] W8=J (.d (.bool W),[]):=by kernel_rfl
theorem ck1:call A 300 115 [cW,.d (.int .i64 0)] [] W8=J (.d (.slice 2 [.int .i64 1,.int .i64 2]),[]):=by kernel_rfl
theorem ck2:call A 300 115 [cW,.d (.int .i64 1)] [] W8=J (.d (.slice 1 [.int .i64 2]),[]):=by kernel_rfl
theorem w71:call A 300 71 [cW,.d (.str [116])] [] W8=J (.d (.int .i64 0),[]):=by kernel_rfl
def esW:List Gz:=[⟨46,[cW],.d (.bool W)⟩,⟨115,[cW,.d (.int .i64 0)],.d (.slice 2 [.int .i64 1,.int .i64 2])⟩,⟨115,[cW,.d (.int .i64 1)],.d (.slice 1 [.int .i64 2])⟩,⟨71,[cW,.d (.str [116])],.d (.int .i64 0)⟩]
def aS4:∀e,e∈esW->call A 300 e.f e.args [] W8=J (e.res,[]):=by
 intro e he;simp only [esW,B6,List.not_mem_nil,or_false] at he
 rcases he with rfl|rfl|rfl|rfl
 .exact w46
 .exact ck1
 .exact ck2
 .exact w71
theorem w19:call (memo A esW) 300 19 [] [] W8=J (.d (.bool W),[]):=by kernel_rfl
def cd3:Pf A 19 [] (.d (.bool W)):=Pf.be6 aS4 w19 V
end Go.Proofs.YtibjocmpkoepoaaGreat


import Derived.Test.YtibjocmpkoepoaaGreatAbs
set_option linter.all false
open List renaming mem_cons → B8
namespace Go.Proofs.YtibjocmpkoepoaaGreat
open Go.A2
def cW:c8:= .agg [(.d (.slice 1 [.str [116],(.slice 2 [.str [107],.int .i64 1,.str [],.str [],.slice 0 [],.int .i64 0,.int .i64 0,.str [118],.int .i64 2,.str [],.str [],.slice 0 [],.int .i64 0,.int .i64 0]),.int .i64 0,.int .i64 0])),(.d (.slice 1 [.str [120],.int .i64 0,.str [116],.str [],.slice 0 [],(.slice 3 [.int .i64 11,.int .i64 0,.int .i64 0,.str [],.int .i64 0,.int .i64 2,.int .i64 0,.int .i64 0,.str [],.int .i64 0,.int .i64 1,.int .i64 1,.int .i64 1,.str [],.int .i64 0]),(.slice 1 [.str [118],(.slice 1 [.int .i64 2,.int .i64 0,.int .i64 0,.str [],.int .i64 1])]),.bool false,.slice 0 []])),(.d (.slice 0 [])),(.d (.slice 0 [])),(.d (.slice 0 [])),(.d (.slice 0 [])),(.d (.slice 0 [])),(.d (.slice 0 []))]
theorem w46:call A 300 46 [cW] [] an=some (.d (.bool true),[]):=by kernel_rfl
theorem bJ3:call A 300 115 [cW,.d (.int .i64 0)] [] an=some (.d (.slice 2 [.int .i64 1,.int .i64 2]),[]):=by kernel_rfl
theorem bJ4:call A 300 115 [cW,.d (.int .i64 1)] [] an=some (.d (.slice 1 [.int .i64 2]),[]):=by kernel_rfl
theorem w71:call A 300 71 [cW,.d (.str [116])] [] an=some (.d (.int .i64 0),[]):=by kernel_rfl
def esW:List DW:=[⟨46,[cW],.d (.bool true)⟩,⟨115,[cW,.d (.int .i64 0)],.d (.slice 2 [.int .i64 1,.int .i64 2])⟩,⟨115,[cW,.d (.int .i64 1)],.d (.slice 1 [.int .i64 2])⟩,⟨71,[cW,.d (.str [116])],.d (.int .i64 0)⟩]
def aw5:∀ e,e ∈ esW->call A 300 e.f e.args [] an=some (e.res,[]):=by
 intro e he;simp only [esW,B8,List.not_mem_nil,or_false] at he
 rcases he with rfl|rfl|rfl|rfl
 .exact w46
 .exact bJ3
 .exact bJ4
 .exact w71
theorem w19:call (memo A esW) 300 19 [] [] an=some (.d (.bool true),[]):=by kernel_rfl
def bD1:Pf A 19 [] (.d (.bool true)):=Pf.aH8 aw5 w19 (by omega)
end Go.Proofs.YtibjocmpkoepoaaGreat


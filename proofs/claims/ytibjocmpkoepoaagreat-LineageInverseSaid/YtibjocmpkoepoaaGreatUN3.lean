import Derived.Test.YtibjocmpkoepoaaGreatUAbs
set_option linter.all false
namespace Go.Proofs.YtibjocmpkoepoaaGreat
open Go.x9
def cW:c8:= .agg [(.d (.slice 1 [.str [116],(.slice 2 [.str [107],.int .i64 1,.str [],.str [],.slice 0 [],.int .i64 0,.int .i64 0,.str [118],.int .i64 2,.str [],.str [],.slice 0 [],.int .i64 0,.int .i64 0]),.int .i64 0,.int .i64 0])),(.d (.slice 1 [.str [120],.int .i64 0,.str [116],.str [],.slice 0 [],(.slice 3 [.int .i64 11,.int .i64 0,.int .i64 0,.str [],.int .i64 0,.int .i64 2,.int .i64 0,.int .i64 0,.str [],.int .i64 0,.int .i64 1,.int .i64 1,.int .i64 1,.str [],.int .i64 0]),(.slice 1 [.str [118],(.slice 1 [.int .i64 2,.int .i64 0,.int .i64 0,.str [],.int .i64 1])]),.bool false,.slice 0 []])),(.d (.slice 0 [])),(.d (.slice 0 [])),(.d (.slice 0 [])),(.d (.slice 0 [])),(.d (.slice 0 [])),(.d (.slice 0 []))]
theorem w46:call A 300 46 [cW] [] S8=some (.d (.bool true),[]):=by kernel_rfl
theorem bq0:call A 300 115 [cW,.d (.int .i64 0)] [] S8=some (.d (.slice 2 [.int .i64 1,.int .i64 2]),[]):=by kernel_rfl
theorem bq1:call A 300 115 [cW,.d (.int .i64 1)] [] S8=some (.d (.slice 1 [.int .i64 2]),[]):=by kernel_rfl
theorem w71:call A 300 71 [cW,.d (.str [116])] [] S8=some (.d (.int .i64 0),[]):=by kernel_rfl
def esW:List yP:=[⟨46,[cW],.d (.bool true)⟩,⟨115,[cW,.d (.int .i64 0)],.d (.slice 2 [.int .i64 1,.int .i64 2])⟩,⟨115,[cW,.d (.int .i64 1)],.d (.slice 1 [.int .i64 2])⟩,⟨71,[cW,.d (.str [116])],.d (.int .i64 0)⟩]
def ai7:∀ e,e ∈ esW->call A 300 e.f e.args [] S8=some (e.res,[]):=by
 intro e he;simp only [esW,List.mem_cons,List.not_mem_nil,or_false] at he
 rcases he with rfl|rfl|rfl|rfl
 .exact w46
 .exact bq0
 .exact bq1
 .exact w71
theorem w19:call (memo A esW) 300 19 [] [] S8=some (.d (.bool true),[]):=by kernel_rfl
def aI5:Pf A 19 [] (.d (.bool true)):=Pf.at9 ai7 w19 (by omega)
end Go.Proofs.YtibjocmpkoepoaaGreat

import Derived.Test.YtibjocmpkoepoaaGreatFn0
import Derived.Test.YtibjocmpkoepoaaGreatB6
set_option linter.all false
namespace Go.Proofs.YtibjocmpkoepoaaGreat
open Go.Abs
def xC:FuncId->Option s8
 |5=>some a5
 |12=>some a12
 |13=>some a13
 |14=>some a14
 |16=>some a16
 |17=>some a17
 |19=>some a19
 |20=>some a20
 |21=>some a21
 |22=>some a22
 |23=>some a23
 |24=>some a24
 |25=>some a25
 |38=>some a38
 |39=>some a39
 |40=>some a40
 |41=>some a41
 |42=>some a42
 |43=>some a43
 |46=>some a46
 |47=>some a47
 |52=>some a52
 |53=>some a53
 |54=>some a54
 |56=>some a56
 |57=>some a57
 |58=>some a58
 |59=>some a59
 |60=>some a60
 |61=>some a61
 |71=>some a71
 |82=>some a82
 |83=>some a83
 |86=>some a86
 |93=>some a93
 |94=>some a94
 |95=>some a95
 |96=>some a96
 |97=>some a97
 |101=>some a101
 |102=>some a102
 |103=>some a103
 |104=>some a104
 |105=>some a105
 |110=>some a110
 |111=>some a111
 |112=>some a112
 |113=>some a113
 |114=>some a114
 |115=>some a115
 |116=>some a116
 |118=>some a118
 |125=>some a125
 |136=>some a136
 |139=>some a139
 |140=>some a140
 |141=>some a141
 |142=>some a142
 |143=>some a143
 |144=>some a144
 |145=>some a145
 |149=>some a149
 |150=>some a150
 |157=>some a157
 |159=>some a159
 |160=>some a160
 |161=>some a161
 |162=>some a162
 |164=>some a164
 |165=>some a165
 |166=>some a166
 |167=>some a167
 |169=>some a169
 |170=>some a170
 |171=>some a171
 |173=>some a173
 |196=>some a196
 |197=>some a197
 |198=>some a198
 |199=>some a199
 |200=>some a200
 |201=>some a201
 |202=>some a202
 |203=>some a203
 |207=>some a207
 |209=>some a209
 |210=>some a210
 |211=>some a211
 |212=>some a212
 |213=>some a213
 |214=>some a214
 |215=>some a215
 |216=>some a216
 |217=>some a217
 |218=>some a218
 |219=>some a219
 |220=>some a220
 |221=>some a221
 |224=>some a224
 |225=>some a225
 |228=>some a228
 |229=>some a229
 |230=>some a230
 |231=>some a231
 |244=>some a244
 |245=>some a245
 |246=>some a246
 |247=>some a247
 |248=>some a248
 |249=>some a249
 |250=>some a250
 |251=>some a251
 |252=>some a252
 |253=>some a253
 |254=>some a254
 |255=>some a255
 |256=>some a256
 |257=>some a257
 |258=>some a258
 |259=>some a259
 |260=>some a260
 |262=>some a262
 |272=>some a272
 |276=>some a276
 |277=>some a277
 |278=>some a278
 |281=>some a281
 |283=>some a283
 |288=>some a288
 |289=>some a289
 |290=>some a290
 |291=>some a291
 |292=>some a292
 |303=>some a303
 |_=>none
def fnOf:FuncId->Option s8:=upTo (32 * 11) xC
def modeOf:FuncId->Nat
 |5=>1
 |12=>1
 |16=>1
 |19=>1
 |20=>1
 |24=>1
 |25=>1
 |39=>1
 |40=>1
 |41=>1
 |46=>1
 |52=>1
 |53=>1
 |54=>1
 |59=>1
 |71=>1
 |86=>1
 |95=>1
 |96=>1
 |97=>1
 |101=>1
 |103=>1
 |110=>1
 |111=>1
 |112=>1
 |113=>1
 |114=>1
 |115=>1
 |116=>1
 |125=>1
 |141=>1
 |142=>1
 |143=>1
 |144=>1
 |145=>1
 |162=>1
 |169=>1
 |170=>1
 |171=>1
 |173=>1
 |196=>1
 |197=>1
 |198=>1
 |199=>1
 |200=>1
 |201=>1
 |202=>1
 |203=>1
 |207=>1
 |210=>1
 |211=>1
 |213=>1
 |214=>1
 |215=>1
 |216=>1
 |217=>1
 |218=>1
 |219=>1
 |220=>1
 |224=>1
 |225=>1
 |228=>1
 |229=>1
 |230=>1
 |231=>1
 |244=>1
 |245=>1
 |246=>1
 |247=>1
 |248=>1
 |249=>1
 |250=>1
 |251=>1
 |252=>1
 |253=>1
 |254=>1
 |255=>1
 |257=>1
 |258=>1
 |259=>1
 |260=>1
 |262=>1
 |272=>1
 |276=>1
 |277=>1
 |278=>1
 |281=>1
 |283=>1
 |288=>1
 |289=>1
 |290=>1
 |291=>1
 |292=>1
 |303=>1
 |279=>1
 |226=>1
 |63=>1
 |62=>1
 |42=>2
 |_=>0
def idleOf:FuncId->Bool
 |45=>true
 |55=>true
 |64=>true
 |100=>true
 |124=>true
 |158=>true
 |172=>true
 |261=>true
 |280=>true
 |282=>true
 |_=>false
def A:Go.Abs.Prog:=⟨fnOf,idleOf,modeOf,fun f=>if f=279 then some Df else if f=263 then some Dg else if f=134 then some uW else if f=226 then some (uX 2) else if f=63 then some yc else if f=62 then some ak7 else if f=163 then some (uY 164) else none⟩
def A_idle [D5]:∀ f,A.idle f=true->Idle Tryz.prog f:=by
 intro f h;simp only [A] at h;unfold idleOf at h;split at h
 .exact aa Tryz.func45 i45
 .exact aa Tryz.func55 i55
 .exact aa Tryz.func64 i64
 .exact aa Tryz.func100 i100
 .exact aa Tryz.func124 i124
 .exact aa Tryz.func158 i158
 .exact aa Tryz.func172 i172
 .exact aa Tryz.func261 i261
 .exact aa Tryz.func280 i280
 .exact aa Tryz.func282 i282
 .cases h
def b0:gK Tryz.prog xC 0=true:=by kernel_rfl
def b1:gK Tryz.prog xC 1=true:=by kernel_rfl
def b2:gK Tryz.prog xC 2=true:=by kernel_rfl
def b3:gK Tryz.prog xC 3=true:=by kernel_rfl
def b4:gK Tryz.prog xC 4=true:=by kernel_rfl
def b5:gK Tryz.prog xC 5=true:=by kernel_rfl
def b6:gK Tryz.prog xC 6=true:=by kernel_rfl
def b7:gK Tryz.prog xC 7=true:=by kernel_rfl
def b8:gK Tryz.prog xC 8=true:=by kernel_rfl
def b9:gK Tryz.prog xC 9=true:=by kernel_rfl
def b10:gK Tryz.prog xC 10=true:=by kernel_rfl
def A_fn:∀ f af,A.fn f=some af->∃ fn,Tryz.prog.funcs[f]? =some fn/\jl Tryz.prog fn af=true:=YX fun
 |0,_=>b0
 |1,_=>b1
 |2,_=>b2
 |3,_=>b3
 |4,_=>b4
 |5,_=>b5
 |6,_=>b6
 |7,_=>b7
 |8,_=>b8
 |9,_=>b9
 |10,_=>b10
def A_ok [D5] (hp:∀ f p,A.eF f=some p->di Tryz.prog A.prom f p):qW Tryz.prog A:=⟨A_idle,hp,fun f af _ h=>A_fn f af h⟩
end Go.Proofs.YtibjocmpkoepoaaGreat


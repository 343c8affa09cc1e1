import Derived.Test.YtibjocmpkoepoaaGreatUFn0
import Derived.Test.YtibjocmpkoepoaaGreatUB6
set_option linter.all false
namespace Go.Proofs.YtibjocmpkoepoaaGreat
open Go.x9
def xT:FuncId->Option s6
 |4=>some a4
 |6=>some a6
 |12=>some a12
 |13=>some a13
 |14=>some a14
 |16=>some a16
 |17=>some a17
 |19=>some a19
 |20=>some a20
 |21=>some a21
 |22=>some a22
 |23=>some a23
 |24=>some a24
 |26=>some a26
 |38=>some a38
 |39=>some a39
 |40=>some a40
 |41=>some a41
 |42=>some a42
 |43=>some a43
 |46=>some a46
 |47=>some a47
 |52=>some a52
 |53=>some a53
 |54=>some a54
 |56=>some a56
 |57=>some a57
 |58=>some a58
 |59=>some a59
 |60=>some a60
 |61=>some a61
 |71=>some a71
 |82=>some a82
 |83=>some a83
 |86=>some a86
 |93=>some a93
 |94=>some a94
 |95=>some a95
 |96=>some a96
 |97=>some a97
 |101=>some aS6
 |102=>some aS7
 |103=>some aS8
 |104=>some aS9
 |105=>some a105
 |110=>some aT0
 |111=>some aT1
 |112=>some aT2
 |113=>some aT3
 |114=>some aT4
 |115=>some aT5
 |116=>some a116
 |118=>some aT6
 |125=>some aT7
 |136=>some aT8
 |139=>some a139
 |140=>some aT9
 |141=>some a141
 |142=>some aU0
 |143=>some a143
 |144=>some aU1
 |145=>some a145
 |149=>some aU2
 |150=>some aU3
 |157=>some a157
 |159=>some a159
 |160=>some a160
 |161=>some aU4
 |162=>some a162
 |164=>some a164
 |165=>some aU5
 |166=>some aU6
 |167=>some a167
 |169=>some aU7
 |170=>some aU8
 |171=>some a171
 |173=>some a173
 |196=>some a196
 |197=>some aU9
 |198=>some a198
 |199=>some aV0
 |200=>some aV1
 |201=>some a201
 |202=>some aV2
 |203=>some a203
 |207=>some aV3
 |209=>some aV4
 |210=>some a210
 |211=>some aV5
 |212=>some a212
 |213=>some a213
 |214=>some aV6
 |215=>some aV7
 |216=>some aV8
 |217=>some aV9
 |218=>some a218
 |219=>some aW0
 |220=>some aW1
 |221=>some aW2
 |224=>some aW3
 |225=>some ah5
 |228=>some a228
 |229=>some a229
 |230=>some aW4
 |231=>some aW5
 |244=>some aW6
 |245=>some aW7
 |246=>some aW8
 |247=>some aW9
 |248=>some aX0
 |249=>some aX1
 |250=>some aX2
 |251=>some aX3
 |252=>some aX4
 |253=>some aX5
 |254=>some aX6
 |255=>some aX7
 |256=>some aX8
 |257=>some aX9
 |258=>some aY0
 |259=>some aY1
 |260=>some aY2
 |262=>some aY3
 |272=>some aY4
 |276=>some aY5
 |277=>some aY6
 |278=>some aY7
 |281=>some aY8
 |283=>some aY9
 |288=>some aZ0
 |289=>some aZ1
 |290=>some aZ2
 |291=>some aZ3
 |292=>some aZ4
 |303=>some aZ5
 |_=>none
def az5:FuncId->Option s6:=upTo (32 * 11) xT
def Um:FuncId->Nat
 |4=>1
 |6=>1
 |12=>1
 |16=>1
 |19=>1
 |20=>1
 |24=>1
 |26=>1
 |39=>1
 |40=>1
 |41=>1
 |46=>1
 |52=>1
 |53=>1
 |54=>1
 |59=>1
 |71=>1
 |86=>1
 |95=>1
 |96=>1
 |97=>1
 |101=>1
 |103=>1
 |110=>1
 |111=>1
 |112=>1
 |113=>1
 |114=>1
 |115=>1
 |116=>1
 |125=>1
 |141=>1
 |142=>1
 |143=>1
 |144=>1
 |145=>1
 |162=>1
 |169=>1
 |170=>1
 |171=>1
 |173=>1
 |196=>1
 |197=>1
 |198=>1
 |199=>1
 |200=>1
 |201=>1
 |202=>1
 |203=>1
 |207=>1
 |210=>1
 |211=>1
 |213=>1
 |214=>1
 |215=>1
 |216=>1
 |217=>1
 |218=>1
 |219=>1
 |220=>1
 |224=>1
 |225=>1
 |228=>1
 |229=>1
 |230=>1
 |231=>1
 |244=>1
 |245=>1
 |246=>1
 |247=>1
 |248=>1
 |249=>1
 |250=>1
 |251=>1
 |252=>1
 |253=>1
 |254=>1
 |255=>1
 |257=>1
 |258=>1
 |259=>1
 |260=>1
 |262=>1
 |272=>1
 |276=>1
 |277=>1
 |278=>1
 |281=>1
 |283=>1
 |288=>1
 |289=>1
 |290=>1
 |291=>1
 |292=>1
 |303=>1
 |279=>1
 |226=>1
 |63=>1
 |62=>1
 |42=>2
 |_=>0
def Mc:FuncId->Bool
 |45=>true
 |55=>true
 |64=>true
 |100=>true
 |124=>true
 |158=>true
 |172=>true
 |261=>true
 |280=>true
 |282=>true
 |_=>false
def A:Go.x9.Prog:=⟨az5,Mc,Um,fun f=>if f=279 then some Dt else if f=263 then some Du else if f=134 then some vj else if f=226 then some (vq 2) else if f=63 then some yw else if f=62 then some YR else if f=163 then some (vt 164) else if f=59 then some pCl else none⟩
def Si [D9]:∀ f,A.idle f=true->Idle Tryz.prog f:=by
 intro f h;simp only [A] at h;unfold Mc at h;split at h
 .exact Z4 Tryz.func45 i45
 .exact Z4 Tryz.func55 i55
 .exact Z4 Tryz.func64 i64
 .exact Z4 Tryz.func100 i100
 .exact Z4 Tryz.func124 i124
 .exact Z4 Tryz.func158 i158
 .exact Z4 Tryz.func172 i172
 .exact Z4 Tryz.func261 i261
 .exact Z4 Tryz.func280 i280
 .exact Z4 Tryz.func282 i282
 .cases h
def b0:gI Tryz.prog xT 0=true:=by kernel_rfl
def b1:gI Tryz.prog xT 1=true:=by kernel_rfl
def b2:gI Tryz.prog xT 2=true:=by kernel_rfl
def b3:gI Tryz.prog xT 3=true:=by kernel_rfl
def b4:gI Tryz.prog xT 4=true:=by kernel_rfl
def b5:gI Tryz.prog xT 5=true:=by kernel_rfl
def b6:gI Tryz.prog xT 6=true:=by kernel_rfl
def b7:gI Tryz.prog xT 7=true:=by kernel_rfl
def b8:gI Tryz.prog xT 8=true:=by kernel_rfl
def b9:gI Tryz.prog xT 9=true:=by kernel_rfl
def b10:gI Tryz.prog xT 10=true:=by kernel_rfl
def ay1:∀ f af,A.fn f=some af->∃ fn,Tryz.prog.funcs[f]? =some fn/\gT Tryz.prog fn af=true:=ZH fun
 |0,_=>b0
 |1,_=>b1
 |2,_=>b2
 |3,_=>b3
 |4,_=>b4
 |5,_=>b5
 |6,_=>b6
 |7,_=>b7
 |8,_=>b8
 |9,_=>b9
 |10,_=>b10
def aS3 [D9] (hp:∀ f p,A.cw f=some p->bp Tryz.prog A.prom f p):nA Tryz.prog A:=⟨Si,hp,fun f af _ h=>ay1 f af h⟩
end Go.Proofs.YtibjocmpkoepoaaGreat


import Derived.Test.YtibjocmpkoepoaaGreatFn0
import Derived.Test.YtibjocmpkoepoaaGreatFn1
import Derived.Test.YtibjocmpkoepoaaGreatB6
set_option linter.all false
open List renaming length→O
open Option renaming some→J,none→K
open Bool renaming true→W,false→F
namespace Go.Proofs.YtibjocmpkoepoaaGreat
open Go.A5
def zH:FuncId->Option r7
 |7=>J a7
 |12=>J a12
 |13=>J a13
 |14=>J a14
 |20=>J a20
 |22=>J a22
 |23=>J a23
 |27=>J a27
 |28=>J a28
 |29=>J a29
 |30=>J a30
 |38=>J a38
 |39=>J a39
 |40=>J a40
 |41=>J a41
 |42=>J a42
 |43=>J a43
 |46=>J a46
 |47=>J a47
 |53=>J a53
 |54=>J a54
 |56=>J a56
 |57=>J a57
 |61=>J a61
 |65=>J a65
 |66=>J a66
 |67=>J a67
 |69=>J a69
 |70=>J a70
 |71=>J a71
 |72=>J a72
 |73=>J a73
 |74=>J a74
 |75=>J a75
 |76=>J a76
 |82=>J a82
 |83=>J a83
 |86=>J a86
 |93=>J a93
 |94=>J a94
 |95=>J a95
 |96=>J a96
 |97=>J a97
 |101=>J aU9
 |102=>J aV0
 |103=>J aV1
 |104=>J aV2
 |105=>J a105
 |106=>J aV3
 |110=>J aV4
 |111=>J aV5
 |112=>J aV6
 |113=>J aV7
 |114=>J aV8
 |115=>J aV9
 |118=>J aW0
 |119=>J a119
 |120=>J az6
 |121=>J aW1
 |122=>J aW2
 |123=>J ny
 |125=>J aW3
 |126=>J aW4
 |127=>J a127
 |128=>J aW5
 |129=>J aW6
 |135=>J aW7
 |136=>J aW8
 |139=>J a139
 |140=>J aW9
 |141=>J a141
 |142=>J aX0
 |143=>J a143
 |144=>J aX1
 |145=>J a145
 |146=>J a146
 |149=>J aX2
 |150=>J aX3
 |151=>J aX4
 |152=>J a152
 |153=>J aX5
 |154=>J a154
 |155=>J aX6
 |156=>J a156
 |157=>J a157
 |159=>J a159
 |160=>J a160
 |161=>J aX7
 |162=>J a162
 |164=>J a164
 |165=>J aX8
 |166=>J aX9
 |167=>J a167
 |169=>J aY0
 |170=>J aY1
 |171=>J a171
 |173=>J a173
 |175=>J a175
 |176=>J aY2
 |177=>J aY3
 |178=>J aY4
 |179=>J aY5
 |180=>J aY6
 |181=>J aY7
 |182=>J a182
 |183=>J a183
 |184=>J aY8
 |185=>J aY9
 |196=>J a196
 |197=>J aZ0
 |198=>J a198
 |199=>J aZ1
 |200=>J aZ2
 |201=>J a201
 |202=>J aZ3
 |203=>J a203
 |204=>J aZ4
 |205=>J aZ5
 |206=>J a206
 |207=>J aZ6
 |208=>J a208
 |209=>J aZ7
 |210=>J a210
 |211=>J aZ8
 |212=>J a212
 |213=>J a213
 |214=>J aZ9
 |215=>J ba0
 |216=>J ba1
 |217=>J ba2
 |218=>J a218
 |219=>J ba3
 |220=>J ba4
 |221=>J ba5
 |222=>J a222
 |223=>J ba6
 |224=>J ba7
 |225=>J aj3
 |228=>J a228
 |229=>J a229
 |230=>J ba8
 |231=>J ba9
 |232=>J a232
 |233=>J a233
 |234=>J a234
 |235=>J bb0
 |236=>J a236
 |237=>J bb1
 |238=>J bb2
 |244=>J bb3
 |245=>J bb4
 |246=>J bb5
 |247=>J bb6
 |248=>J bb7
 |249=>J bb8
 |250=>J bb9
 |251=>J bc0
 |252=>J bc1
 |253=>J bc2
 |254=>J bc3
 |255=>J bc4
 |256=>J bc5
 |257=>J bc6
 |258=>J bc7
 |259=>J bc8
 |260=>J bc9
 |262=>J bd0
 |272=>J bd1
 |273=>J bd2
 |274=>J bd3
 |276=>J bd4
 |277=>J bd5
 |278=>J bd6
 |281=>J bd7
 |283=>J bd8
 |288=>J bd9
 |289=>J be0
 |290=>J be1
 |291=>J be2
 |292=>J be3
 |303=>J be4
 |_=>K
def aB4:FuncId->Option r7:=upTo (32 * 11) zH
def Ve:FuncId->Nat
 |7=>1
 |12=>1
 |20=>1
 |27=>1
 |28=>1
 |30=>1
 |39=>1
 |40=>1
 |41=>1
 |46=>1
 |53=>1
 |54=>1
 |67=>1
 |71=>1
 |75=>1
 |76=>1
 |86=>1
 |95=>1
 |96=>1
 |97=>1
 |101=>1
 |103=>1
 |106=>1
 |110=>1
 |111=>1
 |112=>1
 |113=>1
 |114=>1
 |115=>1
 |119=>1
 |121=>1
 |122=>1
 |123=>1
 |125=>1
 |126=>1
 |128=>1
 |129=>1
 |135=>1
 |141=>1
 |142=>1
 |143=>1
 |144=>1
 |145=>1
 |146=>1
 |162=>1
 |169=>1
 |170=>1
 |171=>1
 |173=>1
 |177=>1
 |178=>1
 |179=>1
 |180=>1
 |181=>1
 |182=>1
 |183=>1
 |184=>1
 |185=>1
 |196=>1
 |197=>1
 |198=>1
 |199=>1
 |200=>1
 |201=>1
 |202=>1
 |203=>1
 |204=>1
 |205=>1
 |206=>1
 |207=>1
 |208=>1
 |210=>1
 |211=>1
 |213=>1
 |214=>1
 |215=>1
 |216=>1
 |217=>1
 |218=>1
 |219=>1
 |220=>1
 |222=>1
 |223=>1
 |224=>1
 |225=>1
 |228=>1
 |229=>1
 |230=>1
 |231=>1
 |233=>1
 |234=>1
 |235=>1
 |236=>1
 |237=>1
 |238=>1
 |244=>1
 |245=>1
 |246=>1
 |247=>1
 |248=>1
 |249=>1
 |250=>1
 |251=>1
 |252=>1
 |253=>1
 |254=>1
 |255=>1
 |257=>1
 |258=>1
 |259=>1
 |260=>1
 |262=>1
 |272=>1
 |273=>1
 |274=>1
 |276=>1
 |277=>1
 |278=>1
 |281=>1
 |283=>1
 |288=>1
 |289=>1
 |290=>1
 |291=>1
 |292=>1
 |303=>1
 |279=>1
 |226=>1
 |63=>1
 |42=>2
 |_=>0
def Ni:FuncId->Bool
 |64=>W
 |68=>W
 |100=>W
 |124=>W
 |158=>W
 |172=>W
 |261=>W
 |280=>W
 |282=>W
 |_=>F
def A:Go.A5.Prog:=⟨aB4,Ni,Ve,λf=>if f=279 then J EV else if f=263 then J EW else if f=134 then J wM else if f=226 then J (wN 2) else if f=63 then J Ak else if f=163 then J (wP 164) else K⟩
def Tx [E3]:∀f,A.idle f=W->Idle Tryz.prog f:=by
 intro f h;simp only [A] at h;unfold Ni at h;split at h
 .exact bO Tryz.func64 i64
 .exact bO Tryz.func68 i68
 .exact bO Tryz.func100 i100
 .exact bO Tryz.func124 i124
 .exact bO Tryz.func158 i158
 .exact bO Tryz.func172 i172
 .exact bO Tryz.func261 i261
 .exact bO Tryz.func280 i280
 .exact bO Tryz.func282 i282
 .cases h
theorem b0:iO Tryz.prog zH 0=W:=by kernel_rfl
theorem b1:iO Tryz.prog zH 1=W:=by kernel_rfl
theorem b2:iO Tryz.prog zH 2=W:=by kernel_rfl
theorem b3:iO Tryz.prog zH 3=W:=by kernel_rfl
theorem b4:iO Tryz.prog zH 4=W:=by kernel_rfl
theorem b5:iO Tryz.prog zH 5=W:=by kernel_rfl
theorem b6:iO Tryz.prog zH 6=W:=by kernel_rfl
theorem b7:iO Tryz.prog zH 7=W:=by kernel_rfl
theorem b8:iO Tryz.prog zH 8=W:=by kernel_rfl
theorem b9:iO Tryz.prog zH 9=W:=by kernel_rfl
theorem b10:iO Tryz.prog zH 10=W:=by kernel_rfl
def az0:∀f af,A.fn f=J af->∃fn,Tryz.prog.funcs[f]? =J fn/\kF Tryz.prog fn af=W:=aa0 fun
 |0,_=>b0
 |1,_=>b1
 |2,_=>b2
 |3,_=>b3
 |4,_=>b4
 |5,_=>b5
 |6,_=>b6
 |7,_=>b7
 |8,_=>b8
 |9,_=>b9
 |10,_=>b10
def aU6 [E3] (hp:∀f p,A.dR f=J p->fS Tryz.prog A.prom f p):sJ Tryz.prog A:=⟨Tx,hp,λf af _ h=>az0 f af h⟩
end Go.Proofs.YtibjocmpkoepoaaGreat


import Derived.Test.YtibjocmpkoepoaaGreatFn0
import Derived.Test.YtibjocmpkoepoaaGreatFn1
import Derived.Test.YtibjocmpkoepoaaGreatB6
set_option linter.all false
open List renaming length→O
open Option renaming some→J,none→K
open Bool renaming true→W,false→F
namespace Go.Proofs.YtibjocmpkoepoaaGreat
open Go.A1
def By:FuncId->Option q9
 |8=>J a8
 |12=>J a12
 |13=>J a13
 |14=>J a14
 |15=>J Lg
 |16=>J a16
 |17=>J a17
 |18=>J a18
 |19=>J a19
 |20=>J a20
 |21=>J a21
 |22=>J a22
 |23=>J a23
 |24=>J a24
 |25=>J a25
 |31=>J a31
 |38=>J a38
 |39=>J a39
 |40=>J a40
 |41=>J a41
 |42=>J a42
 |43=>J a43
 |44=>J a44
 |46=>J a46
 |47=>J a47
 |48=>J a48
 |49=>J a49
 |50=>J a50
 |51=>J a51
 |52=>J a52
 |53=>J a53
 |54=>J a54
 |56=>J a56
 |57=>J a57
 |58=>J a58
 |59=>J a59
 |60=>J a60
 |61=>J a61
 |71=>J a71
 |77=>J a77
 |78=>J a78
 |79=>J a79
 |80=>J a80
 |81=>J a81
 |82=>J a82
 |83=>J a83
 |86=>J a86
 |93=>J a93
 |94=>J a94
 |95=>J a95
 |96=>J a96
 |97=>J a97
 |98=>J a98
 |99=>J a99
 |101=>J bJ0
 |102=>J bJ1
 |103=>J bJ2
 |104=>J bJ3
 |105=>J a105
 |106=>J bJ4
 |107=>J a107
 |108=>J bJ5
 |109=>J a109
 |110=>J bJ6
 |111=>J bJ7
 |112=>J bJ8
 |113=>J bJ9
 |114=>J bK0
 |115=>J bK1
 |116=>J a116
 |118=>J bK2
 |125=>J bK3
 |130=>J a130
 |131=>J a131
 |132=>J bK4
 |135=>J bK5
 |136=>J bK6
 |139=>J a139
 |140=>J bK7
 |141=>J a141
 |142=>J bK8
 |143=>J a143
 |144=>J bK9
 |145=>J a145
 |146=>J a146
 |147=>J bL0
 |148=>J a148
 |149=>J bL1
 |150=>J bL2
 |151=>J bL3
 |152=>J a152
 |153=>J bL4
 |154=>J a154
 |155=>J bL5
 |156=>J a156
 |157=>J a157
 |159=>J a159
 |160=>J a160
 |161=>J bL6
 |162=>J a162
 |164=>J a164
 |165=>J bL7
 |166=>J bL8
 |167=>J a167
 |168=>J a168
 |169=>J bL9
 |170=>J bM0
 |171=>J a171
 |173=>J a173
 |196=>J a196
 |197=>J bM1
 |198=>J a198
 |199=>J bM2
 |200=>J bM3
 |201=>J a201
 |202=>J bM4
 |203=>J a203
 |204=>J bM5
 |205=>J bM6
 |206=>J a206
 |207=>J bM7
 |208=>J a208
 |209=>J bM8
 |210=>J a210
 |211=>J bM9
 |212=>J a212
 |213=>J a213
 |214=>J bN0
 |215=>J bN1
 |216=>J bN2
 |217=>J bN3
 |218=>J a218
 |219=>J bN4
 |220=>J bN5
 |221=>J bN6
 |222=>J a222
 |223=>J bN7
 |224=>J bN8
 |225=>J aR0
 |228=>J a228
 |229=>J a229
 |230=>J bN9
 |231=>J bO0
 |244=>J bO1
 |245=>J bO2
 |246=>J bO3
 |247=>J bO4
 |248=>J bO5
 |249=>J bO6
 |250=>J bO7
 |251=>J bO8
 |252=>J bO9
 |253=>J bP0
 |254=>J bP1
 |255=>J bP2
 |256=>J bP3
 |257=>J bP4
 |258=>J bP5
 |259=>J bP6
 |260=>J bP7
 |262=>J bP8
 |272=>J bP9
 |276=>J bQ0
 |277=>J bQ1
 |278=>J bQ2
 |281=>J bQ3
 |283=>J bQ4
 |288=>J bQ5
 |289=>J bQ6
 |290=>J bQ7
 |291=>J bQ8
 |292=>J bQ9
 |303=>J bR0
 |_=>K
def bl2:FuncId->Option q9:=upTo (32 * 11) By
def aa1:FuncId->Nat
 |8=>1
 |12=>1
 |16=>1
 |18=>1
 |19=>1
 |20=>1
 |24=>1
 |25=>1
 |31=>1
 |39=>1
 |40=>1
 |41=>1
 |46=>1
 |48=>1
 |49=>1
 |50=>1
 |51=>1
 |52=>1
 |53=>1
 |54=>1
 |59=>1
 |71=>1
 |77=>1
 |78=>1
 |79=>1
 |81=>1
 |86=>1
 |95=>1
 |96=>1
 |97=>1
 |101=>1
 |103=>1
 |106=>1
 |107=>1
 |108=>1
 |109=>1
 |110=>1
 |111=>1
 |112=>1
 |113=>1
 |114=>1
 |115=>1
 |116=>1
 |125=>1
 |130=>1
 |131=>1
 |132=>1
 |135=>1
 |141=>1
 |142=>1
 |143=>1
 |144=>1
 |145=>1
 |146=>1
 |162=>1
 |168=>1
 |169=>1
 |170=>1
 |171=>1
 |173=>1
 |196=>1
 |197=>1
 |198=>1
 |199=>1
 |200=>1
 |201=>1
 |202=>1
 |203=>1
 |204=>1
 |205=>1
 |206=>1
 |207=>1
 |208=>1
 |210=>1
 |211=>1
 |213=>1
 |214=>1
 |215=>1
 |216=>1
 |217=>1
 |218=>1
 |219=>1
 |220=>1
 |222=>1
 |223=>1
 |224=>1
 |225=>1
 |228=>1
 |229=>1
 |230=>1
 |231=>1
 |244=>1
 |245=>1
 |246=>1
 |247=>1
 |248=>1
 |249=>1
 |250=>1
 |251=>1
 |252=>1
 |253=>1
 |254=>1
 |255=>1
 |257=>1
 |258=>1
 |259=>1
 |260=>1
 |262=>1
 |272=>1
 |276=>1
 |277=>1
 |278=>1
 |281=>1
 |283=>1
 |288=>1
 |289=>1
 |290=>1
 |291=>1
 |292=>1
 |303=>1
 |279=>1
 |226=>1
 |63=>1
 |62=>1
 |42=>2
 |_=>0
def QI:FuncId->Bool
 |45=>W
 |55=>W
 |64=>W
 |100=>W
 |124=>W
 |133=>W
 |158=>W
 |172=>W
 |261=>W
 |280=>W
 |282=>W
 |_=>F
def A:Go.A1.Prog:=⟨bl2,QI,aa1,λf=>if f=279 then J Hu else if f=263 then J Hv else if f=134 then J ze else if f=226 then J (zf 2) else if f=63 then J BW else if f=62 then J aB6 else if f=163 then J (zg 164) else if f=59 then J pCl else K⟩
def Yc [E5]:∀f,A.idle f=W->Idle Tryz.prog f:=by
 intro f h;simp only [A] at h;unfold QI at h;split at h
 .exact aq Tryz.func45 i45
 .exact aq Tryz.func55 i55
 .exact aq Tryz.func64 i64
 .exact aq Tryz.func100 i100
 .exact aq Tryz.func124 i124
 .exact aq Tryz.func133 i133
 .exact aq Tryz.func158 i158
 .exact aq Tryz.func172 i172
 .exact aq Tryz.func261 i261
 .exact aq Tryz.func280 i280
 .exact aq Tryz.func282 i282
 .cases h
theorem b0:jF Tryz.prog By 0=W:=by kernel_rfl
theorem b1:jF Tryz.prog By 1=W:=by kernel_rfl
theorem b2:jF Tryz.prog By 2=W:=by kernel_rfl
theorem b3:jF Tryz.prog By 3=W:=by kernel_rfl
theorem b4:jF Tryz.prog By 4=W:=by kernel_rfl
theorem b5:jF Tryz.prog By 5=W:=by kernel_rfl
theorem b6:jF Tryz.prog By 6=W:=by kernel_rfl
theorem b7:jF Tryz.prog By 7=W:=by kernel_rfl
theorem b8:jF Tryz.prog By 8=W:=by kernel_rfl
theorem b9:jF Tryz.prog By 9=W:=by kernel_rfl
theorem b10:jF Tryz.prog By 10=W:=by kernel_rfl
def bj5:∀f af,A.fn f=J af->∃fn,Tryz.prog.funcs[f]? =J fn/\jX Tryz.prog fn af=W:=aG3 fun
 |0,_=>b0
 |1,_=>b1
 |2,_=>b2
 |3,_=>b3
 |4,_=>b4
 |5,_=>b5
 |6,_=>b6
 |7,_=>b7
 |8,_=>b8
 |9,_=>b9
 |10,_=>b10
def bI6 [E5] (hp:∀f p,A.cM f=J p->cL Tryz.prog A.prom f p):qH Tryz.prog A:=⟨Yc,hp,λf af _ h=>bj5 f af h⟩
end Go.Proofs.YtibjocmpkoepoaaGreat


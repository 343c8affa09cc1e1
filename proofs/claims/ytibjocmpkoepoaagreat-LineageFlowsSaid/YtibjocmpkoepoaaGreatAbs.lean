import Derived.Test.YtibjocmpkoepoaaGreatFn0
import Derived.Test.YtibjocmpkoepoaaGreatFn1
import Derived.Test.YtibjocmpkoepoaaGreatB6
set_option linter.all false
namespace Go.Proofs.YtibjocmpkoepoaaGreat
open Go.A2
def zw:FuncId->Option q9
 |3=>some a3
 |12=>some a12
 |13=>some a13
 |14=>some a14
 |15=>some Iz
 |16=>some a16
 |17=>some a17
 |18=>some a18
 |19=>some a19
 |20=>some a20
 |21=>some a21
 |22=>some a22
 |38=>some a38
 |39=>some a39
 |40=>some a40
 |41=>some a41
 |42=>some a42
 |43=>some a43
 |44=>some a44
 |46=>some a46
 |47=>some a47
 |48=>some a48
 |49=>some a49
 |50=>some a50
 |51=>some a51
 |52=>some a52
 |53=>some a53
 |54=>some a54
 |56=>some a56
 |57=>some a57
 |58=>some a58
 |59=>some a59
 |60=>some a60
 |61=>some a61
 |71=>some a71
 |82=>some a82
 |83=>some a83
 |86=>some a86
 |93=>some a93
 |94=>some a94
 |95=>some a95
 |96=>some a96
 |97=>some a97
 |98=>some a98
 |99=>some a99
 |101=>some bj7
 |102=>some bj8
 |103=>some bj9
 |104=>some bk0
 |105=>some a105
 |106=>some bk1
 |107=>some a107
 |108=>some bk2
 |109=>some a109
 |110=>some bk3
 |111=>some bk4
 |112=>some bk5
 |113=>some bk6
 |114=>some bk7
 |115=>some bk8
 |116=>some a116
 |118=>some bk9
 |125=>some bl0
 |135=>some bl1
 |136=>some bl2
 |139=>some a139
 |140=>some bl3
 |141=>some a141
 |142=>some bl4
 |143=>some a143
 |144=>some bl5
 |145=>some a145
 |146=>some a146
 |147=>some bl6
 |148=>some a148
 |149=>some bl7
 |150=>some bl8
 |151=>some bl9
 |152=>some a152
 |153=>some bm0
 |154=>some a154
 |155=>some bm1
 |156=>some a156
 |157=>some a157
 |159=>some a159
 |160=>some a160
 |161=>some bm2
 |162=>some a162
 |164=>some a164
 |165=>some bm3
 |166=>some bm4
 |167=>some a167
 |168=>some a168
 |169=>some bm5
 |170=>some bm6
 |171=>some a171
 |173=>some a173
 |196=>some a196
 |197=>some bm7
 |198=>some a198
 |199=>some bm8
 |200=>some bm9
 |201=>some a201
 |202=>some bn0
 |203=>some a203
 |204=>some bn1
 |205=>some bn2
 |206=>some a206
 |207=>some bn3
 |208=>some a208
 |209=>some bn4
 |210=>some a210
 |211=>some bn5
 |212=>some a212
 |213=>some a213
 |214=>some bn6
 |215=>some bn7
 |216=>some bn8
 |217=>some bn9
 |218=>some a218
 |219=>some bo0
 |220=>some bo1
 |221=>some bo2
 |222=>some a222
 |223=>some bo3
 |224=>some bo4
 |225=>some av1
 |228=>some a228
 |229=>some a229
 |230=>some bo5
 |231=>some bo6
 |244=>some bo7
 |245=>some bo8
 |246=>some bo9
 |247=>some bp0
 |248=>some bp1
 |249=>some bp2
 |250=>some bp3
 |251=>some bp4
 |252=>some bp5
 |253=>some bp6
 |254=>some bp7
 |255=>some bp8
 |256=>some bp9
 |257=>some bq0
 |258=>some bq1
 |259=>some bq2
 |260=>some bq3
 |262=>some bq4
 |272=>some bq5
 |276=>some bq6
 |277=>some bq7
 |278=>some bq8
 |281=>some bq9
 |283=>some br0
 |288=>some br1
 |289=>some br2
 |290=>some br3
 |291=>some br4
 |292=>some br5
 |303=>some br6
 |_=>none
def aO8:FuncId->Option q9:=upTo (32 * 11) zw
def Wu:FuncId->Nat
 |3=>1
 |12=>1
 |16=>1
 |18=>1
 |19=>1
 |20=>1
 |39=>1
 |40=>1
 |41=>1
 |46=>1
 |48=>1
 |49=>1
 |50=>1
 |51=>1
 |52=>1
 |53=>1
 |54=>1
 |59=>1
 |71=>1
 |86=>1
 |95=>1
 |96=>1
 |97=>1
 |101=>1
 |103=>1
 |106=>1
 |107=>1
 |108=>1
 |109=>1
 |110=>1
 |111=>1
 |112=>1
 |113=>1
 |114=>1
 |115=>1
 |116=>1
 |125=>1
 |135=>1
 |141=>1
 |142=>1
 |143=>1
 |144=>1
 |145=>1
 |146=>1
 |162=>1
 |168=>1
 |169=>1
 |170=>1
 |171=>1
 |173=>1
 |196=>1
 |197=>1
 |198=>1
 |199=>1
 |200=>1
 |201=>1
 |202=>1
 |203=>1
 |204=>1
 |205=>1
 |206=>1
 |207=>1
 |208=>1
 |210=>1
 |211=>1
 |213=>1
 |214=>1
 |215=>1
 |216=>1
 |217=>1
 |218=>1
 |219=>1
 |220=>1
 |222=>1
 |223=>1
 |224=>1
 |225=>1
 |228=>1
 |229=>1
 |230=>1
 |231=>1
 |244=>1
 |245=>1
 |246=>1
 |247=>1
 |248=>1
 |249=>1
 |250=>1
 |251=>1
 |252=>1
 |253=>1
 |254=>1
 |255=>1
 |257=>1
 |258=>1
 |259=>1
 |260=>1
 |262=>1
 |272=>1
 |276=>1
 |277=>1
 |278=>1
 |281=>1
 |283=>1
 |288=>1
 |289=>1
 |290=>1
 |291=>1
 |292=>1
 |303=>1
 |279=>1
 |226=>1
 |63=>1
 |62=>1
 |42=>2
 |_=>0
def NC:FuncId->Bool
 |45=>true
 |55=>true
 |100=>true
 |124=>true
 |158=>true
 |172=>true
 |261=>true
 |280=>true
 |282=>true
 |_=>false
def A:Go.A2.Prog:=⟨aO8,NC,Wu,fun f=>if f=279 then some EH else if f=263 then some EI else if f=134 then some wZ else if f=226 then some (xb 2) else if f=63 then some Hl else if f=62 then some aD7 else if f=163 then some (xe 164) else if f=59 then some pCl else none⟩
def UE [C9]:∀ f,A.idle f=true->Idle Tryz.prog f:=by
 intro f h;simp only [A] at h;unfold NC at h;split at h
 .exact bB Tryz.func45 i45
 .exact bB Tryz.func55 i55
 .exact bB Tryz.func100 i100
 .exact bB Tryz.func124 i124
 .exact bB Tryz.func158 i158
 .exact bB Tryz.func172 i172
 .exact bB Tryz.func261 i261
 .exact bB Tryz.func280 i280
 .exact bB Tryz.func282 i282
 .cases h
theorem b0:iQ Tryz.prog zw 0=true:=by kernel_rfl
theorem b1:iQ Tryz.prog zw 1=true:=by kernel_rfl
theorem b2:iQ Tryz.prog zw 2=true:=by kernel_rfl
theorem b3:iQ Tryz.prog zw 3=true:=by kernel_rfl
theorem b4:iQ Tryz.prog zw 4=true:=by kernel_rfl
theorem b5:iQ Tryz.prog zw 5=true:=by kernel_rfl
theorem b6:iQ Tryz.prog zw 6=true:=by kernel_rfl
theorem b7:iQ Tryz.prog zw 7=true:=by kernel_rfl
theorem b8:iQ Tryz.prog zw 8=true:=by kernel_rfl
theorem b9:iQ Tryz.prog zw 9=true:=by kernel_rfl
theorem b10:iQ Tryz.prog zw 10=true:=by kernel_rfl
def aN0:∀ f af,A.fn f=some af->∃ fn,Tryz.prog.funcs[f]? =some fn/\jl Tryz.prog fn af=true:=ak6 fun
 |0,_=>b0
 |1,_=>b1
 |2,_=>b2
 |3,_=>b3
 |4,_=>b4
 |5,_=>b5
 |6,_=>b6
 |7,_=>b7
 |8,_=>b8
 |9,_=>b9
 |10,_=>b10
def bj3 [C9] (hp:∀ f p,A.fP f=some p->bU Tryz.prog A.prom f p):oS Tryz.prog A:=⟨UE,hp,fun f af _ h=>aN0 f af h⟩
end Go.Proofs.YtibjocmpkoepoaaGreat


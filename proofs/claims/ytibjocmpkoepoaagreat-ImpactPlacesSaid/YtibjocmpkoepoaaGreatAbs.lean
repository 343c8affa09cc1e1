import Derived.Test.YtibjocmpkoepoaaGreatFn0
import Derived.Test.YtibjocmpkoepoaaGreatFn1
import Derived.Test.YtibjocmpkoepoaaGreatB6
set_option linter.all false
open List renaming length→O
open Option renaming some→J,none→K
open Bool renaming true→W,false→F
namespace Go.Proofs.YtibjocmpkoepoaaGreat
open Go.B3
def AB:FuncId->Option q6
 |10=>J a10
 |12=>J a12
 |13=>J a13
 |14=>J a14
 |20=>J a20
 |22=>J a22
 |23=>J a23
 |27=>J a27
 |28=>J a28
 |29=>J a29
 |35=>J a35
 |36=>J a36
 |38=>J a38
 |39=>J a39
 |40=>J a40
 |41=>J a41
 |42=>J a42
 |43=>J a43
 |46=>J a46
 |47=>J a47
 |53=>J a53
 |54=>J a54
 |56=>J a56
 |57=>J a57
 |61=>J a61
 |65=>J a65
 |66=>J a66
 |67=>J a67
 |69=>J a69
 |70=>J a70
 |71=>J a71
 |72=>J a72
 |73=>J a73
 |74=>J a74
 |75=>J a75
 |76=>J a76
 |82=>J a82
 |83=>J a83
 |86=>J a86
 |87=>J a87
 |90=>J a90
 |91=>J a91
 |92=>J a92
 |93=>J a93
 |94=>J a94
 |95=>J a95
 |96=>J a96
 |97=>J a97
 |101=>J br8
 |102=>J br9
 |103=>J bs0
 |104=>J bs1
 |105=>J a105
 |106=>J bs2
 |110=>J bs3
 |111=>J bs4
 |112=>J bs5
 |113=>J bs6
 |114=>J bs7
 |115=>J bs8
 |118=>J bs9
 |119=>J a119
 |120=>J aW1
 |121=>J bt0
 |122=>J bt1
 |123=>J om
 |125=>J bt2
 |126=>J bt3
 |127=>J a127
 |128=>J bt4
 |129=>J bt5
 |135=>J bt6
 |136=>J bt7
 |139=>J a139
 |140=>J bt8
 |141=>J a141
 |142=>J bt9
 |143=>J a143
 |144=>J bu0
 |145=>J a145
 |146=>J a146
 |149=>J bu1
 |150=>J bu2
 |151=>J bu3
 |152=>J a152
 |153=>J bu4
 |154=>J a154
 |155=>J bu5
 |156=>J a156
 |157=>J a157
 |159=>J a159
 |160=>J a160
 |161=>J bu6
 |162=>J a162
 |164=>J a164
 |165=>J bu7
 |166=>J bu8
 |167=>J a167
 |169=>J bu9
 |170=>J bv0
 |171=>J a171
 |173=>J a173
 |175=>J a175
 |176=>J bv1
 |177=>J bv2
 |178=>J bv3
 |179=>J bv4
 |180=>J bv5
 |181=>J bv6
 |182=>J a182
 |183=>J a183
 |184=>J bv7
 |185=>J bv8
 |196=>J a196
 |197=>J bv9
 |198=>J a198
 |199=>J bw0
 |200=>J bw1
 |201=>J a201
 |202=>J bw2
 |203=>J a203
 |204=>J bw3
 |205=>J bw4
 |206=>J a206
 |207=>J bw5
 |208=>J a208
 |209=>J bw6
 |210=>J a210
 |211=>J bw7
 |212=>J a212
 |213=>J a213
 |214=>J bw8
 |215=>J bw9
 |216=>J bx0
 |217=>J bx1
 |218=>J a218
 |219=>J bx2
 |220=>J bx3
 |221=>J bx4
 |222=>J a222
 |223=>J bx5
 |224=>J bx6
 |225=>J bx7
 |228=>J a228
 |229=>J a229
 |230=>J bx8
 |231=>J bx9
 |232=>J a232
 |233=>J a233
 |234=>J a234
 |235=>J by0
 |236=>J a236
 |237=>J by1
 |238=>J by2
 |244=>J by3
 |245=>J by4
 |246=>J by5
 |247=>J by6
 |248=>J by7
 |249=>J by8
 |250=>J by9
 |251=>J bz0
 |252=>J bz1
 |253=>J bz2
 |254=>J bz3
 |255=>J bz4
 |256=>J bz5
 |257=>J bz6
 |258=>J bz7
 |259=>J bz8
 |260=>J bz9
 |262=>J bA0
 |272=>J bA1
 |273=>J bA2
 |274=>J bA3
 |276=>J bA4
 |277=>J bA5
 |278=>J bA6
 |281=>J bA7
 |283=>J bA8
 |288=>J bA9
 |289=>J bB0
 |290=>J bB1
 |291=>J bB2
 |292=>J bB3
 |303=>J bB4
 |_=>K
def aX4:FuncId->Option q6:=upTo (32 * 11) AB
def Yp:FuncId->Nat
 |10=>1
 |12=>1
 |20=>1
 |27=>1
 |28=>1
 |36=>1
 |39=>1
 |40=>1
 |41=>1
 |46=>1
 |53=>1
 |54=>1
 |67=>1
 |71=>1
 |75=>1
 |76=>1
 |86=>1
 |87=>1
 |92=>1
 |95=>1
 |96=>1
 |97=>1
 |101=>1
 |103=>1
 |106=>1
 |110=>1
 |111=>1
 |112=>1
 |113=>1
 |114=>1
 |115=>1
 |119=>1
 |121=>1
 |122=>1
 |123=>1
 |125=>1
 |126=>1
 |128=>1
 |129=>1
 |135=>1
 |141=>1
 |142=>1
 |143=>1
 |144=>1
 |145=>1
 |146=>1
 |162=>1
 |169=>1
 |170=>1
 |171=>1
 |173=>1
 |177=>1
 |178=>1
 |179=>1
 |180=>1
 |181=>1
 |182=>1
 |183=>1
 |184=>1
 |185=>1
 |196=>1
 |197=>1
 |198=>1
 |199=>1
 |200=>1
 |201=>1
 |202=>1
 |203=>1
 |204=>1
 |205=>1
 |206=>1
 |207=>1
 |208=>1
 |210=>1
 |211=>1
 |213=>1
 |214=>1
 |215=>1
 |216=>1
 |217=>1
 |218=>1
 |219=>1
 |220=>1
 |222=>1
 |223=>1
 |224=>1
 |225=>1
 |228=>1
 |229=>1
 |230=>1
 |231=>1
 |233=>1
 |234=>1
 |235=>1
 |236=>1
 |237=>1
 |238=>1
 |244=>1
 |245=>1
 |246=>1
 |247=>1
 |248=>1
 |249=>1
 |250=>1
 |251=>1
 |252=>1
 |253=>1
 |254=>1
 |255=>1
 |257=>1
 |258=>1
 |259=>1
 |260=>1
 |262=>1
 |272=>1
 |273=>1
 |274=>1
 |276=>1
 |277=>1
 |278=>1
 |281=>1
 |283=>1
 |288=>1
 |289=>1
 |290=>1
 |291=>1
 |292=>1
 |303=>1
 |279=>1
 |226=>1
 |63=>1
 |62=>1
 |59=>1
 |42=>2
 |_=>0
def Pp:FuncId->Bool
 |64=>W
 |68=>W
 |88=>W
 |100=>W
 |124=>W
 |158=>W
 |172=>W
 |261=>W
 |280=>W
 |282=>W
 |_=>F
def A:Go.B3.Prog:=⟨aX4,Pp,Yp,λf=>if f=279 then J Gk else if f=263 then J RO else if f=134 then J xN else if f=226 then J (Ja 2) else if f=63 then J Jb else if f=62 then J aN4 else if f=163 then J (Jc 164) else if f=89 then J (De 90) else if f=59 then J pCl else K⟩
def Wx [E0]:∀f,A.idle f=W->Idle Tryz.prog f:=by
 intro f h;simp only [A] at h;unfold Pp at h;split at h
 .exact bf Tryz.func64 i64
 .exact bf Tryz.func68 i68
 .exact bf Tryz.func88 i88
 .exact bf Tryz.func100 i100
 .exact bf Tryz.func124 i124
 .exact bf Tryz.func158 i158
 .exact bf Tryz.func172 i172
 .exact bf Tryz.func261 i261
 .exact bf Tryz.func280 i280
 .exact bf Tryz.func282 i282
 .cases h
theorem b0:jy Tryz.prog AB 0=W:=by kernel_rfl
theorem b1:jy Tryz.prog AB 1=W:=by kernel_rfl
theorem b2:jy Tryz.prog AB 2=W:=by kernel_rfl
theorem b3:jy Tryz.prog AB 3=W:=by kernel_rfl
theorem b4:jy Tryz.prog AB 4=W:=by kernel_rfl
theorem b5:jy Tryz.prog AB 5=W:=by kernel_rfl
theorem b6:jy Tryz.prog AB 6=W:=by kernel_rfl
theorem b7:jy Tryz.prog AB 7=W:=by kernel_rfl
theorem b8:jy Tryz.prog AB 8=W:=by kernel_rfl
theorem b9:jy Tryz.prog AB 9=W:=by kernel_rfl
theorem b10:jy Tryz.prog AB 10=W:=by kernel_rfl
def aV6:∀f af,A.fn f=J af->∃fn,Tryz.prog.funcs[f]? =J fn/\jU Tryz.prog fn af=W:=aw3 fun
 |0,_=>b0
 |1,_=>b1
 |2,_=>b2
 |3,_=>b3
 |4,_=>b4
 |5,_=>b5
 |6,_=>b6
 |7,_=>b7
 |8,_=>b8
 |9,_=>b9
 |10,_=>b10
def br4 [E0] (hp:∀f p,A.gQ f=J p->bu Tryz.prog A.prom f p):qg Tryz.prog A:=⟨Wx,hp,λf af _ h=>aV6 f af h⟩
end Go.Proofs.YtibjocmpkoepoaaGreat


import Derived.Test.YtibjocmpkoepoaaGreatUFn0
import Derived.Test.YtibjocmpkoepoaaGreatUFn1
import Derived.Test.YtibjocmpkoepoaaGreatUB6
set_option linter.all false
open List renaming length→O
open Option renaming some→J,none→K
open Bool renaming true→W,false→F
namespace Go.Proofs.YtibjocmpkoepoaaGreat
open Go.y9
def tu:FuncId->Option p6
 |11=>J a11
 |12=>J a12
 |13=>J a13
 |14=>J XR
 |20=>J a20
 |22=>J a22
 |23=>J a23
 |27=>J a27
 |28=>J a28
 |29=>J a29
 |35=>J a35
 |37=>J a37
 |38=>J a38
 |39=>J a39
 |40=>J a40
 |41=>J a41
 |42=>J a42
 |43=>J a43
 |46=>J a46
 |47=>J a47
 |53=>J a53
 |54=>J a54
 |56=>J a56
 |57=>J a57
 |61=>J a61
 |65=>J a65
 |66=>J a66
 |67=>J a67
 |69=>J a69
 |70=>J a70
 |71=>J a71
 |72=>J a72
 |73=>J a73
 |74=>J a74
 |75=>J a75
 |76=>J a76
 |82=>J a82
 |83=>J a83
 |86=>J a86
 |90=>J a90
 |91=>J a91
 |93=>J a93
 |94=>J a94
 |95=>J a95
 |96=>J a96
 |97=>J a97
 |101=>J YF
 |102=>J YG
 |103=>J YH
 |104=>J YI
 |105=>J a105
 |106=>J YJ
 |110=>J YK
 |111=>J YL
 |112=>J YM
 |113=>J YN
 |114=>J YO
 |115=>J YP
 |118=>J YQ
 |119=>J a119
 |120=>J UA
 |121=>J YR
 |122=>J YS
 |123=>J iS
 |125=>J YT
 |126=>J YU
 |127=>J a127
 |128=>J YV
 |129=>J YW
 |135=>J YX
 |136=>J YY
 |139=>J a139
 |140=>J YZ
 |141=>J a141
 |142=>J Za
 |143=>J a143
 |144=>J Zb
 |145=>J a145
 |146=>J a146
 |149=>J Zc
 |150=>J Zd
 |151=>J Ze
 |152=>J a152
 |153=>J Zf
 |154=>J a154
 |155=>J Zg
 |156=>J a156
 |157=>J a157
 |159=>J a159
 |160=>J a160
 |161=>J Zh
 |162=>J a162
 |164=>J a164
 |165=>J Zi
 |166=>J Zj
 |167=>J a167
 |169=>J Zk
 |170=>J Zl
 |171=>J a171
 |173=>J a173
 |175=>J a175
 |176=>J Zm
 |177=>J Zn
 |178=>J Zo
 |179=>J Zp
 |180=>J Zq
 |181=>J Zr
 |182=>J a182
 |183=>J a183
 |184=>J Zs
 |185=>J Zt
 |196=>J a196
 |197=>J Zu
 |198=>J a198
 |199=>J Zv
 |200=>J Zw
 |201=>J a201
 |202=>J Zx
 |203=>J a203
 |204=>J Zy
 |205=>J Zz
 |206=>J a206
 |207=>J ZA
 |208=>J a208
 |209=>J ZB
 |210=>J a210
 |211=>J ZC
 |212=>J a212
 |213=>J a213
 |214=>J ZD
 |215=>J ZE
 |216=>J ZF
 |217=>J ZG
 |218=>J a218
 |219=>J ZH
 |220=>J ZI
 |221=>J ZJ
 |222=>J a222
 |223=>J ZK
 |224=>J ZL
 |225=>J Rq
 |228=>J a228
 |229=>J a229
 |230=>J ZM
 |231=>J ZN
 |232=>J a232
 |233=>J a233
 |234=>J a234
 |235=>J ZO
 |236=>J a236
 |237=>J ZP
 |238=>J ZQ
 |244=>J ZR
 |245=>J ZS
 |246=>J ZT
 |247=>J ZU
 |248=>J ZV
 |249=>J ZW
 |250=>J ZX
 |251=>J ZY
 |252=>J ZZ
 |253=>J aa0
 |254=>J aa1
 |255=>J aa2
 |256=>J aa3
 |257=>J aa4
 |258=>J aa5
 |259=>J aa6
 |260=>J aa7
 |262=>J aa8
 |272=>J aa9
 |273=>J ab0
 |274=>J ab1
 |276=>J ab2
 |277=>J ab3
 |278=>J ab4
 |281=>J ab5
 |283=>J ab6
 |288=>J ab7
 |289=>J ab8
 |290=>J ab9
 |291=>J ac0
 |292=>J ac3
 |303=>J ac4
 |_=>K
def UT:FuncId->Option p6:=upTo (32 * 11) tu
def LD:FuncId->Nat
 |11=>1
 |12=>1
 |20=>1
 |27=>1
 |28=>1
 |37=>1
 |39=>1
 |40=>1
 |41=>1
 |46=>1
 |53=>1
 |54=>1
 |67=>1
 |71=>1
 |75=>1
 |76=>1
 |86=>1
 |95=>1
 |96=>1
 |97=>1
 |101=>1
 |103=>1
 |106=>1
 |110=>1
 |111=>1
 |112=>1
 |113=>1
 |114=>1
 |115=>1
 |119=>1
 |121=>1
 |122=>1
 |123=>1
 |125=>1
 |126=>1
 |128=>1
 |129=>1
 |135=>1
 |141=>1
 |142=>1
 |143=>1
 |144=>1
 |145=>1
 |146=>1
 |162=>1
 |169=>1
 |170=>1
 |171=>1
 |173=>1
 |177=>1
 |178=>1
 |179=>1
 |180=>1
 |181=>1
 |182=>1
 |183=>1
 |184=>1
 |185=>1
 |196=>1
 |197=>1
 |198=>1
 |199=>1
 |200=>1
 |201=>1
 |202=>1
 |203=>1
 |204=>1
 |205=>1
 |206=>1
 |207=>1
 |208=>1
 |210=>1
 |211=>1
 |213=>1
 |214=>1
 |215=>1
 |216=>1
 |217=>1
 |218=>1
 |219=>1
 |220=>1
 |222=>1
 |223=>1
 |224=>1
 |225=>1
 |228=>1
 |229=>1
 |230=>1
 |231=>1
 |233=>1
 |234=>1
 |235=>1
 |236=>1
 |237=>1
 |238=>1
 |244=>1
 |245=>1
 |246=>1
 |247=>1
 |248=>1
 |249=>1
 |250=>1
 |251=>1
 |252=>1
 |253=>1
 |254=>1
 |255=>1
 |257=>1
 |258=>1
 |259=>1
 |260=>1
 |262=>1
 |272=>1
 |273=>1
 |274=>1
 |276=>1
 |277=>1
 |278=>1
 |281=>1
 |283=>1
 |288=>1
 |289=>1
 |290=>1
 |291=>1
 |292=>1
 |303=>1
 |279=>1
 |226=>1
 |63=>1
 |42=>2
 |_=>0
def Fg:FuncId->Bool
 |64=>W
 |68=>W
 |88=>W
 |100=>W
 |124=>W
 |158=>W
 |172=>W
 |261=>W
 |280=>W
 |282=>W
 |_=>F
def A:Go.y9.Prog:=⟨UT,Fg,LD,λf=>if f=279 then J zf else if f=263 then J zg else if f=134 then J qO else if f=226 then J (qP 2) else if f=63 then J ua else if f=163 then J (qR 164) else if f=89 then J (vX 90) else K⟩
def JJ [D2]:∀f,A.idle f=W->Idle Tryz.prog f:=by
 intro f h;simp only [A] at h;unfold Fg at h;split at h
 .exact V4 Tryz.func64 i64
 .exact V4 Tryz.func68 i68
 .exact V4 Tryz.func88 i88
 .exact V4 Tryz.func100 i100
 .exact V4 Tryz.func124 i124
 .exact V4 Tryz.func158 i158
 .exact V4 Tryz.func172 i172
 .exact V4 Tryz.func261 i261
 .exact V4 Tryz.func280 i280
 .exact V4 Tryz.func282 i282
 .cases h
theorem b0:eE Tryz.prog tu 0=W:=by kernel_rfl
theorem b1:eE Tryz.prog tu 1=W:=by kernel_rfl
theorem b2:eE Tryz.prog tu 2=W:=by kernel_rfl
theorem b3:eE Tryz.prog tu 3=W:=by kernel_rfl
theorem b4:eE Tryz.prog tu 4=W:=by kernel_rfl
theorem b5:eE Tryz.prog tu 5=W:=by kernel_rfl
theorem b6:eE Tryz.prog tu 6=W:=by kernel_rfl
theorem b7:eE Tryz.prog tu 7=W:=by kernel_rfl
theorem b8:eE Tryz.prog tu 8=W:=by kernel_rfl
theorem b9:eE Tryz.prog tu 9=W:=by kernel_rfl
theorem b10:eE Tryz.prog tu 10=W:=by kernel_rfl
def Uu:∀f af,A.fn f=J af->∃fn,Tryz.prog.funcs[f]? =J fn/\gd Tryz.prog fn af=W:=PK fun
 |0,_=>b0
 |1,_=>b1
 |2,_=>b2
 |3,_=>b3
 |4,_=>b4
 |5,_=>b5
 |6,_=>b6
 |7,_=>b7
 |8,_=>b8
 |9,_=>b9
 |10,_=>b10
def YC [D2] (hp:∀f p,A.aB f=J p->aD Tryz.prog A.prom f p):mQ Tryz.prog A:=⟨JJ,hp,λf af _ h=>Uu f af h⟩
end Go.Proofs.YtibjocmpkoepoaaGreat


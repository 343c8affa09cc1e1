/- The program of the abstract machine: its functions are the program's. (made short by a program) -/
import Derived.Test.YtkmclibmmlgogaaGreatFn0
import Derived.Test.YtkmclibmmlgogaaGreatFn1
import Derived.Test.YtkmclibmmlgogaaGreatFn2
import Derived.Test.YtkmclibmmlgogaaGreatFn3
import Derived.Test.YtkmclibmmlgogaaGreatFn4
import Derived.Test.YtkmclibmmlgogaaGreatB6
set_option linter.unusedVariables false
set_option linter.unusedSimpArgs false
namespace Go.Proofs.YtkmclibmmlgogaaGreat
open Go.z7
def Yt:FuncId->Option q6
 |7=>some a7
 |10=>some a10
 |11=>some a11
 |12=>some a12
 |13=>some a13
 |14=>some a14
 |15=>some a15
 |16=>some a16
 |17=>some a17
 |19=>some a19
 |20=>some a20
 |22=>some a22
 |23=>some a23
 |25=>some a25
 |26=>some a26
 |27=>some a27
 |29=>some a29
 |30=>some a30
 |31=>some a31
 |32=>some a32
 |33=>some a33
 |34=>some a34
 |35=>some a35
 |36=>some a36
 |38=>some a38
 |45=>some a45
 |47=>some a47
 |48=>some a48
 |49=>some a49
 |51=>some a51
 |52=>some a52
 |53=>some a53
 |54=>some a54
 |55=>some a55
 |56=>some a56
 |57=>some a57
 |58=>some a58
 |61=>some a61
 |63=>some a63
 |64=>some a64
 |65=>some a65
 |66=>some a66
 |67=>some a67
 |68=>some a68
 |69=>some a69
 |70=>some a70
 |71=>some a71
 |72=>some a72
 |73=>some a73
 |74=>some a74
 |75=>some a75
 |76=>some a76
 |77=>some a77
 |78=>some a78
 |81=>some a81
 |82=>some a82
 |84=>some a84
 |85=>some a85
 |86=>some a86
 |87=>some a87
 |88=>some a88
 |89=>some a89
 |90=>some a90
 |93=>some a93
 |94=>some a94
 |95=>some a95
 |96=>some a96
 |97=>some a97
 |98=>some a98
 |99=>some a99
 |100=>some Xq
 |101=>some Xr
 |102=>some Xs
 |103=>some Xt
 |104=>some Xu
 |105=>some a105
 |106=>some Xv
 |107=>some a107
 |108=>some Xw
 |109=>some a109
 |110=>some Xx
 |111=>some Xy
 |112=>some Xz
 |113=>some XA
 |114=>some XB
 |115=>some XC
 |116=>some a116
 |117=>some a117
 |118=>some XD
 |119=>some a119
 |120=>some XE
 |121=>some XF
 |122=>some XG
 |123=>some XH
 |124=>some a124
 |125=>some XI
 |126=>some XJ
 |127=>some a127
 |141=>some a141
 |142=>some XK
 |143=>some a143
 |144=>some XL
 |145=>some a145
 |146=>some a146
 |147=>some XM
 |148=>some a148
 |149=>some XN
 |150=>some XP
 |151=>some XQ
 |152=>some a152
 |153=>some XR
 |154=>some a154
 |155=>some XS
 |156=>some a156
 |157=>some a157
 |158=>some XT
 |159=>some a159
 |160=>some a160
 |167=>some a167
 |168=>some a168
 |169=>some XU
 |170=>some XV
 |171=>some a171
 |174=>some XW
 |175=>some a175
 |176=>some XX
 |177=>some XY
 |179=>some XZ
 |180=>some Ya
 |181=>some Yb
 |183=>some a183
 |184=>some Yc
 |185=>some Yd
 |186=>some Ye
 |187=>some Yf
 |188=>some Yg
 |189=>some Yh
 |_=>none
def Vi:FuncId->Nat
 |7=>1
 |10=>1
 |11=>1
 |12=>1
 |14=>1
 |15=>1
 |16=>1
 |17=>1
 |19=>1
 |20=>1
 |22=>1
 |25=>1
 |26=>1
 |27=>1
 |29=>1
 |30=>1
 |31=>1
 |34=>1
 |35=>1
 |36=>1
 |38=>1
 |45=>1
 |47=>1
 |48=>1
 |49=>1
 |51=>1
 |52=>1
 |53=>1
 |54=>1
 |55=>1
 |56=>1
 |57=>1
 |58=>1
 |61=>1
 |63=>1
 |64=>1
 |65=>1
 |66=>1
 |67=>1
 |81=>1
 |82=>1
 |84=>1
 |85=>1
 |86=>1
 |87=>1
 |88=>1
 |89=>1
 |90=>1
 |93=>1
 |94=>1
 |95=>1
 |96=>1
 |97=>1
 |98=>1
 |99=>1
 |100=>1
 |101=>1
 |102=>1
 |103=>1
 |104=>1
 |105=>1
 |106=>1
 |107=>1
 |109=>1
 |110=>1
 |112=>1
 |113=>1
 |114=>1
 |115=>1
 |116=>1
 |117=>1
 |118=>1
 |119=>1
 |121=>1
 |122=>1
 |123=>1
 |126=>1
 |127=>1
 |141=>1
 |142=>1
 |143=>1
 |144=>1
 |145=>1
 |146=>1
 |147=>1
 |148=>1
 |149=>1
 |150=>1
 |151=>1
 |152=>1
 |153=>1
 |155=>1
 |156=>1
 |157=>1
 |158=>1
 |167=>1
 |168=>1
 |169=>1
 |170=>1
 |171=>1
 |174=>1
 |175=>1
 |176=>1
 |177=>1
 |179=>1
 |180=>1
 |181=>1
 |183=>1
 |184=>1
 |185=>1
 |186=>1
 |187=>1
 |188=>1
 |189=>1
 |77=>2
 |_=>0
def Nc:FuncId->Bool
 |28=>true
 |37=>true
 |39=>true
 |40=>true
 |41=>true
 |44=>true
 |46=>true
 |60=>true
 |62=>true
 |173=>true
 |182=>true
 |_=>false
def A:Go.z7.Prog:=⟨Yt,Nc,Vi,fun f=>if f=172 then some wX else if f=42 then some wY else if f=43 then some gy else none⟩
theorem Us:∀ f,A.idle f=true->Idle Tryz.prog f:=by
 intro f h;simp only [A] at h;unfold Nc at h;split at h
 ·exact V8 Tryz.func28 i28
 ·exact V8 Tryz.func37 i37
 ·exact V8 Tryz.func39 i39
 ·exact V8 Tryz.func40 i40
 ·exact V8 Tryz.func41 i41
 ·exact V8 Tryz.func44 i44
 ·exact V8 Tryz.func46 i46
 ·exact V8 Tryz.func60 i60
 ·exact V8 Tryz.func62 i62
 ·exact V8 Tryz.func173 i173
 ·exact V8 Tryz.func182 i182
 ·cases h
theorem aj4:∀ f af,A.gB f=none->A.fn f=some af->∃ fn,Tryz.prog.funcs[f]? =some fn/\n6 Tryz.prog fn af=true:=by
 intro f af _ h;simp only [A] at h;unfold Yt at h;split at h
 ·cases h;exact ⟨_,Tryz.func7,c7⟩
 ·cases h;exact ⟨_,Tryz.func10,c10⟩
 ·cases h;exact ⟨_,Tryz.func11,c11⟩
 ·cases h;exact ⟨_,Tryz.func12,c12⟩
 ·cases h;exact ⟨_,Tryz.func13,c13⟩
 ·cases h;exact ⟨_,Tryz.func14,c14⟩
 ·cases h;exact ⟨_,Tryz.func15,c15⟩
 ·cases h;exact ⟨_,Tryz.func16,c16⟩
 ·cases h;exact ⟨_,Tryz.func17,c17⟩
 ·cases h;exact ⟨_,Tryz.func19,c19⟩
 ·cases h;exact ⟨_,Tryz.func20,c20⟩
 ·cases h;exact ⟨_,Tryz.func22,c22⟩
 ·cases h;exact ⟨_,Tryz.func23,c23⟩
 ·cases h;exact ⟨_,Tryz.func25,c25⟩
 ·cases h;exact ⟨_,Tryz.func26,c26⟩
 ·cases h;exact ⟨_,Tryz.func27,c27⟩
 ·cases h;exact ⟨_,Tryz.func29,c29⟩
 ·cases h;exact ⟨_,Tryz.func30,c30⟩
 ·cases h;exact ⟨_,Tryz.func31,c31⟩
 ·cases h;exact ⟨_,Tryz.func32,c32⟩
 ·cases h;exact ⟨_,Tryz.func33,c33⟩
 ·cases h;exact ⟨_,Tryz.func34,c34⟩
 ·cases h;exact ⟨_,Tryz.func35,c35⟩
 ·cases h;exact ⟨_,Tryz.func36,c36⟩
 ·cases h;exact ⟨_,Tryz.func38,c38⟩
 ·cases h;exact ⟨_,Tryz.func45,c45⟩
 ·cases h;exact ⟨_,Tryz.func47,c47⟩
 ·cases h;exact ⟨_,Tryz.func48,c48⟩
 ·cases h;exact ⟨_,Tryz.func49,c49⟩
 ·cases h;exact ⟨_,Tryz.func51,c51⟩
 ·cases h;exact ⟨_,Tryz.func52,c52⟩
 ·cases h;exact ⟨_,Tryz.func53,c53⟩
 ·cases h;exact ⟨_,Tryz.func54,c54⟩
 ·cases h;exact ⟨_,Tryz.func55,c55⟩
 ·cases h;exact ⟨_,Tryz.func56,c56⟩
 ·cases h;exact ⟨_,Tryz.func57,c57⟩
 ·cases h;exact ⟨_,Tryz.func58,c58⟩
 ·cases h;exact ⟨_,Tryz.func61,c61⟩
 ·cases h;exact ⟨_,Tryz.func63,c63⟩
 ·cases h;exact ⟨_,Tryz.func64,c64⟩
 ·cases h;exact ⟨_,Tryz.func65,c65⟩
 ·cases h;exact ⟨_,Tryz.func66,c66⟩
 ·cases h;exact ⟨_,Tryz.func67,c67⟩
 ·cases h;exact ⟨_,Tryz.func68,c68⟩
 ·cases h;exact ⟨_,Tryz.func69,c69⟩
 ·cases h;exact ⟨_,Tryz.func70,c70⟩
 ·cases h;exact ⟨_,Tryz.func71,c71⟩
 ·cases h;exact ⟨_,Tryz.func72,c72⟩
 ·cases h;exact ⟨_,Tryz.func73,c73⟩
 ·cases h;exact ⟨_,Tryz.func74,c74⟩
 ·cases h;exact ⟨_,Tryz.func75,c75⟩
 ·cases h;exact ⟨_,Tryz.func76,c76⟩
 ·cases h;exact ⟨_,Tryz.func77,c77⟩
 ·cases h;exact ⟨_,Tryz.func78,c78⟩
 ·cases h;exact ⟨_,Tryz.func81,c81⟩
 ·cases h;exact ⟨_,Tryz.func82,c82⟩
 ·cases h;exact ⟨_,Tryz.func84,c84⟩
 ·cases h;exact ⟨_,Tryz.func85,c85⟩
 ·cases h;exact ⟨_,Tryz.func86,c86⟩
 ·cases h;exact ⟨_,Tryz.func87,c87⟩
 ·cases h;exact ⟨_,Tryz.func88,c88⟩
 ·cases h;exact ⟨_,Tryz.func89,c89⟩
 ·cases h;exact ⟨_,Tryz.func90,c90⟩
 ·cases h;exact ⟨_,Tryz.func93,c93⟩
 ·cases h;exact ⟨_,Tryz.func94,c94⟩
 ·cases h;exact ⟨_,Tryz.func95,c95⟩
 ·cases h;exact ⟨_,Tryz.func96,c96⟩
 ·cases h;exact ⟨_,Tryz.func97,c97⟩
 ·cases h;exact ⟨_,Tryz.func98,c98⟩
 ·cases h;exact ⟨_,Tryz.func99,c99⟩
 ·cases h;exact ⟨_,Tryz.func100,ak2⟩
 ·cases h;exact ⟨_,Tryz.func101,ak3⟩
 ·cases h;exact ⟨_,Tryz.func102,ak4⟩
 ·cases h;exact ⟨_,Tryz.func103,ak5⟩
 ·cases h;exact ⟨_,Tryz.func104,ak6⟩
 ·cases h;exact ⟨_,Tryz.func105,ak7⟩
 ·cases h;exact ⟨_,Tryz.func106,ak8⟩
 ·cases h;exact ⟨_,Tryz.func107,ak9⟩
 ·cases h;exact ⟨_,Tryz.func108,al0⟩
 ·cases h;exact ⟨_,Tryz.func109,al2⟩
 ·cases h;exact ⟨_,Tryz.func110,al3⟩
 ·cases h;exact ⟨_,Tryz.func111,al4⟩
 ·cases h;exact ⟨_,Tryz.func112,al5⟩
 ·cases h;exact ⟨_,Tryz.func113,al6⟩
 ·cases h;exact ⟨_,Tryz.func114,al7⟩
 ·cases h;exact ⟨_,Tryz.func115,al8⟩
 ·cases h;exact ⟨_,Tryz.func116,al9⟩
 ·cases h;exact ⟨_,Tryz.func117,am0⟩
 ·cases h;exact ⟨_,Tryz.func118,am1⟩
 ·cases h;exact ⟨_,Tryz.func119,am2⟩
 ·cases h;exact ⟨_,Tryz.func120,am3⟩
 ·cases h;exact ⟨_,Tryz.func121,am4⟩
 ·cases h;exact ⟨_,Tryz.func122,am5⟩
 ·cases h;exact ⟨_,Tryz.func123,am6⟩
 ·cases h;exact ⟨_,Tryz.func124,am7⟩
 ·cases h;exact ⟨_,Tryz.func125,am8⟩
 ·cases h;exact ⟨_,Tryz.func126,am9⟩
 ·cases h;exact ⟨_,Tryz.func127,an0⟩
 ·cases h;exact ⟨_,Tryz.func141,an1⟩
 ·cases h;exact ⟨_,Tryz.func142,an2⟩
 ·cases h;exact ⟨_,Tryz.func143,an3⟩
 ·cases h;exact ⟨_,Tryz.func144,an4⟩
 ·cases h;exact ⟨_,Tryz.func145,an5⟩
 ·cases h;exact ⟨_,Tryz.func146,an6⟩
 ·cases h;exact ⟨_,Tryz.func147,an7⟩
 ·cases h;exact ⟨_,Tryz.func148,an8⟩
 ·cases h;exact ⟨_,Tryz.func149,an9⟩
 ·cases h;exact ⟨_,Tryz.func150,ao0⟩
 ·cases h;exact ⟨_,Tryz.func151,ao1⟩
 ·cases h;exact ⟨_,Tryz.func152,ao2⟩
 ·cases h;exact ⟨_,Tryz.func153,ao3⟩
 ·cases h;exact ⟨_,Tryz.func154,ao4⟩
 ·cases h;exact ⟨_,Tryz.func155,ao5⟩
 ·cases h;exact ⟨_,Tryz.func156,ao6⟩
 ·cases h;exact ⟨_,Tryz.func157,ao7⟩
 ·cases h;exact ⟨_,Tryz.func158,ao8⟩
 ·cases h;exact ⟨_,Tryz.func159,ao9⟩
 ·cases h;exact ⟨_,Tryz.func160,ap0⟩
 ·cases h;exact ⟨_,Tryz.func167,ap2⟩
 ·cases h;exact ⟨_,Tryz.func168,ap3⟩
 ·cases h;exact ⟨_,Tryz.func169,ap4⟩
 ·cases h;exact ⟨_,Tryz.func170,ap5⟩
 ·cases h;exact ⟨_,Tryz.func171,ap6⟩
 ·cases h;exact ⟨_,Tryz.func174,ap7⟩
 ·cases h;exact ⟨_,Tryz.func175,ap8⟩
 ·cases h;exact ⟨_,Tryz.func176,ap9⟩
 ·cases h;exact ⟨_,Tryz.func177,aq0⟩
 ·cases h;exact ⟨_,Tryz.func179,aq1⟩
 ·cases h;exact ⟨_,Tryz.func180,aq2⟩
 ·cases h;exact ⟨_,Tryz.func181,aq3⟩
 ·cases h;exact ⟨_,Tryz.func183,aq4⟩
 ·cases h;exact ⟨_,Tryz.func184,aq5⟩
 ·cases h;exact ⟨_,Tryz.func185,aq6⟩
 ·cases h;exact ⟨_,Tryz.func186,aq7⟩
 ·cases h;exact ⟨_,Tryz.func187,aq8⟩
 ·cases h;exact ⟨_,Tryz.func188,aq9⟩
 ·cases h;exact ⟨_,Tryz.func189,ar0⟩
 ·cases h
theorem aj5 (hp:∀ f p,A.gB f=some p->jU Tryz.prog A.prom f p):vq Tryz.prog A:=⟨Us,hp,aj4⟩
end Go.Proofs.YtkmclibmmlgogaaGreat


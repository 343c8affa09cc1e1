/- The program of the abstract machine: its functions are the program's. (made short by a program) -/
import Derived.Test.YtkmclibmmlgogaaGreatGn0
import Derived.Test.YtkmclibmmlgogaaGreatGn1
import Derived.Test.YtkmclibmmlgogaaGreatGn2
import Derived.Test.YtkmclibmmlgogaaGreatGn3
import Derived.Test.YtkmclibmmlgogaaGreatB6
set_option linter.unusedVariables false
set_option linter.unusedSimpArgs false
namespace Go.Proofs.YtkmclibmmlgogaaGreat
open Go.u7
def Xb:FuncId->Option q5
 |4=>some a4
 |5=>some a5
 |10=>some a10
 |11=>some a11
 |12=>some a12
 |13=>some a13
 |14=>some a14
 |15=>some a15
 |16=>some a16
 |17=>some ZT
 |18=>some a18
 |19=>some a19
 |20=>some a20
 |23=>some a23
 |26=>some a26
 |27=>some a27
 |29=>some a29
 |30=>some a30
 |31=>some a31
 |32=>some a32
 |33=>some a33
 |34=>some a34
 |35=>some a35
 |36=>some a36
 |38=>some a38
 |45=>some a45
 |47=>some a47
 |48=>some a48
 |49=>some a49
 |51=>some a51
 |54=>some a54
 |61=>some a61
 |63=>some a63
 |64=>some a64
 |65=>some a65
 |66=>some a66
 |67=>some a67
 |68=>some a68
 |69=>some a69
 |70=>some a70
 |71=>some a71
 |72=>some a72
 |73=>some a73
 |74=>some a74
 |75=>some a75
 |76=>some a76
 |77=>some a77
 |78=>some a78
 |81=>some a81
 |82=>some a82
 |84=>some a84
 |85=>some a85
 |87=>some a87
 |89=>some a89
 |93=>some a93
 |94=>some a94
 |95=>some a95
 |96=>some a96
 |97=>some a97
 |98=>some a98
 |99=>some a99
 |100=>some VZ
 |101=>some Wa
 |102=>some Wb
 |103=>some Wc
 |104=>some Wd
 |105=>some a105
 |106=>some We
 |107=>some a107
 |108=>some Wf
 |109=>some a109
 |110=>some Wg
 |111=>some Wh
 |112=>some Wi
 |113=>some Wj
 |114=>some Wk
 |115=>some Wl
 |116=>some a116
 |117=>some a117
 |118=>some Wm
 |119=>some a119
 |120=>some Wn
 |121=>some Wo
 |122=>some Wp
 |123=>some Wq
 |124=>some a124
 |125=>some Wr
 |126=>some Ws
 |127=>some a127
 |141=>some a141
 |142=>some Wt
 |143=>some a143
 |144=>some Wu
 |145=>some a145
 |146=>some a146
 |147=>some Wv
 |148=>some a148
 |149=>some Ww
 |150=>some Wx
 |151=>some Wy
 |152=>some a152
 |153=>some Wz
 |154=>some a154
 |155=>some WA
 |156=>some a156
 |157=>some a157
 |158=>some WB
 |159=>some a159
 |160=>some a160
 |167=>some a167
 |168=>some a168
 |169=>some WC
 |170=>some WD
 |171=>some a171
 |174=>some WE
 |175=>some a175
 |176=>some WG
 |177=>some WH
 |179=>some WI
 |180=>some WJ
 |181=>some WK
 |183=>some a183
 |184=>some WL
 |185=>some WM
 |186=>some WN
 |187=>some WO
 |188=>some WQ
 |189=>some WR
 |_=>none
def Ua:FuncId->Nat
 |4=>1
 |5=>1
 |10=>1
 |11=>1
 |12=>1
 |14=>1
 |15=>1
 |16=>1
 |17=>1
 |18=>1
 |19=>1
 |20=>1
 |26=>1
 |27=>1
 |29=>1
 |30=>1
 |31=>1
 |34=>1
 |35=>1
 |36=>1
 |38=>1
 |45=>1
 |47=>1
 |48=>1
 |49=>1
 |51=>1
 |54=>1
 |61=>1
 |63=>1
 |64=>1
 |65=>1
 |66=>1
 |67=>1
 |81=>1
 |82=>1
 |84=>1
 |85=>1
 |87=>1
 |89=>1
 |93=>1
 |94=>1
 |95=>1
 |96=>1
 |97=>1
 |98=>1
 |99=>1
 |100=>1
 |101=>1
 |102=>1
 |103=>1
 |104=>1
 |105=>1
 |106=>1
 |107=>1
 |109=>1
 |110=>1
 |112=>1
 |113=>1
 |114=>1
 |115=>1
 |116=>1
 |117=>1
 |118=>1
 |119=>1
 |121=>1
 |122=>1
 |123=>1
 |126=>1
 |127=>1
 |141=>1
 |142=>1
 |143=>1
 |144=>1
 |145=>1
 |146=>1
 |147=>1
 |148=>1
 |149=>1
 |150=>1
 |151=>1
 |152=>1
 |153=>1
 |155=>1
 |156=>1
 |157=>1
 |158=>1
 |167=>1
 |168=>1
 |169=>1
 |170=>1
 |171=>1
 |174=>1
 |175=>1
 |176=>1
 |177=>1
 |179=>1
 |180=>1
 |181=>1
 |183=>1
 |184=>1
 |185=>1
 |186=>1
 |187=>1
 |188=>1
 |189=>1
 |77=>2
 |_=>0
def Mz:FuncId->Bool
 |28=>true
 |37=>true
 |39=>true
 |40=>true
 |41=>true
 |44=>true
 |46=>true
 |62=>true
 |173=>true
 |182=>true
 |_=>false
def A:Go.u7.Prog:=⟨Xb,Mz,Ua,fun f=>if f=172 then some vZ else if f=42 then some we else if f=43 then some fY else none⟩
theorem Tl:∀ f,A.idle f=true->Idle Tryz.prog f:=by
 intro f h;simp only [A] at h;unfold Mz at h;split at h
 ·exact X0 Tryz.func28 i28
 ·exact X0 Tryz.func37 i37
 ·exact X0 Tryz.func39 i39
 ·exact X0 Tryz.func40 i40
 ·exact X0 Tryz.func41 i41
 ·exact X0 Tryz.func44 i44
 ·exact X0 Tryz.func46 i46
 ·exact X0 Tryz.func62 i62
 ·exact X0 Tryz.func173 i173
 ·exact X0 Tryz.func182 i182
 ·cases h
theorem ab6:∀ f af,A.ga f=none->A.fn f=some af->∃ fn,Tryz.prog.funcs[f]? =some fn/\n6 Tryz.prog fn af=true:=by
 intro f af _ h;simp only [A] at h;unfold Xb at h;split at h
 ·cases h;exact ⟨_,Tryz.func4,c4⟩
 ·cases h;exact ⟨_,Tryz.func5,c5⟩
 ·cases h;exact ⟨_,Tryz.func10,c10⟩
 ·cases h;exact ⟨_,Tryz.func11,c11⟩
 ·cases h;exact ⟨_,Tryz.func12,c12⟩
 ·cases h;exact ⟨_,Tryz.func13,c13⟩
 ·cases h;exact ⟨_,Tryz.func14,c14⟩
 ·cases h;exact ⟨_,Tryz.func15,c15⟩
 ·cases h;exact ⟨_,Tryz.func16,c16⟩
 ·cases h;exact ⟨_,Tryz.func17,c17⟩
 ·cases h;exact ⟨_,Tryz.func18,c18⟩
 ·cases h;exact ⟨_,Tryz.func19,c19⟩
 ·cases h;exact ⟨_,Tryz.func20,c20⟩
 ·cases h;exact ⟨_,Tryz.func23,c23⟩
 ·cases h;exact ⟨_,Tryz.func26,c26⟩
 ·cases h;exact ⟨_,Tryz.func27,c27⟩
 ·cases h;exact ⟨_,Tryz.func29,c29⟩
 ·cases h;exact ⟨_,Tryz.func30,c30⟩
 ·cases h;exact ⟨_,Tryz.func31,c31⟩
 ·cases h;exact ⟨_,Tryz.func32,c32⟩
 ·cases h;exact ⟨_,Tryz.func33,c33⟩
 ·cases h;exact ⟨_,Tryz.func34,c34⟩
 ·cases h;exact ⟨_,Tryz.func35,c35⟩
 ·cases h;exact ⟨_,Tryz.func36,c36⟩
 ·cases h;exact ⟨_,Tryz.func38,c38⟩
 ·cases h;exact ⟨_,Tryz.func45,c45⟩
 ·cases h;exact ⟨_,Tryz.func47,c47⟩
 ·cases h;exact ⟨_,Tryz.func48,c48⟩
 ·cases h;exact ⟨_,Tryz.func49,c49⟩
 ·cases h;exact ⟨_,Tryz.func51,c51⟩
 ·cases h;exact ⟨_,Tryz.func54,c54⟩
 ·cases h;exact ⟨_,Tryz.func61,c61⟩
 ·cases h;exact ⟨_,Tryz.func63,c63⟩
 ·cases h;exact ⟨_,Tryz.func64,c64⟩
 ·cases h;exact ⟨_,Tryz.func65,c65⟩
 ·cases h;exact ⟨_,Tryz.func66,c66⟩
 ·cases h;exact ⟨_,Tryz.func67,c67⟩
 ·cases h;exact ⟨_,Tryz.func68,c68⟩
 ·cases h;exact ⟨_,Tryz.func69,c69⟩
 ·cases h;exact ⟨_,Tryz.func70,c70⟩
 ·cases h;exact ⟨_,Tryz.func71,c71⟩
 ·cases h;exact ⟨_,Tryz.func72,c72⟩
 ·cases h;exact ⟨_,Tryz.func73,c73⟩
 ·cases h;exact ⟨_,Tryz.func74,c74⟩
 ·cases h;exact ⟨_,Tryz.func75,c75⟩
 ·cases h;exact ⟨_,Tryz.func76,c76⟩
 ·cases h;exact ⟨_,Tryz.func77,c77⟩
 ·cases h;exact ⟨_,Tryz.func78,c78⟩
 ·cases h;exact ⟨_,Tryz.func81,c81⟩
 ·cases h;exact ⟨_,Tryz.func82,c82⟩
 ·cases h;exact ⟨_,Tryz.func84,c84⟩
 ·cases h;exact ⟨_,Tryz.func85,c85⟩
 ·cases h;exact ⟨_,Tryz.func87,c87⟩
 ·cases h;exact ⟨_,Tryz.func89,c89⟩
 ·cases h;exact ⟨_,Tryz.func93,c93⟩
 ·cases h;exact ⟨_,Tryz.func94,c94⟩
 ·cases h;exact ⟨_,Tryz.func95,c95⟩
 ·cases h;exact ⟨_,Tryz.func96,c96⟩
 ·cases h;exact ⟨_,Tryz.func97,c97⟩
 ·cases h;exact ⟨_,Tryz.func98,c98⟩
 ·cases h;exact ⟨_,Tryz.func99,c99⟩
 ·cases h;exact ⟨_,Tryz.func100,ac3⟩
 ·cases h;exact ⟨_,Tryz.func101,ac4⟩
 ·cases h;exact ⟨_,Tryz.func102,ac5⟩
 ·cases h;exact ⟨_,Tryz.func103,ac6⟩
 ·cases h;exact ⟨_,Tryz.func104,ac7⟩
 ·cases h;exact ⟨_,Tryz.func105,ac8⟩
 ·cases h;exact ⟨_,Tryz.func106,ac9⟩
 ·cases h;exact ⟨_,Tryz.func107,ad0⟩
 ·cases h;exact ⟨_,Tryz.func108,ad1⟩
 ·cases h;exact ⟨_,Tryz.func109,ad2⟩
 ·cases h;exact ⟨_,Tryz.func110,ad3⟩
 ·cases h;exact ⟨_,Tryz.func111,ad4⟩
 ·cases h;exact ⟨_,Tryz.func112,ad5⟩
 ·cases h;exact ⟨_,Tryz.func113,ad6⟩
 ·cases h;exact ⟨_,Tryz.func114,ad7⟩
 ·cases h;exact ⟨_,Tryz.func115,ad8⟩
 ·cases h;exact ⟨_,Tryz.func116,ad9⟩
 ·cases h;exact ⟨_,Tryz.func117,ae0⟩
 ·cases h;exact ⟨_,Tryz.func118,ae1⟩
 ·cases h;exact ⟨_,Tryz.func119,ae2⟩
 ·cases h;exact ⟨_,Tryz.func120,ae3⟩
 ·cases h;exact ⟨_,Tryz.func121,ae4⟩
 ·cases h;exact ⟨_,Tryz.func122,ae5⟩
 ·cases h;exact ⟨_,Tryz.func123,ae6⟩
 ·cases h;exact ⟨_,Tryz.func124,ae7⟩
 ·cases h;exact ⟨_,Tryz.func125,ae8⟩
 ·cases h;exact ⟨_,Tryz.func126,ae9⟩
 ·cases h;exact ⟨_,Tryz.func127,af0⟩
 ·cases h;exact ⟨_,Tryz.func141,af1⟩
 ·cases h;exact ⟨_,Tryz.func142,af2⟩
 ·cases h;exact ⟨_,Tryz.func143,af3⟩
 ·cases h;exact ⟨_,Tryz.func144,af4⟩
 ·cases h;exact ⟨_,Tryz.func145,af5⟩
 ·cases h;exact ⟨_,Tryz.func146,af6⟩
 ·cases h;exact ⟨_,Tryz.func147,af7⟩
 ·cases h;exact ⟨_,Tryz.func148,af8⟩
 ·cases h;exact ⟨_,Tryz.func149,af9⟩
 ·cases h;exact ⟨_,Tryz.func150,ag0⟩
 ·cases h;exact ⟨_,Tryz.func151,ag1⟩
 ·cases h;exact ⟨_,Tryz.func152,ag2⟩
 ·cases h;exact ⟨_,Tryz.func153,ag3⟩
 ·cases h;exact ⟨_,Tryz.func154,ag4⟩
 ·cases h;exact ⟨_,Tryz.func155,ag5⟩
 ·cases h;exact ⟨_,Tryz.func156,ag6⟩
 ·cases h;exact ⟨_,Tryz.func157,ag7⟩
 ·cases h;exact ⟨_,Tryz.func158,ag8⟩
 ·cases h;exact ⟨_,Tryz.func159,ag9⟩
 ·cases h;exact ⟨_,Tryz.func160,ah0⟩
 ·cases h;exact ⟨_,Tryz.func167,ah1⟩
 ·cases h;exact ⟨_,Tryz.func168,ah2⟩
 ·cases h;exact ⟨_,Tryz.func169,ah3⟩
 ·cases h;exact ⟨_,Tryz.func170,ah4⟩
 ·cases h;exact ⟨_,Tryz.func171,ah5⟩
 ·cases h;exact ⟨_,Tryz.func174,ah6⟩
 ·cases h;exact ⟨_,Tryz.func175,ah7⟩
 ·cases h;exact ⟨_,Tryz.func176,ah8⟩
 ·cases h;exact ⟨_,Tryz.func177,ah9⟩
 ·cases h;exact ⟨_,Tryz.func179,ai0⟩
 ·cases h;exact ⟨_,Tryz.func180,ai1⟩
 ·cases h;exact ⟨_,Tryz.func181,ai2⟩
 ·cases h;exact ⟨_,Tryz.func183,ai3⟩
 ·cases h;exact ⟨_,Tryz.func184,ai4⟩
 ·cases h;exact ⟨_,Tryz.func185,ai5⟩
 ·cases h;exact ⟨_,Tryz.func186,ai6⟩
 ·cases h;exact ⟨_,Tryz.func187,ai7⟩
 ·cases h;exact ⟨_,Tryz.func188,ai8⟩
 ·cases h;exact ⟨_,Tryz.func189,ai9⟩
 ·cases h
theorem VV (hp:∀ f p,A.ga f=some p->jB Tryz.prog A.prom f p):qW Tryz.prog A:=⟨Tl,hp,ab6⟩
end Go.Proofs.YtkmclibmmlgogaaGreat


/- The program of the abstract machine: its functions are the program's. (made short by a program) -/
import Derived.Test.YtkmclibmmlgogaaGreatGn0
import Derived.Test.YtkmclibmmlgogaaGreatGn1
import Derived.Test.YtkmclibmmlgogaaGreatGn2
import Derived.Test.YtkmclibmmlgogaaGreatGn3
import Derived.Test.YtkmclibmmlgogaaGreatGn4
import Derived.Test.YtkmclibmmlgogaaGreatB6
set_option linter.unusedVariables false
set_option linter.unusedSimpArgs false
namespace Go.Proofs.YtkmclibmmlgogaaGreat
open Go.y3
def ae0:FuncId->Option p7
 |8=>some a8
 |10=>some a10
 |11=>some a11
 |12=>some a12
 |13=>some a13
 |14=>some a14
 |15=>some a15
 |16=>some a16
 |17=>some a17
 |19=>some a19
 |20=>some a20
 |22=>some a22
 |23=>some a23
 |24=>some a24
 |25=>some a25
 |26=>some a26
 |27=>some a27
 |29=>some a29
 |30=>some a30
 |31=>some a31
 |32=>some a32
 |33=>some a33
 |34=>some a34
 |35=>some a35
 |36=>some a36
 |38=>some a38
 |45=>some a45
 |47=>some a47
 |48=>some a48
 |49=>some a49
 |51=>some a51
 |52=>some a52
 |53=>some a53
 |54=>some a54
 |55=>some a55
 |56=>some a56
 |57=>some a57
 |58=>some a58
 |59=>some a59
 |61=>some a61
 |63=>some a63
 |64=>some a64
 |65=>some a65
 |66=>some a66
 |67=>some a67
 |68=>some a68
 |69=>some a69
 |70=>some a70
 |71=>some a71
 |72=>some a72
 |73=>some a73
 |74=>some a74
 |75=>some a75
 |76=>some a76
 |77=>some a77
 |78=>some a78
 |81=>some a81
 |82=>some a82
 |84=>some a84
 |85=>some a85
 |86=>some a86
 |87=>some a87
 |88=>some a88
 |89=>some a89
 |90=>some a90
 |91=>some a91
 |92=>some a92
 |93=>some a93
 |94=>some a94
 |95=>some a95
 |96=>some a96
 |97=>some a97
 |98=>some a98
 |99=>some a99
 |100=>some ZK
 |101=>some ZL
 |102=>some ZM
 |103=>some ZN
 |104=>some ZO
 |105=>some a105
 |106=>some ZP
 |107=>some a107
 |108=>some ZQ
 |109=>some a109
 |110=>some ZR
 |111=>some ZS
 |112=>some ZT
 |113=>some ZU
 |114=>some ZV
 |115=>some ZW
 |116=>some a116
 |117=>some a117
 |118=>some ZX
 |119=>some a119
 |120=>some ZY
 |121=>some ZZ
 |122=>some aa0
 |123=>some aa1
 |124=>some a124
 |125=>some aa2
 |126=>some aa3
 |127=>some a127
 |139=>some a139
 |140=>some aa4
 |141=>some a141
 |142=>some aa5
 |143=>some a143
 |144=>some aa6
 |145=>some a145
 |146=>some a146
 |147=>some aa7
 |148=>some a148
 |149=>some aa8
 |150=>some aa9
 |151=>some ab0
 |152=>some a152
 |153=>some ab1
 |154=>some a154
 |155=>some ab2
 |156=>some a156
 |157=>some a157
 |158=>some ab3
 |159=>some a159
 |160=>some a160
 |167=>some a167
 |168=>some a168
 |169=>some ab4
 |170=>some ab5
 |171=>some a171
 |174=>some ab6
 |175=>some a175
 |176=>some ab7
 |177=>some ab8
 |179=>some ab9
 |180=>some ac0
 |181=>some ac3
 |183=>some a183
 |184=>some ac4
 |185=>some ac5
 |186=>some ac6
 |187=>some ac7
 |188=>some ac8
 |189=>some ac9
 |_=>none
def XD:FuncId->Nat
 |8=>1
 |10=>1
 |11=>1
 |12=>1
 |14=>1
 |15=>1
 |16=>1
 |17=>1
 |19=>1
 |20=>1
 |22=>1
 |25=>1
 |26=>1
 |27=>1
 |29=>1
 |30=>1
 |31=>1
 |34=>1
 |35=>1
 |36=>1
 |38=>1
 |45=>1
 |47=>1
 |48=>1
 |49=>1
 |51=>1
 |52=>1
 |53=>1
 |54=>1
 |55=>1
 |56=>1
 |57=>1
 |58=>1
 |61=>1
 |63=>1
 |64=>1
 |65=>1
 |66=>1
 |67=>1
 |81=>1
 |82=>1
 |84=>1
 |85=>1
 |86=>1
 |87=>1
 |88=>1
 |89=>1
 |90=>1
 |93=>1
 |94=>1
 |95=>1
 |96=>1
 |97=>1
 |98=>1
 |99=>1
 |100=>1
 |101=>1
 |102=>1
 |103=>1
 |104=>1
 |105=>1
 |106=>1
 |107=>1
 |109=>1
 |110=>1
 |112=>1
 |113=>1
 |114=>1
 |115=>1
 |116=>1
 |117=>1
 |118=>1
 |119=>1
 |121=>1
 |122=>1
 |123=>1
 |126=>1
 |127=>1
 |141=>1
 |142=>1
 |143=>1
 |144=>1
 |145=>1
 |146=>1
 |147=>1
 |148=>1
 |149=>1
 |150=>1
 |151=>1
 |152=>1
 |153=>1
 |155=>1
 |156=>1
 |157=>1
 |158=>1
 |167=>1
 |168=>1
 |169=>1
 |170=>1
 |171=>1
 |174=>1
 |175=>1
 |176=>1
 |177=>1
 |179=>1
 |180=>1
 |181=>1
 |183=>1
 |184=>1
 |185=>1
 |186=>1
 |187=>1
 |188=>1
 |189=>1
 |77=>2
 |_=>0
def Pa:FuncId->Bool
 |28=>true
 |37=>true
 |39=>true
 |40=>true
 |41=>true
 |44=>true
 |46=>true
 |60=>true
 |62=>true
 |173=>true
 |182=>true
 |_=>false
def A:Go.y3.Prog:=⟨ae0,Pa,XD,fun f=>if f=172 then some xX else if f=42 then some xY else if f=43 then some gQ else none⟩
theorem Ws:∀ f,A.idle f=true->Idle Tryz.prog f:=by
 intro f h;simp only [A] at h;unfold Pa at h;split at h
 ·exact W1 Tryz.func28 i28
 ·exact W1 Tryz.func37 i37
 ·exact W1 Tryz.func39 i39
 ·exact W1 Tryz.func40 i40
 ·exact W1 Tryz.func41 i41
 ·exact W1 Tryz.func44 i44
 ·exact W1 Tryz.func46 i46
 ·exact W1 Tryz.func60 i60
 ·exact W1 Tryz.func62 i62
 ·exact W1 Tryz.func173 i173
 ·exact W1 Tryz.func182 i182
 ·cases h
theorem aw5:∀ f af,A.gS f=none->A.fn f=some af->∃ fn,Tryz.prog.funcs[f]? =some fn/\m9 Tryz.prog fn af=true:=by
 intro f af _ h;simp only [A] at h;unfold ae0 at h;split at h
 ·cases h;exact ⟨_,Tryz.func8,c8⟩
 ·cases h;exact ⟨_,Tryz.func10,c10⟩
 ·cases h;exact ⟨_,Tryz.func11,c11⟩
 ·cases h;exact ⟨_,Tryz.func12,c12⟩
 ·cases h;exact ⟨_,Tryz.func13,c13⟩
 ·cases h;exact ⟨_,Tryz.func14,c14⟩
 ·cases h;exact ⟨_,Tryz.func15,c15⟩
 ·cases h;exact ⟨_,Tryz.func16,c16⟩
 ·cases h;exact ⟨_,Tryz.func17,c17⟩
 ·cases h;exact ⟨_,Tryz.func19,c19⟩
 ·cases h;exact ⟨_,Tryz.func20,c20⟩
 ·cases h;exact ⟨_,Tryz.func22,c22⟩
 ·cases h;exact ⟨_,Tryz.func23,c23⟩
 ·cases h;exact ⟨_,Tryz.func24,c24⟩
 ·cases h;exact ⟨_,Tryz.func25,c25⟩
 ·cases h;exact ⟨_,Tryz.func26,c26⟩
 ·cases h;exact ⟨_,Tryz.func27,c27⟩
 ·cases h;exact ⟨_,Tryz.func29,c29⟩
 ·cases h;exact ⟨_,Tryz.func30,c30⟩
 ·cases h;exact ⟨_,Tryz.func31,c31⟩
 ·cases h;exact ⟨_,Tryz.func32,c32⟩
 ·cases h;exact ⟨_,Tryz.func33,c33⟩
 ·cases h;exact ⟨_,Tryz.func34,c34⟩
 ·cases h;exact ⟨_,Tryz.func35,c35⟩
 ·cases h;exact ⟨_,Tryz.func36,c36⟩
 ·cases h;exact ⟨_,Tryz.func38,c38⟩
 ·cases h;exact ⟨_,Tryz.func45,c45⟩
 ·cases h;exact ⟨_,Tryz.func47,c47⟩
 ·cases h;exact ⟨_,Tryz.func48,c48⟩
 ·cases h;exact ⟨_,Tryz.func49,c49⟩
 ·cases h;exact ⟨_,Tryz.func51,c51⟩
 ·cases h;exact ⟨_,Tryz.func52,c52⟩
 ·cases h;exact ⟨_,Tryz.func53,c53⟩
 ·cases h;exact ⟨_,Tryz.func54,c54⟩
 ·cases h;exact ⟨_,Tryz.func55,c55⟩
 ·cases h;exact ⟨_,Tryz.func56,c56⟩
 ·cases h;exact ⟨_,Tryz.func57,c57⟩
 ·cases h;exact ⟨_,Tryz.func58,c58⟩
 ·cases h;exact ⟨_,Tryz.func59,c59⟩
 ·cases h;exact ⟨_,Tryz.func61,c61⟩
 ·cases h;exact ⟨_,Tryz.func63,c63⟩
 ·cases h;exact ⟨_,Tryz.func64,c64⟩
 ·cases h;exact ⟨_,Tryz.func65,c65⟩
 ·cases h;exact ⟨_,Tryz.func66,c66⟩
 ·cases h;exact ⟨_,Tryz.func67,c67⟩
 ·cases h;exact ⟨_,Tryz.func68,c68⟩
 ·cases h;exact ⟨_,Tryz.func69,c69⟩
 ·cases h;exact ⟨_,Tryz.func70,c70⟩
 ·cases h;exact ⟨_,Tryz.func71,c71⟩
 ·cases h;exact ⟨_,Tryz.func72,c72⟩
 ·cases h;exact ⟨_,Tryz.func73,c73⟩
 ·cases h;exact ⟨_,Tryz.func74,c74⟩
 ·cases h;exact ⟨_,Tryz.func75,c75⟩
 ·cases h;exact ⟨_,Tryz.func76,c76⟩
 ·cases h;exact ⟨_,Tryz.func77,c77⟩
 ·cases h;exact ⟨_,Tryz.func78,c78⟩
 ·cases h;exact ⟨_,Tryz.func81,c81⟩
 ·cases h;exact ⟨_,Tryz.func82,c82⟩
 ·cases h;exact ⟨_,Tryz.func84,c84⟩
 ·cases h;exact ⟨_,Tryz.func85,c85⟩
 ·cases h;exact ⟨_,Tryz.func86,c86⟩
 ·cases h;exact ⟨_,Tryz.func87,c87⟩
 ·cases h;exact ⟨_,Tryz.func88,c88⟩
 ·cases h;exact ⟨_,Tryz.func89,c89⟩
 ·cases h;exact ⟨_,Tryz.func90,c90⟩
 ·cases h;exact ⟨_,Tryz.func91,c91⟩
 ·cases h;exact ⟨_,Tryz.func92,c92⟩
 ·cases h;exact ⟨_,Tryz.func93,c93⟩
 ·cases h;exact ⟨_,Tryz.func94,c94⟩
 ·cases h;exact ⟨_,Tryz.func95,c95⟩
 ·cases h;exact ⟨_,Tryz.func96,c96⟩
 ·cases h;exact ⟨_,Tryz.func97,c97⟩
 ·cases h;exact ⟨_,Tryz.func98,c98⟩
 ·cases h;exact ⟨_,Tryz.func99,c99⟩
 ·cases h;exact ⟨_,Tryz.func100,ax3⟩
 ·cases h;exact ⟨_,Tryz.func101,ax4⟩
 ·cases h;exact ⟨_,Tryz.func102,ax5⟩
 ·cases h;exact ⟨_,Tryz.func103,ax6⟩
 ·cases h;exact ⟨_,Tryz.func104,ax7⟩
 ·cases h;exact ⟨_,Tryz.func105,ax8⟩
 ·cases h;exact ⟨_,Tryz.func106,ax9⟩
 ·cases h;exact ⟨_,Tryz.func107,ay0⟩
 ·cases h;exact ⟨_,Tryz.func108,ay1⟩
 ·cases h;exact ⟨_,Tryz.func109,ay2⟩
 ·cases h;exact ⟨_,Tryz.func110,ay3⟩
 ·cases h;exact ⟨_,Tryz.func111,ay4⟩
 ·cases h;exact ⟨_,Tryz.func112,ay5⟩
 ·cases h;exact ⟨_,Tryz.func113,ay6⟩
 ·cases h;exact ⟨_,Tryz.func114,ay7⟩
 ·cases h;exact ⟨_,Tryz.func115,ay8⟩
 ·cases h;exact ⟨_,Tryz.func116,ay9⟩
 ·cases h;exact ⟨_,Tryz.func117,az0⟩
 ·cases h;exact ⟨_,Tryz.func118,az1⟩
 ·cases h;exact ⟨_,Tryz.func119,az2⟩
 ·cases h;exact ⟨_,Tryz.func120,az3⟩
 ·cases h;exact ⟨_,Tryz.func121,az4⟩
 ·cases h;exact ⟨_,Tryz.func122,az5⟩
 ·cases h;exact ⟨_,Tryz.func123,az6⟩
 ·cases h;exact ⟨_,Tryz.func124,az7⟩
 ·cases h;exact ⟨_,Tryz.func125,az8⟩
 ·cases h;exact ⟨_,Tryz.func126,az9⟩
 ·cases h;exact ⟨_,Tryz.func127,aA0⟩
 ·cases h;exact ⟨_,Tryz.func139,aA1⟩
 ·cases h;exact ⟨_,Tryz.func140,aA2⟩
 ·cases h;exact ⟨_,Tryz.func141,aA3⟩
 ·cases h;exact ⟨_,Tryz.func142,aA4⟩
 ·cases h;exact ⟨_,Tryz.func143,aA5⟩
 ·cases h;exact ⟨_,Tryz.func144,aA6⟩
 ·cases h;exact ⟨_,Tryz.func145,aA7⟩
 ·cases h;exact ⟨_,Tryz.func146,aA8⟩
 ·cases h;exact ⟨_,Tryz.func147,aA9⟩
 ·cases h;exact ⟨_,Tryz.func148,aB0⟩
 ·cases h;exact ⟨_,Tryz.func149,aB1⟩
 ·cases h;exact ⟨_,Tryz.func150,aB2⟩
 ·cases h;exact ⟨_,Tryz.func151,aB3⟩
 ·cases h;exact ⟨_,Tryz.func152,aB4⟩
 ·cases h;exact ⟨_,Tryz.func153,aB5⟩
 ·cases h;exact ⟨_,Tryz.func154,aB6⟩
 ·cases h;exact ⟨_,Tryz.func155,aB7⟩
 ·cases h;exact ⟨_,Tryz.func156,aB8⟩
 ·cases h;exact ⟨_,Tryz.func157,aB9⟩
 ·cases h;exact ⟨_,Tryz.func158,aC0⟩
 ·cases h;exact ⟨_,Tryz.func159,aC1⟩
 ·cases h;exact ⟨_,Tryz.func160,aC2⟩
 ·cases h;exact ⟨_,Tryz.func167,aC3⟩
 ·cases h;exact ⟨_,Tryz.func168,aC4⟩
 ·cases h;exact ⟨_,Tryz.func169,aC5⟩
 ·cases h;exact ⟨_,Tryz.func170,aC6⟩
 ·cases h;exact ⟨_,Tryz.func171,aC7⟩
 ·cases h;exact ⟨_,Tryz.func174,aC8⟩
 ·cases h;exact ⟨_,Tryz.func175,aC9⟩
 ·cases h;exact ⟨_,Tryz.func176,aD0⟩
 ·cases h;exact ⟨_,Tryz.func177,aD1⟩
 ·cases h;exact ⟨_,Tryz.func179,aD2⟩
 ·cases h;exact ⟨_,Tryz.func180,aD3⟩
 ·cases h;exact ⟨_,Tryz.func181,aD4⟩
 ·cases h;exact ⟨_,Tryz.func183,aD5⟩
 ·cases h;exact ⟨_,Tryz.func184,aD6⟩
 ·cases h;exact ⟨_,Tryz.func185,aD7⟩
 ·cases h;exact ⟨_,Tryz.func186,aD8⟩
 ·cases h;exact ⟨_,Tryz.func187,aD9⟩
 ·cases h;exact ⟨_,Tryz.func188,aE0⟩
 ·cases h;exact ⟨_,Tryz.func189,aE1⟩
 ·cases h
theorem aw6 (hp:∀ f p,A.gS f=some p->ku Tryz.prog A.prom f p):wB Tryz.prog A:=⟨Ws,hp,aw5⟩
end Go.Proofs.YtkmclibmmlgogaaGreat


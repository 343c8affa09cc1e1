/-
  The program of the abstract machine: its functions are the program's.
-/
import Derived.Test.YtjnkccpijofgiaaGreatFn0
import Derived.Test.YtjnkccpijofgiaaGreatFn1
import Derived.Test.YtjnkccpijofgiaaGreatFn2
import Derived.Test.YtjnkccpijofgiaaGreatFn3
import Derived.Test.YtjnkccpijofgiaaGreatFn4
import Derived.Test.YtjnkccpijofgiaaGreatB6
namespace Go.Proofs.YtjnkccpijofgiaaGreat
open Go.Abs

def fnOf : FuncId → Option AFunc
  | 3 => some a3
  | 4 => some a4
  | 5 => some a5
  | 6 => some a6
  | 7 => some a7
  | 9 => some a9
  | 10 => some a10
  | 11 => some a11
  | 12 => some a12
  | 13 => some a13
  | 14 => some a14
  | 15 => some a15
  | 16 => some a16
  | 17 => some a17
  | 18 => some a18
  | 19 => some a19
  | 23 => some a23
  | 25 => some a25
  | 26 => some a26
  | 27 => some a27
  | 28 => some a28
  | 29 => some a29
  | 31 => some a31
  | 32 => some a32
  | 33 => some a33
  | 34 => some a34
  | 35 => some a35
  | 36 => some a36
  | 37 => some a37
  | 39 => some a39
  | 42 => some a42
  | 43 => some a43
  | 44 => some a44
  | 45 => some a45
  | 46 => some a46
  | 47 => some a47
  | 48 => some a48
  | 49 => some a49
  | 50 => some a50
  | 51 => some a51
  | 52 => some a52
  | 54 => some a54
  | 55 => some a55
  | 56 => some a56
  | 57 => some a57
  | 58 => some a58
  | 59 => some a59
  | 60 => some a60
  | 61 => some a61
  | 62 => some a62
  | 64 => some a64
  | 65 => some a65
  | 66 => some a66
  | 67 => some a67
  | 68 => some a68
  | 69 => some a69
  | 70 => some a70
  | 71 => some a71
  | 72 => some a72
  | 74 => some a74
  | 75 => some a75
  | 76 => some a76
  | 78 => some a78
  | 79 => some a79
  | 87 => some a87
  | 88 => some a88
  | 89 => some a89
  | 97 => some a97
  | 98 => some a98
  | 99 => some a99
  | 101 => some a101
  | 102 => some a102
  | 103 => some a103
  | 105 => some a105
  | 106 => some a106
  | 108 => some a108
  | 109 => some a109
  | 111 => some a111
  | 112 => some a112
  | 113 => some a113
  | 114 => some a114
  | 115 => some a115
  | 116 => some a116
  | 117 => some a117
  | 118 => some a118
  | 119 => some a119
  | 120 => some a120
  | 121 => some a121
  | 122 => some a122
  | 123 => some a123
  | 124 => some a124
  | 134 => some a134
  | 135 => some a135
  | 136 => some a136
  | 138 => some a138
  | 139 => some a139
  | 140 => some a140
  | 141 => some a141
  | 142 => some a142
  | 143 => some a143
  | 144 => some a144
  | 152 => some a152
  | 153 => some a153
  | 154 => some a154
  | 155 => some a155
  | 156 => some a156
  | 157 => some a157
  | 158 => some a158
  | 159 => some a159
  | 160 => some a160
  | 162 => some a162
  | 163 => some a163
  | 164 => some a164
  | 165 => some a165
  | 168 => some a168
  | 174 => some a174
  | 177 => some a177
  | 179 => some a179
  | 180 => some a180
  | 181 => some a181
  | 182 => some a182
  | 183 => some a183
  | 184 => some a184
  | 185 => some a185
  | 186 => some a186
  | 187 => some a187
  | 191 => some a191
  | 192 => some a192
  | 193 => some a193
  | 194 => some a194
  | 195 => some a195
  | 196 => some a196
  | 197 => some a197
  | 198 => some a198
  | 199 => some a199
  | 200 => some a200
  | 201 => some a201
  | 202 => some a202
  | 203 => some a203
  | 204 => some a204
  | 208 => some a208
  | 210 => some a210
  | 212 => some a212
  | 213 => some a213
  | 214 => some a214
  | 217 => some a217
  | 218 => some a218
  | 221 => some a221
  | 229 => some a229
  | 230 => some a230
  | 232 => some a232
  | 233 => some a233
  | 234 => some a234
  | 238 => some a238
  | 240 => some a240
  | _ => none
def modeOf : FuncId → Nat
  | 3 => 1
  | 4 => 1
  | 5 => 1
  | 6 => 1
  | 7 => 1
  | 9 => 1
  | 10 => 1
  | 11 => 1
  | 12 => 1
  | 13 => 1
  | 14 => 1
  | 15 => 1
  | 16 => 1
  | 17 => 1
  | 18 => 1
  | 23 => 1
  | 26 => 1
  | 27 => 1
  | 28 => 1
  | 29 => 1
  | 31 => 1
  | 32 => 1
  | 33 => 1
  | 34 => 1
  | 35 => 1
  | 36 => 1
  | 37 => 1
  | 54 => 1
  | 111 => 1
  | 134 => 1
  | 135 => 1
  | 164 => 1
  | 8 => 1
  | _ => 0
def idleOf : FuncId → Bool
  | 22 => true
  | 24 => true
  | 30 => true
  | 38 => true
  | 63 => true
  | 73 => true
  | 77 => true
  | 104 => true
  | 110 => true
  | 133 => true
  | 137 => true
  | 178 => true
  | 216 => true
  | 220 => true
  | 231 => true
  | _ => false
def A : Go.Abs.Prog := ⟨fnOf, idleOf, modeOf, fun f => if f = 209 then some (pGrowN 2) else if f = 215 then some (pGrowN 1) else if f = 40 then some (pClone 3) else if f = 41 then some (pClone 2) else if f = 100 then some (pClone 1) else if f = 107 then some (pSorted srt0) else if f = 8 then some pHeights else none⟩

theorem A_idle : ∀ f, A.idle f = true → Idle Tryz.prog f := by
  intro f h
  simp only [A] at h
  unfold idleOf at h
  split at h
  · exact idle_sound Tryz.func22 i22
  · exact idle_sound Tryz.func24 i24
  · exact idle_sound Tryz.func30 i30
  · exact idle_sound Tryz.func38 i38
  · exact idle_sound Tryz.func63 i63
  · exact idle_sound Tryz.func73 i73
  · exact idle_sound Tryz.func77 i77
  · exact idle_sound Tryz.func104 i104
  · exact idle_sound Tryz.func110 i110
  · exact idle_sound Tryz.func133 i133
  · exact idle_sound Tryz.func137 i137
  · exact idle_sound Tryz.func178 i178
  · exact idle_sound Tryz.func216 i216
  · exact idle_sound Tryz.func220 i220
  · exact idle_sound Tryz.func231 i231
  · cases h

theorem A_fn : ∀ f af, A.fn f = some af → ∃ fn, Tryz.prog.funcs[f]? = some fn ∧ chkFunc Tryz.prog fn af = true := by
  intro f af h
  simp only [A] at h
  unfold fnOf at h
  split at h
  · cases h; exact ⟨_, Tryz.func3, c3⟩
  · cases h; exact ⟨_, Tryz.func4, c4⟩
  · cases h; exact ⟨_, Tryz.func5, c5⟩
  · cases h; exact ⟨_, Tryz.func6, c6⟩
  · cases h; exact ⟨_, Tryz.func7, c7⟩
  · cases h; exact ⟨_, Tryz.func9, c9⟩
  · cases h; exact ⟨_, Tryz.func10, c10⟩
  · cases h; exact ⟨_, Tryz.func11, c11⟩
  · cases h; exact ⟨_, Tryz.func12, c12⟩
  · cases h; exact ⟨_, Tryz.func13, c13⟩
  · cases h; exact ⟨_, Tryz.func14, c14⟩
  · cases h; exact ⟨_, Tryz.func15, c15⟩
  · cases h; exact ⟨_, Tryz.func16, c16⟩
  · cases h; exact ⟨_, Tryz.func17, c17⟩
  · cases h; exact ⟨_, Tryz.func18, c18⟩
  · cases h; exact ⟨_, Tryz.func19, c19⟩
  · cases h; exact ⟨_, Tryz.func23, c23⟩
  · cases h; exact ⟨_, Tryz.func25, c25⟩
  · cases h; exact ⟨_, Tryz.func26, c26⟩
  · cases h; exact ⟨_, Tryz.func27, c27⟩
  · cases h; exact ⟨_, Tryz.func28, c28⟩
  · cases h; exact ⟨_, Tryz.func29, c29⟩
  · cases h; exact ⟨_, Tryz.func31, c31⟩
  · cases h; exact ⟨_, Tryz.func32, c32⟩
  · cases h; exact ⟨_, Tryz.func33, c33⟩
  · cases h; exact ⟨_, Tryz.func34, c34⟩
  · cases h; exact ⟨_, Tryz.func35, c35⟩
  · cases h; exact ⟨_, Tryz.func36, c36⟩
  · cases h; exact ⟨_, Tryz.func37, c37⟩
  · cases h; exact ⟨_, Tryz.func39, c39⟩
  · cases h; exact ⟨_, Tryz.func42, c42⟩
  · cases h; exact ⟨_, Tryz.func43, c43⟩
  · cases h; exact ⟨_, Tryz.func44, c44⟩
  · cases h; exact ⟨_, Tryz.func45, c45⟩
  · cases h; exact ⟨_, Tryz.func46, c46⟩
  · cases h; exact ⟨_, Tryz.func47, c47⟩
  · cases h; exact ⟨_, Tryz.func48, c48⟩
  · cases h; exact ⟨_, Tryz.func49, c49⟩
  · cases h; exact ⟨_, Tryz.func50, c50⟩
  · cases h; exact ⟨_, Tryz.func51, c51⟩
  · cases h; exact ⟨_, Tryz.func52, c52⟩
  · cases h; exact ⟨_, Tryz.func54, c54⟩
  · cases h; exact ⟨_, Tryz.func55, c55⟩
  · cases h; exact ⟨_, Tryz.func56, c56⟩
  · cases h; exact ⟨_, Tryz.func57, c57⟩
  · cases h; exact ⟨_, Tryz.func58, c58⟩
  · cases h; exact ⟨_, Tryz.func59, c59⟩
  · cases h; exact ⟨_, Tryz.func60, c60⟩
  · cases h; exact ⟨_, Tryz.func61, c61⟩
  · cases h; exact ⟨_, Tryz.func62, c62⟩
  · cases h; exact ⟨_, Tryz.func64, c64⟩
  · cases h; exact ⟨_, Tryz.func65, c65⟩
  · cases h; exact ⟨_, Tryz.func66, c66⟩
  · cases h; exact ⟨_, Tryz.func67, c67⟩
  · cases h; exact ⟨_, Tryz.func68, c68⟩
  · cases h; exact ⟨_, Tryz.func69, c69⟩
  · cases h; exact ⟨_, Tryz.func70, c70⟩
  · cases h; exact ⟨_, Tryz.func71, c71⟩
  · cases h; exact ⟨_, Tryz.func72, c72⟩
  · cases h; exact ⟨_, Tryz.func74, c74⟩
  · cases h; exact ⟨_, Tryz.func75, c75⟩
  · cases h; exact ⟨_, Tryz.func76, c76⟩
  · cases h; exact ⟨_, Tryz.func78, c78⟩
  · cases h; exact ⟨_, Tryz.func79, c79⟩
  · cases h; exact ⟨_, Tryz.func87, c87⟩
  · cases h; exact ⟨_, Tryz.func88, c88⟩
  · cases h; exact ⟨_, Tryz.func89, c89⟩
  · cases h; exact ⟨_, Tryz.func97, c97⟩
  · cases h; exact ⟨_, Tryz.func98, c98⟩
  · cases h; exact ⟨_, Tryz.func99, c99⟩
  · cases h; exact ⟨_, Tryz.func101, c101⟩
  · cases h; exact ⟨_, Tryz.func102, c102⟩
  · cases h; exact ⟨_, Tryz.func103, c103⟩
  · cases h; exact ⟨_, Tryz.func105, c105⟩
  · cases h; exact ⟨_, Tryz.func106, c106⟩
  · cases h; exact ⟨_, Tryz.func108, c108⟩
  · cases h; exact ⟨_, Tryz.func109, c109⟩
  · cases h; exact ⟨_, Tryz.func111, c111⟩
  · cases h; exact ⟨_, Tryz.func112, c112⟩
  · cases h; exact ⟨_, Tryz.func113, c113⟩
  · cases h; exact ⟨_, Tryz.func114, c114⟩
  · cases h; exact ⟨_, Tryz.func115, c115⟩
  · cases h; exact ⟨_, Tryz.func116, c116⟩
  · cases h; exact ⟨_, Tryz.func117, c117⟩
  · cases h; exact ⟨_, Tryz.func118, c118⟩
  · cases h; exact ⟨_, Tryz.func119, c119⟩
  · cases h; exact ⟨_, Tryz.func120, c120⟩
  · cases h; exact ⟨_, Tryz.func121, c121⟩
  · cases h; exact ⟨_, Tryz.func122, c122⟩
  · cases h; exact ⟨_, Tryz.func123, c123⟩
  · cases h; exact ⟨_, Tryz.func124, c124⟩
  · cases h; exact ⟨_, Tryz.func134, c134⟩
  · cases h; exact ⟨_, Tryz.func135, c135⟩
  · cases h; exact ⟨_, Tryz.func136, c136⟩
  · cases h; exact ⟨_, Tryz.func138, c138⟩
  · cases h; exact ⟨_, Tryz.func139, c139⟩
  · cases h; exact ⟨_, Tryz.func140, c140⟩
  · cases h; exact ⟨_, Tryz.func141, c141⟩
  · cases h; exact ⟨_, Tryz.func142, c142⟩
  · cases h; exact ⟨_, Tryz.func143, c143⟩
  · cases h; exact ⟨_, Tryz.func144, c144⟩
  · cases h; exact ⟨_, Tryz.func152, c152⟩
  · cases h; exact ⟨_, Tryz.func153, c153⟩
  · cases h; exact ⟨_, Tryz.func154, c154⟩
  · cases h; exact ⟨_, Tryz.func155, c155⟩
  · cases h; exact ⟨_, Tryz.func156, c156⟩
  · cases h; exact ⟨_, Tryz.func157, c157⟩
  · cases h; exact ⟨_, Tryz.func158, c158⟩
  · cases h; exact ⟨_, Tryz.func159, c159⟩
  · cases h; exact ⟨_, Tryz.func160, c160⟩
  · cases h; exact ⟨_, Tryz.func162, c162⟩
  · cases h; exact ⟨_, Tryz.func163, c163⟩
  · cases h; exact ⟨_, Tryz.func164, c164⟩
  · cases h; exact ⟨_, Tryz.func165, c165⟩
  · cases h; exact ⟨_, Tryz.func168, c168⟩
  · cases h; exact ⟨_, Tryz.func174, c174⟩
  · cases h; exact ⟨_, Tryz.func177, c177⟩
  · cases h; exact ⟨_, Tryz.func179, c179⟩
  · cases h; exact ⟨_, Tryz.func180, c180⟩
  · cases h; exact ⟨_, Tryz.func181, c181⟩
  · cases h; exact ⟨_, Tryz.func182, c182⟩
  · cases h; exact ⟨_, Tryz.func183, c183⟩
  · cases h; exact ⟨_, Tryz.func184, c184⟩
  · cases h; exact ⟨_, Tryz.func185, c185⟩
  · cases h; exact ⟨_, Tryz.func186, c186⟩
  · cases h; exact ⟨_, Tryz.func187, c187⟩
  · cases h; exact ⟨_, Tryz.func191, c191⟩
  · cases h; exact ⟨_, Tryz.func192, c192⟩
  · cases h; exact ⟨_, Tryz.func193, c193⟩
  · cases h; exact ⟨_, Tryz.func194, c194⟩
  · cases h; exact ⟨_, Tryz.func195, c195⟩
  · cases h; exact ⟨_, Tryz.func196, c196⟩
  · cases h; exact ⟨_, Tryz.func197, c197⟩
  · cases h; exact ⟨_, Tryz.func198, c198⟩
  · cases h; exact ⟨_, Tryz.func199, c199⟩
  · cases h; exact ⟨_, Tryz.func200, c200⟩
  · cases h; exact ⟨_, Tryz.func201, c201⟩
  · cases h; exact ⟨_, Tryz.func202, c202⟩
  · cases h; exact ⟨_, Tryz.func203, c203⟩
  · cases h; exact ⟨_, Tryz.func204, c204⟩
  · cases h; exact ⟨_, Tryz.func208, c208⟩
  · cases h; exact ⟨_, Tryz.func210, c210⟩
  · cases h; exact ⟨_, Tryz.func212, c212⟩
  · cases h; exact ⟨_, Tryz.func213, c213⟩
  · cases h; exact ⟨_, Tryz.func214, c214⟩
  · cases h; exact ⟨_, Tryz.func217, c217⟩
  · cases h; exact ⟨_, Tryz.func218, c218⟩
  · cases h; exact ⟨_, Tryz.func221, c221⟩
  · cases h; exact ⟨_, Tryz.func229, c229⟩
  · cases h; exact ⟨_, Tryz.func230, c230⟩
  · cases h; exact ⟨_, Tryz.func232, c232⟩
  · cases h; exact ⟨_, Tryz.func233, c233⟩
  · cases h; exact ⟨_, Tryz.func234, c234⟩
  · cases h; exact ⟨_, Tryz.func238, c238⟩
  · cases h; exact ⟨_, Tryz.func240, c240⟩
  · cases h

theorem A_ok (hp : ∀ f p, A.prim f = some p → PrimOK Tryz.prog A.prom f p) : ProgOK Tryz.prog A := ⟨A_idle, hp, fun f af _ h => A_fn f af h⟩
end Go.Proofs.YtjnkccpijofgiaaGreat

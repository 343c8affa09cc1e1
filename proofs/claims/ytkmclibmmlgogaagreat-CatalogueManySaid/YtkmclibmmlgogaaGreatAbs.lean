/-
  The program of the abstract machine: its functions are the program's.
-/
import Derived.Test.YtkmclibmmlgogaaGreatFn0
import Derived.Test.YtkmclibmmlgogaaGreatFn1
import Derived.Test.YtkmclibmmlgogaaGreatFn2
import Derived.Test.YtkmclibmmlgogaaGreatFn3
namespace Go.Proofs.YtkmclibmmlgogaaGreat
open Go.Abs

def fnOf : FuncId → Option AFunc
  | 3 => some a3
  | 9 => some a9
  | 10 => some a10
  | 11 => some a11
  | 16 => some a16
  | 17 => some a17
  | 26 => some a26
  | 27 => some a27
  | 29 => some a29
  | 30 => some a30
  | 31 => some a31
  | 42 => some a42
  | 43 => some a43
  | 49 => some a49
  | 61 => some a61
  | 63 => some a63
  | 64 => some a64
  | 65 => some a65
  | 66 => some a66
  | 67 => some a67
  | 68 => some a68
  | 69 => some a69
  | 70 => some a70
  | 71 => some a71
  | 72 => some a72
  | 73 => some a73
  | 74 => some a74
  | 75 => some a75
  | 79 => some a79
  | 80 => some a80
  | 82 => some a82
  | 84 => some a84
  | 87 => some a87
  | 89 => some a89
  | 93 => some a93
  | 94 => some a94
  | 95 => some a95
  | 96 => some a96
  | 97 => some a97
  | 98 => some a98
  | 99 => some a99
  | 100 => some a100
  | 101 => some a101
  | 102 => some a102
  | 103 => some a103
  | 104 => some a104
  | 105 => some a105
  | 106 => some a106
  | 107 => some a107
  | 108 => some a108
  | 109 => some a109
  | 110 => some a110
  | 111 => some a111
  | 112 => some a112
  | 113 => some a113
  | 114 => some a114
  | 115 => some a115
  | 116 => some a116
  | 117 => some a117
  | 118 => some a118
  | 119 => some a119
  | 120 => some a120
  | 121 => some a121
  | 122 => some a122
  | 123 => some a123
  | 128 => some a128
  | 129 => some a129
  | 130 => some a130
  | 131 => some a131
  | 132 => some a132
  | 133 => some a133
  | 134 => some a134
  | 135 => some a135
  | 136 => some a136
  | 137 => some a137
  | 138 => some a138
  | 141 => some a141
  | 142 => some a142
  | 143 => some a143
  | 144 => some a144
  | 145 => some a145
  | 146 => some a146
  | 147 => some a147
  | 148 => some a148
  | 149 => some a149
  | 150 => some a150
  | 151 => some a151
  | 152 => some a152
  | 153 => some a153
  | 154 => some a154
  | 155 => some a155
  | 156 => some a156
  | 157 => some a157
  | 158 => some a158
  | 161 => some a161
  | 162 => some a162
  | 163 => some a163
  | 164 => some a164
  | 165 => some a165
  | 166 => some a166
  | 167 => some a167
  | 168 => some a168
  | 169 => some a169
  | 170 => some a170
  | 171 => some a171
  | 172 => some a172
  | 174 => some a174
  | 175 => some a175
  | 178 => some a178
  | 179 => some a179
  | 180 => some a180
  | 181 => some a181
  | 183 => some a183
  | 184 => some a184
  | 185 => some a185
  | 187 => some a187
  | 188 => some a188
  | 189 => some a189
  | _ => none
def modeOf : FuncId → Nat
  | 61 => 1
  | 122 => 1
  | _ => 0
def idleOf : FuncId → Bool
  | 28 => true
  | 40 => true
  | 41 => true
  | 62 => true
  | 173 => true
  | 182 => true
  | _ => false
def A : Go.Abs.Prog := ⟨fnOf, idleOf, modeOf, fun _ => none⟩

theorem A_idle : ∀ f, A.idle f = true → Idle Tryz.prog f := by
  intro f h
  simp only [A] at h
  unfold idleOf at h
  split at h
  · exact idle_sound Tryz.func28 i28
  · exact idle_sound Tryz.func40 i40
  · exact idle_sound Tryz.func41 i41
  · exact idle_sound Tryz.func62 i62
  · exact idle_sound Tryz.func173 i173
  · exact idle_sound Tryz.func182 i182
  · cases h

theorem A_fn : ∀ f af, A.prim f = none → A.fn f = some af → ∃ fn, Tryz.prog.funcs[f]? = some fn ∧ chkFunc Tryz.prog fn af = true := by
  intro f af _ h
  simp only [A] at h
  unfold fnOf at h
  split at h
  · cases h; exact ⟨_, Tryz.func3, c3⟩
  · cases h; exact ⟨_, Tryz.func9, c9⟩
  · cases h; exact ⟨_, Tryz.func10, c10⟩
  · cases h; exact ⟨_, Tryz.func11, c11⟩
  · cases h; exact ⟨_, Tryz.func16, c16⟩
  · cases h; exact ⟨_, Tryz.func17, c17⟩
  · cases h; exact ⟨_, Tryz.func26, c26⟩
  · cases h; exact ⟨_, Tryz.func27, c27⟩
  · cases h; exact ⟨_, Tryz.func29, c29⟩
  · cases h; exact ⟨_, Tryz.func30, c30⟩
  · cases h; exact ⟨_, Tryz.func31, c31⟩
  · cases h; exact ⟨_, Tryz.func42, c42⟩
  · cases h; exact ⟨_, Tryz.func43, c43⟩
  · cases h; exact ⟨_, Tryz.func49, c49⟩
  · cases h; exact ⟨_, Tryz.func61, c61⟩
  · cases h; exact ⟨_, Tryz.func63, c63⟩
  · cases h; exact ⟨_, Tryz.func64, c64⟩
  · cases h; exact ⟨_, Tryz.func65, c65⟩
  · cases h; exact ⟨_, Tryz.func66, c66⟩
  · cases h; exact ⟨_, Tryz.func67, c67⟩
  · cases h; exact ⟨_, Tryz.func68, c68⟩
  · cases h; exact ⟨_, Tryz.func69, c69⟩
  · cases h; exact ⟨_, Tryz.func70, c70⟩
  · cases h; exact ⟨_, Tryz.func71, c71⟩
  · cases h; exact ⟨_, Tryz.func72, c72⟩
  · cases h; exact ⟨_, Tryz.func73, c73⟩
  · cases h; exact ⟨_, Tryz.func74, c74⟩
  · cases h; exact ⟨_, Tryz.func75, c75⟩
  · cases h; exact ⟨_, Tryz.func79, c79⟩
  · cases h; exact ⟨_, Tryz.func80, c80⟩
  · cases h; exact ⟨_, Tryz.func82, c82⟩
  · cases h; exact ⟨_, Tryz.func84, c84⟩
  · cases h; exact ⟨_, Tryz.func87, c87⟩
  · cases h; exact ⟨_, Tryz.func89, c89⟩
  · cases h; exact ⟨_, Tryz.func93, c93⟩
  · cases h; exact ⟨_, Tryz.func94, c94⟩
  · cases h; exact ⟨_, Tryz.func95, c95⟩
  · cases h; exact ⟨_, Tryz.func96, c96⟩
  · cases h; exact ⟨_, Tryz.func97, c97⟩
  · cases h; exact ⟨_, Tryz.func98, c98⟩
  · cases h; exact ⟨_, Tryz.func99, c99⟩
  · cases h; exact ⟨_, Tryz.func100, c100⟩
  · cases h; exact ⟨_, Tryz.func101, c101⟩
  · cases h; exact ⟨_, Tryz.func102, c102⟩
  · cases h; exact ⟨_, Tryz.func103, c103⟩
  · cases h; exact ⟨_, Tryz.func104, c104⟩
  · cases h; exact ⟨_, Tryz.func105, c105⟩
  · cases h; exact ⟨_, Tryz.func106, c106⟩
  · cases h; exact ⟨_, Tryz.func107, c107⟩
  · cases h; exact ⟨_, Tryz.func108, c108⟩
  · cases h; exact ⟨_, Tryz.func109, c109⟩
  · cases h; exact ⟨_, Tryz.func110, c110⟩
  · cases h; exact ⟨_, Tryz.func111, c111⟩
  · cases h; exact ⟨_, Tryz.func112, c112⟩
  · cases h; exact ⟨_, Tryz.func113, c113⟩
  · cases h; exact ⟨_, Tryz.func114, c114⟩
  · cases h; exact ⟨_, Tryz.func115, c115⟩
  · cases h; exact ⟨_, Tryz.func116, c116⟩
  · cases h; exact ⟨_, Tryz.func117, c117⟩
  · cases h; exact ⟨_, Tryz.func118, c118⟩
  · cases h; exact ⟨_, Tryz.func119, c119⟩
  · cases h; exact ⟨_, Tryz.func120, c120⟩
  · cases h; exact ⟨_, Tryz.func121, c121⟩
  · cases h; exact ⟨_, Tryz.func122, c122⟩
  · cases h; exact ⟨_, Tryz.func123, c123⟩
  · cases h; exact ⟨_, Tryz.func128, c128⟩
  · cases h; exact ⟨_, Tryz.func129, c129⟩
  · cases h; exact ⟨_, Tryz.func130, c130⟩
  · cases h; exact ⟨_, Tryz.func131, c131⟩
  · cases h; exact ⟨_, Tryz.func132, c132⟩
  · cases h; exact ⟨_, Tryz.func133, c133⟩
  · cases h; exact ⟨_, Tryz.func134, c134⟩
  · cases h; exact ⟨_, Tryz.func135, c135⟩
  · cases h; exact ⟨_, Tryz.func136, c136⟩
  · cases h; exact ⟨_, Tryz.func137, c137⟩
  · cases h; exact ⟨_, Tryz.func138, c138⟩
  · cases h; exact ⟨_, Tryz.func141, c141⟩
  · cases h; exact ⟨_, Tryz.func142, c142⟩
  · cases h; exact ⟨_, Tryz.func143, c143⟩
  · cases h; exact ⟨_, Tryz.func144, c144⟩
  · cases h; exact ⟨_, Tryz.func145, c145⟩
  · cases h; exact ⟨_, Tryz.func146, c146⟩
  · cases h; exact ⟨_, Tryz.func147, c147⟩
  · cases h; exact ⟨_, Tryz.func148, c148⟩
  · cases h; exact ⟨_, Tryz.func149, c149⟩
  · cases h; exact ⟨_, Tryz.func150, c150⟩
  · cases h; exact ⟨_, Tryz.func151, c151⟩
  · cases h; exact ⟨_, Tryz.func152, c152⟩
  · cases h; exact ⟨_, Tryz.func153, c153⟩
  · cases h; exact ⟨_, Tryz.func154, c154⟩
  · cases h; exact ⟨_, Tryz.func155, c155⟩
  · cases h; exact ⟨_, Tryz.func156, c156⟩
  · cases h; exact ⟨_, Tryz.func157, c157⟩
  · cases h; exact ⟨_, Tryz.func158, c158⟩
  · cases h; exact ⟨_, Tryz.func161, c161⟩
  · cases h; exact ⟨_, Tryz.func162, c162⟩
  · cases h; exact ⟨_, Tryz.func163, c163⟩
  · cases h; exact ⟨_, Tryz.func164, c164⟩
  · cases h; exact ⟨_, Tryz.func165, c165⟩
  · cases h; exact ⟨_, Tryz.func166, c166⟩
  · cases h; exact ⟨_, Tryz.func167, c167⟩
  · cases h; exact ⟨_, Tryz.func168, c168⟩
  · cases h; exact ⟨_, Tryz.func169, c169⟩
  · cases h; exact ⟨_, Tryz.func170, c170⟩
  · cases h; exact ⟨_, Tryz.func171, c171⟩
  · cases h; exact ⟨_, Tryz.func172, c172⟩
  · cases h; exact ⟨_, Tryz.func174, c174⟩
  · cases h; exact ⟨_, Tryz.func175, c175⟩
  · cases h; exact ⟨_, Tryz.func178, c178⟩
  · cases h; exact ⟨_, Tryz.func179, c179⟩
  · cases h; exact ⟨_, Tryz.func180, c180⟩
  · cases h; exact ⟨_, Tryz.func181, c181⟩
  · cases h; exact ⟨_, Tryz.func183, c183⟩
  · cases h; exact ⟨_, Tryz.func184, c184⟩
  · cases h; exact ⟨_, Tryz.func185, c185⟩
  · cases h; exact ⟨_, Tryz.func187, c187⟩
  · cases h; exact ⟨_, Tryz.func188, c188⟩
  · cases h; exact ⟨_, Tryz.func189, c189⟩
  · cases h

theorem A_ok : ProgOK Tryz.prog A := ⟨A_idle, (fun _ _ h => by cases h), A_fn⟩
end Go.Proofs.YtkmclibmmlgogaaGreat

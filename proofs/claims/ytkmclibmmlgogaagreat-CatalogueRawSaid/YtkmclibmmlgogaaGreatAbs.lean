/-
  The program of the abstract machine: its functions are the program's.
-/
import Derived.Test.YtkmclibmmlgogaaGreatFn0
import Derived.Test.YtkmclibmmlgogaaGreatFn1
import Derived.Test.YtkmclibmmlgogaaGreatFn2
import Derived.Test.YtkmclibmmlgogaaGreatFn3
import Derived.Test.YtkmclibmmlgogaaGreatB6
namespace Go.Proofs.YtkmclibmmlgogaaGreat
open Go.Abs

def fnOf : FuncId → Option AFunc
  | 6 => some a6
  | 9 => some a9
  | 10 => some a10
  | 11 => some a11
  | 14 => some a14
  | 15 => some a15
  | 16 => some a16
  | 17 => some a17
  | 19 => some a19
  | 20 => some a20
  | 21 => some a21
  | 22 => some a22
  | 25 => some a25
  | 26 => some a26
  | 27 => some a27
  | 29 => some a29
  | 30 => some a30
  | 31 => some a31
  | 36 => some a36
  | 38 => some a38
  | 45 => some a45
  | 47 => some a47
  | 48 => some a48
  | 49 => some a49
  | 50 => some a50
  | 51 => some a51
  | 52 => some a52
  | 53 => some a53
  | 54 => some a54
  | 55 => some a55
  | 56 => some a56
  | 57 => some a57
  | 58 => some a58
  | 61 => some a61
  | 63 => some a63
  | 64 => some a64
  | 65 => some a65
  | 66 => some a66
  | 67 => some a67
  | 68 => some a68
  | 69 => some a69
  | 70 => some a70
  | 71 => some a71
  | 72 => some a72
  | 73 => some a73
  | 74 => some a74
  | 75 => some a75
  | 81 => some a81
  | 82 => some a82
  | 83 => some a83
  | 84 => some a84
  | 85 => some a85
  | 86 => some a86
  | 87 => some a87
  | 88 => some a88
  | 89 => some a89
  | 90 => some a90
  | 93 => some a93
  | 94 => some a94
  | 95 => some a95
  | 96 => some a96
  | 97 => some a97
  | 98 => some a98
  | 99 => some a99
  | 100 => some a100
  | 101 => some a101
  | 102 => some a102
  | 103 => some a103
  | 104 => some a104
  | 105 => some a105
  | 106 => some a106
  | 107 => some a107
  | 108 => some a108
  | 109 => some a109
  | 110 => some a110
  | 111 => some a111
  | 112 => some a112
  | 113 => some a113
  | 114 => some a114
  | 115 => some a115
  | 116 => some a116
  | 117 => some a117
  | 118 => some a118
  | 119 => some a119
  | 120 => some a120
  | 121 => some a121
  | 122 => some a122
  | 123 => some a123
  | 141 => some a141
  | 142 => some a142
  | 143 => some a143
  | 144 => some a144
  | 145 => some a145
  | 146 => some a146
  | 147 => some a147
  | 148 => some a148
  | 149 => some a149
  | 150 => some a150
  | 151 => some a151
  | 152 => some a152
  | 153 => some a153
  | 154 => some a154
  | 155 => some a155
  | 156 => some a156
  | 157 => some a157
  | 158 => some a158
  | 167 => some a167
  | 168 => some a168
  | 169 => some a169
  | 170 => some a170
  | 171 => some a171
  | 174 => some a174
  | 175 => some a175
  | 179 => some a179
  | 180 => some a180
  | 181 => some a181
  | 183 => some a183
  | 184 => some a184
  | 185 => some a185
  | 187 => some a187
  | 188 => some a188
  | 189 => some a189
  | _ => none
def modeOf : FuncId → Nat
  | 6 => 1
  | 9 => 1
  | 10 => 1
  | 11 => 1
  | 14 => 1
  | 15 => 1
  | 16 => 1
  | 17 => 1
  | 19 => 1
  | 20 => 1
  | 21 => 1
  | 22 => 1
  | 25 => 1
  | 26 => 1
  | 27 => 1
  | 29 => 1
  | 30 => 1
  | 31 => 1
  | 36 => 1
  | 38 => 1
  | 45 => 1
  | 47 => 1
  | 48 => 1
  | 49 => 1
  | 50 => 1
  | 51 => 1
  | 52 => 1
  | 53 => 1
  | 54 => 1
  | 55 => 1
  | 56 => 1
  | 57 => 1
  | 58 => 1
  | 61 => 1
  | 63 => 1
  | 64 => 1
  | 65 => 1
  | 66 => 1
  | 67 => 1
  | 81 => 1
  | 82 => 1
  | 83 => 1
  | 84 => 1
  | 85 => 1
  | 86 => 1
  | 87 => 1
  | 88 => 1
  | 89 => 1
  | 90 => 1
  | 93 => 1
  | 94 => 1
  | 95 => 1
  | 96 => 1
  | 97 => 1
  | 98 => 1
  | 99 => 1
  | 100 => 1
  | 101 => 1
  | 102 => 1
  | 103 => 1
  | 104 => 1
  | 105 => 1
  | 106 => 1
  | 107 => 1
  | 109 => 1
  | 110 => 1
  | 112 => 1
  | 113 => 1
  | 114 => 1
  | 115 => 1
  | 116 => 1
  | 117 => 1
  | 118 => 1
  | 119 => 1
  | 121 => 1
  | 122 => 1
  | 123 => 1
  | 141 => 1
  | 142 => 1
  | 143 => 1
  | 144 => 1
  | 145 => 1
  | 146 => 1
  | 147 => 1
  | 148 => 1
  | 149 => 1
  | 150 => 1
  | 151 => 1
  | 152 => 1
  | 153 => 1
  | 155 => 1
  | 156 => 1
  | 157 => 1
  | 158 => 1
  | 167 => 1
  | 168 => 1
  | 169 => 1
  | 170 => 1
  | 171 => 1
  | 174 => 1
  | 175 => 1
  | 179 => 1
  | 180 => 1
  | 181 => 1
  | 183 => 1
  | 184 => 1
  | 185 => 1
  | 187 => 1
  | 188 => 1
  | 189 => 1
  | _ => 0
def idleOf : FuncId → Bool
  | 28 => true
  | 37 => true
  | 39 => true
  | 40 => true
  | 41 => true
  | 44 => true
  | 46 => true
  | 60 => true
  | 62 => true
  | 173 => true
  | 182 => true
  | _ => false
def A : Go.Abs.Prog := ⟨fnOf, idleOf, modeOf, fun f => if f = 172 then some pGrow else if f = 42 then some pSort else if f = 43 then some pCompact else none⟩

theorem A_idle : ∀ f, A.idle f = true → Idle Tryz.prog f := by
  intro f h
  simp only [A] at h
  unfold idleOf at h
  split at h
  · exact idle_sound Tryz.func28 i28
  · exact idle_sound Tryz.func37 i37
  · exact idle_sound Tryz.func39 i39
  · exact idle_sound Tryz.func40 i40
  · exact idle_sound Tryz.func41 i41
  · exact idle_sound Tryz.func44 i44
  · exact idle_sound Tryz.func46 i46
  · exact idle_sound Tryz.func60 i60
  · exact idle_sound Tryz.func62 i62
  · exact idle_sound Tryz.func173 i173
  · exact idle_sound Tryz.func182 i182
  · cases h

theorem A_fn : ∀ f af, A.prim f = none → A.fn f = some af → ∃ fn, Tryz.prog.funcs[f]? = some fn ∧ chkFunc Tryz.prog fn af = true := by
  intro f af _ h
  simp only [A] at h
  unfold fnOf at h
  split at h
  · cases h; exact ⟨_, Tryz.func6, c6⟩
  · cases h; exact ⟨_, Tryz.func9, c9⟩
  · cases h; exact ⟨_, Tryz.func10, c10⟩
  · cases h; exact ⟨_, Tryz.func11, c11⟩
  · cases h; exact ⟨_, Tryz.func14, c14⟩
  · cases h; exact ⟨_, Tryz.func15, c15⟩
  · cases h; exact ⟨_, Tryz.func16, c16⟩
  · cases h; exact ⟨_, Tryz.func17, c17⟩
  · cases h; exact ⟨_, Tryz.func19, c19⟩
  · cases h; exact ⟨_, Tryz.func20, c20⟩
  · cases h; exact ⟨_, Tryz.func21, c21⟩
  · cases h; exact ⟨_, Tryz.func22, c22⟩
  · cases h; exact ⟨_, Tryz.func25, c25⟩
  · cases h; exact ⟨_, Tryz.func26, c26⟩
  · cases h; exact ⟨_, Tryz.func27, c27⟩
  · cases h; exact ⟨_, Tryz.func29, c29⟩
  · cases h; exact ⟨_, Tryz.func30, c30⟩
  · cases h; exact ⟨_, Tryz.func31, c31⟩
  · cases h; exact ⟨_, Tryz.func36, c36⟩
  · cases h; exact ⟨_, Tryz.func38, c38⟩
  · cases h; exact ⟨_, Tryz.func45, c45⟩
  · cases h; exact ⟨_, Tryz.func47, c47⟩
  · cases h; exact ⟨_, Tryz.func48, c48⟩
  · cases h; exact ⟨_, Tryz.func49, c49⟩
  · cases h; exact ⟨_, Tryz.func50, c50⟩
  · cases h; exact ⟨_, Tryz.func51, c51⟩
  · cases h; exact ⟨_, Tryz.func52, c52⟩
  · cases h; exact ⟨_, Tryz.func53, c53⟩
  · cases h; exact ⟨_, Tryz.func54, c54⟩
  · cases h; exact ⟨_, Tryz.func55, c55⟩
  · cases h; exact ⟨_, Tryz.func56, c56⟩
  · cases h; exact ⟨_, Tryz.func57, c57⟩
  · cases h; exact ⟨_, Tryz.func58, c58⟩
  · cases h; exact ⟨_, Tryz.func61, c61⟩
  · cases h; exact ⟨_, Tryz.func63, c63⟩
  · cases h; exact ⟨_, Tryz.func64, c64⟩
  · cases h; exact ⟨_, Tryz.func65, c65⟩
  · cases h; exact ⟨_, Tryz.func66, c66⟩
  · cases h; exact ⟨_, Tryz.func67, c67⟩
  · cases h; exact ⟨_, Tryz.func68, c68⟩
  · cases h; exact ⟨_, Tryz.func69, c69⟩
  · cases h; exact ⟨_, Tryz.func70, c70⟩
  · cases h; exact ⟨_, Tryz.func71, c71⟩
  · cases h; exact ⟨_, Tryz.func72, c72⟩
  · cases h; exact ⟨_, Tryz.func73, c73⟩
  · cases h; exact ⟨_, Tryz.func74, c74⟩
  · cases h; exact ⟨_, Tryz.func75, c75⟩
  · cases h; exact ⟨_, Tryz.func81, c81⟩
  · cases h; exact ⟨_, Tryz.func82, c82⟩
  · cases h; exact ⟨_, Tryz.func83, c83⟩
  · cases h; exact ⟨_, Tryz.func84, c84⟩
  · cases h; exact ⟨_, Tryz.func85, c85⟩
  · cases h; exact ⟨_, Tryz.func86, c86⟩
  · cases h; exact ⟨_, Tryz.func87, c87⟩
  · cases h; exact ⟨_, Tryz.func88, c88⟩
  · cases h; exact ⟨_, Tryz.func89, c89⟩
  · cases h; exact ⟨_, Tryz.func90, c90⟩
  · cases h; exact ⟨_, Tryz.func93, c93⟩
  · cases h; exact ⟨_, Tryz.func94, c94⟩
  · cases h; exact ⟨_, Tryz.func95, c95⟩
  · cases h; exact ⟨_, Tryz.func96, c96⟩
  · cases h; exact ⟨_, Tryz.func97, c97⟩
  · cases h; exact ⟨_, Tryz.func98, c98⟩
  · cases h; exact ⟨_, Tryz.func99, c99⟩
  · cases h; exact ⟨_, Tryz.func100, c100⟩
  · cases h; exact ⟨_, Tryz.func101, c101⟩
  · cases h; exact ⟨_, Tryz.func102, c102⟩
  · cases h; exact ⟨_, Tryz.func103, c103⟩
  · cases h; exact ⟨_, Tryz.func104, c104⟩
  · cases h; exact ⟨_, Tryz.func105, c105⟩
  · cases h; exact ⟨_, Tryz.func106, c106⟩
  · cases h; exact ⟨_, Tryz.func107, c107⟩
  · cases h; exact ⟨_, Tryz.func108, c108⟩
  · cases h; exact ⟨_, Tryz.func109, c109⟩
  · cases h; exact ⟨_, Tryz.func110, c110⟩
  · cases h; exact ⟨_, Tryz.func111, c111⟩
  · cases h; exact ⟨_, Tryz.func112, c112⟩
  · cases h; exact ⟨_, Tryz.func113, c113⟩
  · cases h; exact ⟨_, Tryz.func114, c114⟩
  · cases h; exact ⟨_, Tryz.func115, c115⟩
  · cases h; exact ⟨_, Tryz.func116, c116⟩
  · cases h; exact ⟨_, Tryz.func117, c117⟩
  · cases h; exact ⟨_, Tryz.func118, c118⟩
  · cases h; exact ⟨_, Tryz.func119, c119⟩
  · cases h; exact ⟨_, Tryz.func120, c120⟩
  · cases h; exact ⟨_, Tryz.func121, c121⟩
  · cases h; exact ⟨_, Tryz.func122, c122⟩
  · cases h; exact ⟨_, Tryz.func123, c123⟩
  · cases h; exact ⟨_, Tryz.func141, c141⟩
  · cases h; exact ⟨_, Tryz.func142, c142⟩
  · cases h; exact ⟨_, Tryz.func143, c143⟩
  · cases h; exact ⟨_, Tryz.func144, c144⟩
  · cases h; exact ⟨_, Tryz.func145, c145⟩
  · cases h; exact ⟨_, Tryz.func146, c146⟩
  · cases h; exact ⟨_, Tryz.func147, c147⟩
  · cases h; exact ⟨_, Tryz.func148, c148⟩
  · cases h; exact ⟨_, Tryz.func149, c149⟩
  · cases h; exact ⟨_, Tryz.func150, c150⟩
  · cases h; exact ⟨_, Tryz.func151, c151⟩
  · cases h; exact ⟨_, Tryz.func152, c152⟩
  · cases h; exact ⟨_, Tryz.func153, c153⟩
  · cases h; exact ⟨_, Tryz.func154, c154⟩
  · cases h; exact ⟨_, Tryz.func155, c155⟩
  · cases h; exact ⟨_, Tryz.func156, c156⟩
  · cases h; exact ⟨_, Tryz.func157, c157⟩
  · cases h; exact ⟨_, Tryz.func158, c158⟩
  · cases h; exact ⟨_, Tryz.func167, c167⟩
  · cases h; exact ⟨_, Tryz.func168, c168⟩
  · cases h; exact ⟨_, Tryz.func169, c169⟩
  · cases h; exact ⟨_, Tryz.func170, c170⟩
  · cases h; exact ⟨_, Tryz.func171, c171⟩
  · cases h; exact ⟨_, Tryz.func174, c174⟩
  · cases h; exact ⟨_, Tryz.func175, c175⟩
  · cases h; exact ⟨_, Tryz.func179, c179⟩
  · cases h; exact ⟨_, Tryz.func180, c180⟩
  · cases h; exact ⟨_, Tryz.func181, c181⟩
  · cases h; exact ⟨_, Tryz.func183, c183⟩
  · cases h; exact ⟨_, Tryz.func184, c184⟩
  · cases h; exact ⟨_, Tryz.func185, c185⟩
  · cases h; exact ⟨_, Tryz.func187, c187⟩
  · cases h; exact ⟨_, Tryz.func188, c188⟩
  · cases h; exact ⟨_, Tryz.func189, c189⟩
  · cases h

theorem A_ok (hp : ∀ f p, A.prim f = some p → PrimOK Tryz.prog A.prom f p) : ProgOK Tryz.prog A := ⟨A_idle, hp, A_fn⟩
end Go.Proofs.YtkmclibmmlgogaaGreat

/- Part 3 of the lemmas on which the law rests: what functions of the program and of the reference do; no conditions but those that each lemma states. -/
import Derived.Test.YtcaoejkpbmiklaaGreatProg
import Derived.Test.YtcaoejkpbmiklaaGreatMg2
namespace Go.Proofs
open Go.Vc
def Tryz.sig : Go.Vc.Sig := ⟨.node (.node (.node (.node (.node (.node (.node (.node (.node (.leaf) 1 ⟨1, 8, [.nilFunc], false, .oth⟩ (.leaf)) 2 ⟨1, 8, [.int .i64 0], false, .num .i64⟩ (.leaf)) 3 ⟨1, 8, [.int .i64 0], false, .num .i64⟩ (.node (.leaf) 4 ⟨1, 1, [.bool false], false, .bas⟩ (.leaf))) 5 ⟨1, 1, [.int .u8 0], false, .num .u8⟩ (.node (.node (.node (.leaf) 6 ⟨1, 1, [.int .u8 0], false, .num .u8⟩ (.leaf)) 7 ⟨4, 24, [.int .i64 0, .int .i64 0, .bool false, .int .u8 0], true, .str [(0, 2), (1, 3), (2, 4), (3, 6)]⟩ (.leaf)) 8 ⟨4, 24, [.int .i64 0, .int .i64 0, .bool false, .int .u8 0], true, .str [(0, 2), (1, 3), (2, 4), (3, 6)]⟩ (.node (.leaf) 9 ⟨1, 16, [.string ⟨#[]⟩], false, .txt⟩ (.leaf)))) 10 ⟨1, 16, [.string ⟨#[]⟩], false, .txt⟩ (.node (.node (.node (.node (.leaf) 11 ⟨1, 16, [.string ⟨#[]⟩], false, .txt⟩ (.leaf)) 12 ⟨1, 8, [.int .u64 0], false, .num .u64⟩ (.leaf)) 13 ⟨2, 24, [.string ⟨#[]⟩, .int .u64 0], true, .str [(0, 9), (1, 12)]⟩ (.node (.leaf) 14 ⟨2, 24, [.string ⟨#[]⟩, .int .u64 0], true, .str [(0, 9), (1, 12)]⟩ (.leaf))) 15 ⟨1, 8, [.pointer none], false, .ptr 298⟩ (.node (.node (.leaf) 16 ⟨1, 8, [.pointer none], false, .ptr 301⟩ (.leaf)) 17 ⟨1, 8, [.pointer none], false, .ptr 309⟩ (.node (.leaf) 18 ⟨1, 8, [.pointer none], true, .str [(0, 17)]⟩ (.leaf))))) 19 ⟨1, 8, [.pointer none], true, .str [(0, 17)]⟩ (.node (.node (.node (.node (.node (.leaf) 20 ⟨1, 16, [.nilIface], false, .ifc⟩ (.leaf)) 21 ⟨1, 4, [.int .i32 0], false, .num .i32⟩ (.leaf)) 22 ⟨1, 24, [.slice none 0 0], false, .sl 121⟩ (.node (.leaf) 23 ⟨1, 24, [.slice none 0 0], false, .sl 127⟩ (.leaf))) 24 ⟨2, 48, [.slice none 0 0, .slice none 0 0], true, .str [(0, 22), (1, 23)]⟩ (.node (.node (.leaf) 25 ⟨2, 48, [.slice none 0 0, .slice none 0 0], true, .str [(0, 22), (1, 23)]⟩ (.leaf)) 26 ⟨1, 8, [.nilFunc], false, .oth⟩ (.node (.leaf) 27 ⟨1, 24, [.slice none 0 0], false, .sl 68⟩ (.leaf)))) 28 ⟨1, 24, [.slice none 0 0], false, .sl 50⟩ (.node (.node (.node (.node (.leaf) 29 ⟨1, 24, [.slice none 0 0], false, .sl 3⟩ (.leaf)) 30 ⟨2, 16, [.bool false, .int .i64 0], true, .str [(0, 4), (1, 3)]⟩ (.leaf)) 31 ⟨2, 16, [.bool false, .int .i64 0], true, .str [(0, 4), (1, 3)]⟩ (.node (.leaf) 32 ⟨7, 104, [.slice none 0 0, .slice none 0 0, .slice none 0 0, .int .i64 0, .int .i64 0, .bool false, .int .i64 0], true, .str [(0, 27), (1, 28), (2, 29), (3, 3), (4, 3), (5, 31)]⟩ (.leaf))) 33 ⟨7, 104, [.slice none 0 0, .slice none 0 0, .slice none 0 0, .int .i64 0, .int .i64 0, .bool false, .int .i64 0], true, .str [(0, 27), (1, 28), (2, 29), (3, 3), (4, 3), (5, 31)]⟩ (.node (.node (.leaf) 34 ⟨1, 8, [.nilFunc], false, .oth⟩ (.leaf)) 35 ⟨1, 24, [.slice none 0 0], false, .sl 102⟩ (.node (.leaf) 36 ⟨1, 24, [.slice none 0 0], false, .sl 57⟩ (.leaf)))))) 37 ⟨2, 48, [.slice none 0 0, .slice none 0 0], true, .str [(0, 35), (1, 36)]⟩ (.node (.node (.node (.node (.node (.node (.leaf) 38 ⟨2, 48, [.slice none 0 0, .slice none 0 0], true, .str [(0, 35), (1, 36)]⟩ (.leaf)) 39 ⟨1, 8, [.nilFunc], false, .oth⟩ (.leaf)) 40 ⟨1, 8, [.nilFunc], false, .oth⟩ (.node (.leaf) 41 ⟨1, 8, [.nilFunc], false, .oth⟩ (.leaf))) 42 ⟨1, 8, [.nilFunc], false, .oth⟩ (.node (.node (.node (.leaf) 43 ⟨1, 8, [.nilFunc], false, .oth⟩ (.leaf)) 44 ⟨1, 8, [.nilFunc], false, .oth⟩ (.leaf)) 45 ⟨1, 24, [.slice none 0 0], false, .sl 5⟩ (.node (.leaf) 47 ⟨1, 8, [.nilFunc], false, .oth⟩ (.leaf)))) 48 ⟨1, 24, [.slice none 0 0], false, .sl 31⟩ (.node (.node (.node (.node (.leaf) 49 ⟨4, 64, [.int .i64 0, .int .i64 0, .slice none 0 0, .slice none 0 0], true, .str [(0, 3), (1, 3), (2, 48), (3, 48)]⟩ (.leaf)) 50 ⟨4, 64, [.int .i64 0, .int .i64 0, .slice none 0 0, .slice none 0 0], true, .str [(0, 3), (1, 3), (2, 48), (3, 48)]⟩ (.leaf)) 51 ⟨3, 24, [.int .i64 0, .int .i64 0, .int .i64 0], true, .str [(0, 3), (1, 3), (2, 3)]⟩ (.node (.leaf) 52 ⟨3, 24, [.int .i64 0, .int .i64 0, .int .i64 0], true, .str [(0, 3), (1, 3), (2, 3)]⟩ (.leaf))) 53 ⟨1, 24, [.slice none 0 0], false, .sl 52⟩ (.node (.node (.leaf) 54 ⟨1, 24, [.slice none 0 0], false, .sl 158⟩ (.leaf)) 55 ⟨1, 24, [.slice none 0 0], false, .sl 72⟩ (.node (.leaf) 56 ⟨8, 128, [.int .i64 0, .int .i64 0, .slice none 0 0, .int .i64 0, .int .i64 0, .slice none 0 0, .slice none 0 0, .slice none 0 0], true, .str [(0, 3), (1, 3), (2, 29), (3, 3), (4, 3), (5, 53), (6, 54), (7, 55)]⟩ (.leaf))))) 57 ⟨8, 128, [.int .i64 0, .int .i64 0, .slice none 0 0, .int .i64 0, .int .i64 0, .slice none 0 0, .slice none 0 0, .slice none 0 0], true, .str [(0, 3), (1, 3), (2, 29), (3, 3), (4, 3), (5, 53), (6, 54), (7, 55)]⟩ (.node (.node (.node (.node (.node (.leaf) 58 ⟨1, 8, [.nilFunc], false, .oth⟩ (.leaf)) 59 ⟨1, 8, [.nilFunc], false, .oth⟩ (.leaf)) 60 ⟨1, 8, [.nilFunc], false, .oth⟩ (.node (.leaf) 61 ⟨1, 8, [.nilFunc], false, .oth⟩ (.leaf))) 62 ⟨1, 8, [.nilFunc], false, .oth⟩ (.node (.node (.leaf) 63 ⟨1, 8, [.nilFunc], false, .oth⟩ (.leaf)) 65 ⟨1, 8, [.nilFunc], false, .oth⟩ (.node (.leaf) 66 ⟨1, 8, [.nilFunc], false, .oth⟩ (.leaf)))) 67 ⟨2, 32, [.int .i64 0, .slice none 0 0], true, .str [(0, 3), (1, 48)]⟩ (.node (.node (.node (.node (.leaf) 68 ⟨2, 32, [.int .i64 0, .slice none 0 0], true, .str [(0, 3), (1, 48)]⟩ (.leaf)) 69 ⟨1, 8, [.nilFunc], false, .oth⟩ (.leaf)) 70 ⟨1, 8, [.nilFunc], false, .oth⟩ (.node (.leaf) 71 ⟨4, 32, [.int .i64 0, .int .i64 0, .int .i64 0, .int .i64 0], true, .str [(0, 3), (1, 3), (2, 3), (3, 3)]⟩ (.leaf))) 72 ⟨4, 32, [.int .i64 0, .int .i64 0, .int .i64 0, .int .i64 0], true, .str [(0, 3), (1, 3), (2, 3), (3, 3)]⟩ (.node (.node (.leaf) 73 ⟨1, 8, [.nilFunc], false, .oth⟩ (.leaf)) 75 ⟨1, 8, [.nilFunc], false, .oth⟩ (.node (.leaf) 77 ⟨1, 8, [.nilFunc], false, .oth⟩ (.leaf))))))) 78 ⟨1, 8, [.nilFunc], false, .oth⟩ (.node (.node (.node (.node (.node (.node (.node (.leaf) 79 ⟨1, 8, [.nilFunc], false, .oth⟩ (.leaf)) 80 ⟨1, 8, [.nilFunc], false, .oth⟩ (.leaf)) 81 ⟨1, 8, [.nilFunc], false, .oth⟩ (.node (.leaf) 82 ⟨1, 8, [.nilFunc], false, .oth⟩ (.leaf))) 83 ⟨1, 8, [.nilFunc], false, .oth⟩ (.node (.node (.node (.leaf) 84 ⟨1, 8, [.nilFunc], false, .oth⟩ (.leaf)) 85 ⟨1, 8, [.nilFunc], false, .oth⟩ (.leaf)) 86 ⟨1, 8, [.nilFunc], false, .oth⟩ (.node (.leaf) 87 ⟨1, 8, [.nilFunc], false, .oth⟩ (.leaf)))) 88 ⟨1, 8, [.nilFunc], false, .oth⟩ (.node (.node (.node (.node (.leaf) 89 ⟨1, 8, [.nilFunc], false, .oth⟩ (.leaf)) 90 ⟨1, 8, [.nilFunc], false, .oth⟩ (.leaf)) 91 ⟨1, 8, [.nilFunc], false, .oth⟩ (.node (.leaf) 92 ⟨1, 8, [.nilFunc], false, .oth⟩ (.leaf))) 93 ⟨1, 8, [.nilFunc], false, .oth⟩ (.node (.node (.leaf) 94 ⟨1, 8, [.pointer none], false, .ptr 155⟩ (.leaf)) 95 ⟨1, 8, [.nilFunc], false, .oth⟩ (.node (.leaf) 96 ⟨1, 8, [.nilFunc], false, .oth⟩ (.leaf))))) 97 ⟨1, 8, [.nilFunc], false, .oth⟩ (.node (.node (.node (.node (.node (.leaf) 98 ⟨1, 8, [.nilFunc], false, .oth⟩ (.leaf)) 99 ⟨1, 8, [.nilFunc], false, .oth⟩ (.leaf)) 100 ⟨1, 8, [.nilFunc], false, .oth⟩ (.node (.leaf) 101 ⟨2, 32, [.int .i64 0, .slice none 0 0], true, .str [(0, 3), (1, 29)]⟩ (.leaf))) 102 ⟨2, 32, [.int .i64 0, .slice none 0 0], true, .str [(0, 3), (1, 29)]⟩ (.node (.node (.leaf) 103 ⟨1, 8, [.nilFunc], false, .oth⟩ (.leaf)) 104 ⟨1, 8, [.nilFunc], false, .oth⟩ (.node (.leaf) 105 ⟨1, 8, [.nilFunc], false, .oth⟩ (.leaf)))) 106 ⟨1, 8, [.nilFunc], false, .oth⟩ (.node (.node (.node (.node (.leaf) 107 ⟨1, 8, [.nilFunc], false, .oth⟩ (.leaf)) 108 ⟨1, 8, [.nilFunc], false, .oth⟩ (.leaf)) 109 ⟨1, 8, [.nilFunc], false, .oth⟩ (.node (.leaf) 110 ⟨1, 8, [.nilFunc], false, .oth⟩ (.leaf))) 111 ⟨1, 8, [.nilFunc], false, .oth⟩ (.node (.node (.leaf) 112 ⟨1, 8, [.nilFunc], false, .oth⟩ (.leaf)) 113 ⟨1, 8, [.nilFunc], false, .oth⟩ (.node (.leaf) 114 ⟨1, 8, [.nilFunc], false, .oth⟩ (.leaf)))))) 115 ⟨1, 8, [.nilFunc], false, .oth⟩ (.node (.node (.node (.node (.node (.node (.leaf) 116 ⟨1, 8, [.nilFunc], false, .oth⟩ (.leaf)) 117 ⟨1, 1, [.int .i8 0], false, .num .i8⟩ (.leaf)) 118 ⟨1, 1, [.int .i8 0], false, .num .i8⟩ (.node (.leaf) 119 ⟨5, 40, [.nilFunc, .nilFunc, .nilFunc, .nilFunc, .nilFunc], true, .arr 5 115⟩ (.leaf))) 120 ⟨1, 8, [.nilFunc], false, .oth⟩ (.node (.node (.node (.leaf) 121 ⟨2, 32, [.int .i64 0, .slice none 0 0], true, .str [(0, 3), (1, 29)]⟩ (.leaf)) 122 ⟨1, 8, [.nilFunc], false, .oth⟩ (.leaf)) 123 ⟨1, 24, [.slice none 0 0], false, .sl 241⟩ (.node (.leaf) 124 ⟨1, 24, [.slice none 0 0], false, .sl 233⟩ (.leaf)))) 125 ⟨1, 24, [.slice none 0 0], false, .sl 244⟩ (.node (.node (.node (.node (.leaf) 126 ⟨8, 128, [.int .i64 0, .int .i64 0, .slice none 0 0, .int .i64 0, .int .i64 0, .slice none 0 0, .slice none 0 0, .slice none 0 0], true, .str [(0, 3), (1, 3), (2, 29), (3, 3), (4, 3), (5, 123), (6, 124), (7, 125)]⟩ (.leaf)) 127 ⟨8, 128, [.int .i64 0, .int .i64 0, .slice none 0 0, .int .i64 0, .int .i64 0, .slice none 0 0, .slice none 0 0, .slice none 0 0], true, .str [(0, 3), (1, 3), (2, 29), (3, 3), (4, 3), (5, 123), (6, 124), (7, 125)]⟩ (.leaf)) 128 ⟨1, 8, [.nilFunc], false, .oth⟩ (.node (.leaf) 129 ⟨1, 8, [.nilFunc], false, .oth⟩ (.leaf))) 130 ⟨1, 8, [.pointer none], false, .ptr 132⟩ (.node (.node (.leaf) 131 ⟨11, 168, [.slice none 0 0, .slice none 0 0, .slice none 0 0, .slice none 0 0, .slice none 0 0, .int .i64 0, .int .i64 0, .bool false, .int .i64 0, .bool false, .int .i64 0], true, .str [(0, 38), (2, 33), (9, 4), (10, 3)]⟩ (.leaf)) 132 ⟨11, 168, [.slice none 0 0, .slice none 0 0, .slice none 0 0, .slice none 0 0, .slice none 0 0, .int .i64 0, .int .i64 0, .bool false, .int .i64 0, .bool false, .int .i64 0], true, .str [(0, 38), (2, 33), (9, 4), (10, 3)]⟩ (.node (.leaf) 133 ⟨1, 8, [.nilFunc], false, .oth⟩ (.leaf))))) 134 ⟨1, 8, [.nilFunc], false, .oth⟩ (.node (.node (.node (.node (.node (.leaf) 135 ⟨1, 8, [.nilFunc], false, .oth⟩ (.leaf)) 136 ⟨1, 8, [.nilFunc], false, .oth⟩ (.leaf)) 137 ⟨1, 8, [.map none], false, .oth⟩ (.node (.leaf) 138 ⟨1, 8, [.nilFunc], false, .oth⟩ (.leaf))) 139 ⟨1, 8, [.nilFunc], false, .oth⟩ (.node (.node (.leaf) 140 ⟨1, 8, [.int .i64 0], true, .str [(0, 3)]⟩ (.leaf)) 141 ⟨1, 8, [.int .i64 0], true, .str [(0, 3)]⟩ (.node (.leaf) 143 ⟨1, 8, [.nilFunc], false, .oth⟩ (.leaf)))) 144 ⟨1, 8, [.pointer none], false, .ptr 33⟩ (.node (.node (.node (.node (.leaf) 145 ⟨1, 8, [.nilFunc], false, .oth⟩ (.leaf)) 146 ⟨1, 8, [.nilFunc], false, .oth⟩ (.leaf)) 147 ⟨1, 8, [.nilFunc], false, .oth⟩ (.node (.leaf) 148 ⟨1, 8, [.nilFunc], false, .oth⟩ (.leaf))) 149 ⟨1, 8, [.nilFunc], false, .oth⟩ (.node (.node (.leaf) 150 ⟨1, 8, [.nilFunc], false, .oth⟩ (.leaf)) 151 ⟨1, 8, [.nilFunc], false, .oth⟩ (.node (.leaf) 152 ⟨1, 8, [.nilFunc], false, .oth⟩ (.leaf)))))))) 153 ⟨1, 8, [.nilFunc], false, .oth⟩ (.node (.node (.node (.node (.node (.node (.node (.node (.leaf) 154 ⟨2, 32, [.slice none 0 0, .int .i64 0], true, .str [(0, 45), (1, 3)]⟩ (.leaf)) 155 ⟨2, 32, [.slice none 0 0, .int .i64 0], true, .str [(0, 45), (1, 3)]⟩ (.leaf)) 156 ⟨1, 8, [.nilFunc], false, .oth⟩ (.node (.leaf) 157 ⟨3, 56, [.bool false, .slice none 0 0, .slice none 0 0], true, .str [(0, 4), (1, 29), (2, 29)]⟩ (.leaf))) 158 ⟨3, 56, [.bool false, .slice none 0 0, .slice none 0 0], true, .str [(0, 4), (1, 29), (2, 29)]⟩ (.node (.node (.node (.leaf) 159 ⟨1, 8, [.nilFunc], false, .oth⟩ (.leaf)) 160 ⟨1, 8, [.nilFunc], false, .oth⟩ (.leaf)) 161 ⟨1, 8, [.nilFunc], false, .oth⟩ (.node (.leaf) 162 ⟨1, 8, [.nilFunc], false, .oth⟩ (.leaf)))) 163 ⟨1, 8, [.nilFunc], false, .oth⟩ (.node (.node (.node (.node (.leaf) 164 ⟨1, 8, [.nilFunc], false, .oth⟩ (.leaf)) 165 ⟨1, 8, [.nilFunc], false, .oth⟩ (.leaf)) 166 ⟨1, 8, [.nilFunc], false, .oth⟩ (.node (.leaf) 167 ⟨1, 8, [.nilFunc], false, .oth⟩ (.leaf))) 168 ⟨1, 8, [.nilFunc], false, .oth⟩ (.node (.node (.leaf) 169 ⟨1, 8, [.nilFunc], false, .oth⟩ (.leaf)) 170 ⟨1, 8, [.nilFunc], false, .oth⟩ (.node (.leaf) 171 ⟨1, 8, [.nilFunc], false, .oth⟩ (.leaf))))) 172 ⟨1, 8, [.nilFunc], false, .oth⟩ (.node (.node (.node (.node (.node (.leaf) 173 ⟨1, 8, [.nilFunc], false, .oth⟩ (.leaf)) 174 ⟨1, 8, [.nilFunc], false, .oth⟩ (.leaf)) 175 ⟨1, 8, [.nilFunc], false, .oth⟩ (.node (.leaf) 176 ⟨1, 8, [.nilFunc], false, .oth⟩ (.leaf))) 177 ⟨1, 8, [.nilFunc], false, .oth⟩ (.node (.node (.leaf) 178 ⟨1, 8, [.nilFunc], false, .oth⟩ (.leaf)) 179 ⟨1, 8, [.nilFunc], false, .oth⟩ (.node (.leaf) 181 ⟨1, 8, [.nilFunc], false, .oth⟩ (.leaf)))) 182 ⟨1, 8, [.nilFunc], false, .oth⟩ (.node (.node (.node (.node (.leaf) 183 ⟨1, 8, [.nilFunc], false, .oth⟩ (.leaf)) 184 ⟨1, 8, [.nilFunc], false, .oth⟩ (.leaf)) 185 ⟨1, 8, [.nilFunc], false, .oth⟩ (.node (.leaf) 186 ⟨1, 8, [.nilFunc], false, .oth⟩ (.leaf))) 187 ⟨1, 8, [.nilFunc], false, .oth⟩ (.node (.node (.leaf) 188 ⟨1, 8, [.nilFunc], false, .oth⟩ (.leaf)) 189 ⟨1, 8, [.pointer none], false, .ptr 50⟩ (.node (.leaf) 190 ⟨1, 8, [.nilFunc], false, .oth⟩ (.leaf)))))) 191 ⟨1, 8, [.nilFunc], false, .oth⟩ (.node (.node (.node (.node (.node (.node (.leaf) 192 ⟨1, 8, [.nilFunc], false, .oth⟩ (.leaf)) 193 ⟨1, 8, [.nilFunc], false, .oth⟩ (.leaf)) 194 ⟨1, 8, [.nilFunc], false, .oth⟩ (.node (.leaf) 195 ⟨1, 8, [.nilFunc], false, .oth⟩ (.leaf))) 196 ⟨1, 8, [.int .i64 0], false, .num .i64⟩ (.node (.node (.node (.leaf) 197 ⟨2, 16, [.int .i64 0, .int .i64 0], true, .str [(0, 196), (1, 196)]⟩ (.leaf)) 198 ⟨2, 16, [.int .i64 0, .int .i64 0], true, .str [(0, 196), (1, 196)]⟩ (.leaf)) 199 ⟨1, 8, [.nilFunc], false, .oth⟩ (.node (.leaf) 201 ⟨1, 8, [.nilFunc], false, .oth⟩ (.leaf)))) 202 ⟨1, 8, [.nilFunc], false, .oth⟩ (.node (.node (.node (.node (.leaf) 203 ⟨1, 8, [.nilFunc], false, .oth⟩ (.leaf)) 204 ⟨1, 8, [.pointer none], false, .ptr 248⟩ (.leaf)) 205 ⟨1, 8, [.nilFunc], false, .oth⟩ (.node (.leaf) 206 ⟨1, 8, [.nilFunc], false, .oth⟩ (.leaf))) 207 ⟨1, 8, [.nilFunc], false, .oth⟩ (.node (.node (.leaf) 208 ⟨1, 8, [.nilFunc], false, .oth⟩ (.leaf)) 209 ⟨1, 8, [.nilFunc], false, .oth⟩ (.node (.leaf) 210 ⟨1, 8, [.nilFunc], false, .oth⟩ (.leaf))))) 211 ⟨1, 8, [.nilFunc], false, .oth⟩ (.node (.node (.node (.node (.node (.leaf) 212 ⟨1, 8, [.nilFunc], false, .oth⟩ (.leaf)) 213 ⟨1, 8, [.nilFunc], false, .oth⟩ (.leaf)) 214 ⟨1, 8, [.nilFunc], false, .oth⟩ (.node (.leaf) 215 ⟨1, 24, [.slice none 0 0], false, .sl 174⟩ (.leaf))) 216 ⟨1, 8, [.nilFunc], false, .oth⟩ (.node (.node (.leaf) 217 ⟨1, 8, [.nilFunc], false, .oth⟩ (.leaf)) 218 ⟨1, 8, [.nilFunc], false, .oth⟩ (.node (.leaf) 220 ⟨1, 8, [.nilFunc], false, .oth⟩ (.leaf)))) 221 ⟨1, 8, [.nilFunc], false, .oth⟩ (.node (.node (.node (.node (.leaf) 222 ⟨1, 8, [.nilFunc], false, .oth⟩ (.leaf)) 223 ⟨1, 16, [.nilIface], false, .ifc⟩ (.leaf)) 224 ⟨1, 16, [.nilIface], false, .ifc⟩ (.node (.leaf) 225 ⟨1, 8, [.nilFunc], false, .oth⟩ (.leaf))) 226 ⟨0, 0, [], true, .str []⟩ (.node (.node (.leaf) 227 ⟨0, 0, [], true, .str []⟩ (.leaf)) 228 ⟨1, 1, [.bool false], true, .str [(0, 4)]⟩ (.node (.leaf) 229 ⟨1, 1, [.bool false], true, .str [(0, 4)]⟩ (.leaf))))))) 230 ⟨1, 8, [.int .i64 0], true, .str [(0, 3)]⟩ (.node (.node (.node (.node (.node (.node (.node (.leaf) 231 ⟨1, 8, [.int .i64 0], true, .str [(0, 3)]⟩ (.leaf)) 232 ⟨1, 8, [.nilFunc], false, .oth⟩ (.leaf)) 233 ⟨3, 56, [.bool false, .slice none 0 0, .slice none 0 0], true, .str [(0, 4), (1, 29), (2, 29)]⟩ (.node (.leaf) 234 ⟨1, 8, [.nilFunc], false, .oth⟩ (.leaf))) 235 ⟨1, 8, [.nilFunc], false, .oth⟩ (.node (.node (.node (.leaf) 236 ⟨1, 8, [.pointer none], false, .ptr 68⟩ (.leaf)) 237 ⟨1, 8, [.nilFunc], false, .oth⟩ (.leaf)) 238 ⟨1, 8, [.nilFunc], false, .oth⟩ (.node (.leaf) 239 ⟨1, 8, [.nilFunc], false, .oth⟩ (.leaf)))) 240 ⟨1, 8, [.nilFunc], false, .oth⟩ (.node (.node (.node (.node (.leaf) 241 ⟨3, 24, [.int .i64 0, .int .i64 0, .int .i64 0], true, .str [(0, 3), (1, 3), (2, 3)]⟩ (.leaf)) 242 ⟨1, 8, [.nilFunc], false, .oth⟩ (.leaf)) 243 ⟨1, 8, [.nilFunc], false, .oth⟩ (.node (.leaf) 244 ⟨4, 32, [.int .i64 0, .int .i64 0, .int .i64 0, .int .i64 0], true, .str [(0, 3), (1, 3), (2, 3), (3, 3)]⟩ (.leaf))) 245 ⟨9, 136, [.pointer none, .int .i64 0, .int .i64 0, .slice none 0 0, .int .i64 0, .int .i64 0, .slice none 0 0, .slice none 0 0, .slice none 0 0], true, .str [(0, 189), (1, 57)]⟩ (.node (.node (.leaf) 246 ⟨9, 136, [.pointer none, .int .i64 0, .int .i64 0, .slice none 0 0, .int .i64 0, .int .i64 0, .slice none 0 0, .slice none 0 0, .slice none 0 0], true, .str [(0, 189), (1, 57)]⟩ (.leaf)) 247 ⟨12, 192, [.pointer none, .int .i64 0, .int .i64 0, .slice none 0 0, .int .i64 0, .int .i64 0, .slice none 0 0, .slice none 0 0, .slice none 0 0, .slice none 0 0, .slice none 0 0, .pointer none], true, .str [(0, 246), (9, 38), (11, 144)]⟩ (.node (.leaf) 248 ⟨12, 192, [.pointer none, .int .i64 0, .int .i64 0, .slice none 0 0, .int .i64 0, .int .i64 0, .slice none 0 0, .slice none 0 0, .slice none 0 0, .slice none 0 0, .slice none 0 0, .pointer none], true, .str [(0, 246), (9, 38), (11, 144)]⟩ (.leaf))))) 249 ⟨1, 8, [.nilFunc], false, .oth⟩ (.node (.node (.node (.node (.node (.leaf) 250 ⟨1, 8, [.nilFunc], false, .oth⟩ (.leaf)) 251 ⟨1, 8, [.nilFunc], false, .oth⟩ (.leaf)) 252 ⟨1, 8, [.nilFunc], false, .oth⟩ (.node (.leaf) 253 ⟨1, 8, [.nilFunc], false, .oth⟩ (.leaf))) 254 ⟨1, 8, [.nilFunc], false, .oth⟩ (.node (.node (.leaf) 256 ⟨1, 8, [.nilFunc], false, .oth⟩ (.leaf)) 257 ⟨1, 8, [.nilFunc], false, .oth⟩ (.node (.leaf) 258 ⟨1, 8, [.nilFunc], false, .oth⟩ (.leaf)))) 259 ⟨1, 8, [.nilFunc], false, .oth⟩ (.node (.node (.node (.node (.leaf) 260 ⟨1, 8, [.nilFunc], false, .oth⟩ (.leaf)) 261 ⟨1, 8, [.nilFunc], false, .oth⟩ (.leaf)) 262 ⟨1, 8, [.nilFunc], false, .oth⟩ (.node (.leaf) 263 ⟨0, 0, [], true, .str []⟩ (.leaf))) 264 ⟨0, 0, [], true, .str []⟩ (.node (.node (.leaf) 265 ⟨1, 8, [.nilFunc], false, .oth⟩ (.leaf)) 266 ⟨1, 24, [.slice none 0 0], false, .sl 268⟩ (.node (.leaf) 267 ⟨1, 8, [.nilFunc], false, .oth⟩ (.leaf)))))) 268 ⟨1, 8, [.int .i64 0], false, .num .i64⟩ (.node (.node (.node (.node (.node (.node (.leaf) 269 ⟨1, 8, [.nilFunc], false, .oth⟩ (.leaf)) 270 ⟨1, 8, [.nilFunc], false, .oth⟩ (.leaf)) 271 ⟨1, 8, [.nilFunc], false, .oth⟩ (.node (.leaf) 272 ⟨1, 8, [.nilFunc], false, .oth⟩ (.leaf))) 273 ⟨1, 8, [.nilFunc], false, .oth⟩ (.node (.node (.leaf) 274 ⟨1, 8, [.pointer none], false, .ptr 31⟩ (.leaf)) 275 ⟨1, 8, [.nilFunc], false, .oth⟩ (.node (.leaf) 276 ⟨1, 8, [.nilFunc], false, .oth⟩ (.leaf)))) 277 ⟨1, 8, [.nilFunc], false, .oth⟩ (.node (.node (.node (.node (.leaf) 278 ⟨1, 8, [.nilFunc], false, .oth⟩ (.leaf)) 279 ⟨1, 8, [.nilFunc], false, .oth⟩ (.leaf)) 281 ⟨1, 8, [.nilFunc], false, .oth⟩ (.node (.leaf) 282 ⟨1, 8, [.int .u64 0], false, .num .u64⟩ (.leaf))) 284 ⟨1, 8, [.nilFunc], false, .oth⟩ (.node (.node (.leaf) 285 ⟨1, 8, [.nilFunc], false, .oth⟩ (.leaf)) 286 ⟨1, 8, [.nilFunc], false, .oth⟩ (.node (.leaf) 287 ⟨1, 4, [.int .u32 0], false, .num .u32⟩ (.leaf))))) 289 ⟨1, 8, [.nilFunc], false, .oth⟩ (.node (.node (.node (.node (.node (.leaf) 290 ⟨1, 8, [.int .u64 0], false, .num .u64⟩ (.leaf)) 292 ⟨1, 8, [.nilFunc], false, .oth⟩ (.leaf)) 294 ⟨1, 8, [.nilFunc], false, .oth⟩ (.node (.leaf) 295 ⟨1, 8, [.nilFunc], false, .oth⟩ (.leaf))) 296 ⟨1, 8, [.nilFunc], false, .oth⟩ (.node (.node (.leaf) 297 ⟨4, 40, [.pointer none, .pointer none, .pointer none, .string ⟨#[]⟩], true, .str [(0, 17), (1, 17), (2, 17), (3, 9)]⟩ (.leaf)) 298 ⟨4, 40, [.pointer none, .pointer none, .pointer none, .string ⟨#[]⟩], true, .str [(0, 17), (1, 17), (2, 17), (3, 9)]⟩ (.node (.leaf) 299 ⟨0, 0, [], true, .arr 0 16⟩ (.leaf)))) 302 ⟨1, 1, [.int .u8 0], false, .num .u8⟩ (.node (.node (.node (.node (.leaf) 303 ⟨1, 1, [.int .u8 0], false, .num .u8⟩ (.leaf)) 304 ⟨1, 8, [.nilFunc], false, .oth⟩ (.leaf)) 305 ⟨1, 8, [.pointer none], false, .ptr 5⟩ (.node (.leaf) 306 ⟨1, 4, [.int .i32 0], false, .num .i32⟩ (.leaf))) 307 ⟨1, 4, [.int .i32 0], false, .num .i32⟩ (.node (.node (.leaf) 308 ⟨11, 48, [.int .u64 0, .int .u64 0, .int .u32 0, .int .u8 0, .int .u8 0, .int .u8 0, .int .u8 0, .nilFunc, .pointer none, .int .i32 0, .int .i32 0], true, .str [(0, 12), (1, 12), (2, 287), (3, 302), (4, 5), (5, 5), (6, 303), (7, 304), (8, 305), (9, 306), (10, 307)]⟩ (.leaf)) 309 ⟨11, 48, [.int .u64 0, .int .u64 0, .int .u32 0, .int .u8 0, .int .u8 0, .int .u8 0, .int .u8 0, .nilFunc, .pointer none, .int .i32 0, .int .i32 0], true, .str [(0, 12), (1, 12), (2, 287), (3, 302), (4, 5), (5, 5), (6, 303), (7, 304), (8, 305), (9, 306), (10, 307)]⟩ (.node (.leaf) 310 ⟨1, 8, [.pointer none], false, .oth⟩ (.leaf)))))))), 3, 284⟩
theorem Tryz.sigOk : SigOk Tryz.prog Tryz.sig := SigOk.mk' (by kernel_rfl) (by kernel_rfl) (by kernel_rfl) (by kernel_rfl)
def Tryz.F3 : Fs := { L := [2, 6, 7, 8, 12], LL := [31, 32], plans := [(10, [0, 1, 2, 3, 4])] }
theorem Tryz.ok3 : fnOk Tryz.F3 Tryz.f3 2 = true := by kernel_rfl
def Tryz.F4 : Fs := { L := [3, 5, 7, 8], LL := [23, 24, 43, 45, 50, 69, 73, 82, 88], plans := [(5, [2, 0, 1, 3, 4, 5]), (11, [0, 2, 7, 11, 1, 3, 4, 5, 8, 6, 9, 10, 12]), (14, [0, 1, 2, 3, 4, 6, 5, 7, 8, 9, 10, 11, 12, 13, 15, 19, 14, 16, 17, 20, 18, 21, 22, 23])] }
theorem Tryz.ok4 : fnOk Tryz.F4 Tryz.f4 1 = true := by kernel_rfl
def Tryz.F5 : Fs := { L := [3, 5], LL := [17, 18, 24, 36, 37, 49, 53, 55], plans := [(5, [2, 0, 1, 3, 4, 5, 6, 7, 8, 9, 10, 11, 12, 13, 14, 15, 16, 17, 18]), (6, [2, 0, 1, 3, 4, 5]), (9, [0, 2, 1, 3, 4, 5, 7, 6, 8, 9, 10])] }
theorem Tryz.ok5 : fnOk Tryz.F5 Tryz.f5 1 = true := by kernel_rfl
def Tryz.F6 : Fs := { L := [5, 7], LL := [24, 25, 31, 35, 36, 41, 45, 49, 54, 58, 62, 68], plans := [(5, [2, 0, 1, 3, 4, 5, 6, 7, 8, 9, 10]), (6, [2, 0, 1, 3, 4, 5]), (7, [0, 1, 2, 3, 4, 7, 5, 9, 6, 8, 10, 11, 12]), (9, [0, 1, 2, 3, 4, 6, 7, 8, 13, 5, 9, 10, 11, 15, 12, 14, 16, 17, 18])] }
theorem Tryz.ok6 : fnOk Tryz.F6 Tryz.f6 2 = true := by kernel_rfl
def Tryz.F7 : Fs := { L := [5, 7, 9], LL := [27, 28, 34, 46, 47], plans := [(5, [2, 0, 1, 3, 4, 5, 6, 7, 8, 9, 10, 11, 12, 13, 14, 15, 16, 17, 18]), (6, [2, 0, 1, 3, 4, 5])] }
theorem Tryz.ok7 : fnOk Tryz.F7 Tryz.f7 2 = true := by kernel_rfl
def Tryz.F8 : Fs := { L := [3, 4, 5], LL := [20, 21, 22, 27, 28, 32, 33, 34, 59, 65, 73, 80, 89, 95], plans := [(5, [0, 1, 2, 3, 4, 5, 6, 7, 8, 9, 10, 11]), (6, [0, 1, 2, 3, 4, 5]), (14, [0, 2, 6, 8, 1, 3, 4, 7, 9, 10, 5, 11, 12, 13, 14, 16, 21, 23, 15, 17, 18, 22, 24, 25, 19, 20, 26, 27, 28, 29]), (16, [0, 2, 6, 8, 1, 3, 4, 7, 9, 10, 5, 11, 12, 13])] }
theorem Tryz.ok8 : fnOk Tryz.F8 Tryz.f8 1 = true := by kernel_rfl
def Tryz.F9 : Fs := { L := [3, 4, 5], LL := [18, 19, 20, 25, 26, 30, 31, 32, 61, 62, 66, 68, 74, 82, 89, 93], plans := [(5, [0, 1, 2, 3, 4, 5, 6, 7, 8, 9, 10, 11]), (6, [0, 1, 2, 3, 4, 5]), (10, [0, 1, 2, 3, 4, 6, 5, 7, 8, 9, 10, 11, 12, 15, 16, 13, 14, 17, 18, 19, 20, 23, 21, 22, 24, 25, 26, 27, 29, 31, 28, 30, 32, 33, 34, 35])] }
theorem Tryz.ok9 : fnOk Tryz.F9 Tryz.f9 1 = true := by kernel_rfl
def Tryz.F10 : Fs := { L := [3, 4, 5, 8], LL := [22, 23, 24, 29, 30, 36, 41, 44, 45, 46, 84, 93, 103], plans := [(5, [0, 1, 2, 3, 4, 5, 6, 7, 8, 9, 10, 11, 12, 13, 14, 15, 16, 17, 18, 19, 20, 21]), (6, [0, 1, 2, 3, 4, 5]), (16, [0, 2, 3, 4, 5, 1, 6, 7, 8, 9, 11, 12, 13, 14, 10, 15, 16, 17, 18, 19, 21, 22, 23, 24, 25, 20, 26, 27, 28])] }
theorem Tryz.ok10 : fnOk Tryz.F10 Tryz.f10 1 = true := by kernel_rfl
def Tryz.F11 : Fs := { L := [3, 4, 5, 6, 7, 9, 11, 12, 107], LL := [31, 32, 33, 43, 46, 47, 48, 86, 93, 95, 101, 104, 106, 113, 115], plans := [(6, [0, 1, 2, 3, 4, 5, 6, 7, 8, 9, 10, 11, 12, 13, 14]), (7, [0, 1, 2, 3, 4, 5]), (14, [0, 3, 4, 1, 2, 5, 6, 7, 9, 8, 10, 11, 12, 13, 14, 15, 18, 16, 19, 21, 22, 17, 20, 23, 24, 25, 26, 27, 29, 28, 30, 31, 32, 33])] }
theorem Tryz.ok11 : fnOk Tryz.F11 Tryz.f11 1 = true := by kernel_rfl
def Tryz.F12 : Fs := { L := [3, 4, 5, 6, 7, 12, 13], LL := [32, 33, 34, 44, 47, 48, 49, 57, 59, 66], plans := [(6, [0, 1, 2, 3, 4, 5, 6, 7, 8, 9, 10, 11, 12, 13, 14]), (7, [0, 1, 2, 3, 4, 5]), (9, [0, 2, 4, 5, 9, 11, 12, 1, 3, 6, 7, 10, 13, 14, 8, 15, 16, 17, 18, 19, 20, 21])] }
theorem Tryz.ok12 : fnOk Tryz.F12 Tryz.f12 1 = true := by kernel_rfl
def Tryz.F13 : Fs := { L := [3, 4, 5, 6, 7, 10, 11], LL := [31, 32, 33, 43, 46, 47, 48, 84, 90, 92, 97, 99, 110, 112, 117, 119], plans := [(6, [0, 1, 2, 3, 4, 5, 6, 7, 8, 9, 10, 11, 12, 13, 14]), (7, [0, 1, 2, 3, 4, 5]), (16, [0, 1, 2, 3, 4, 5, 6, 7, 9, 8, 10, 11, 12, 13, 14, 16, 22, 23, 15, 17, 18, 19, 20, 21, 24, 25, 26, 27, 29, 34, 36, 28, 30, 31, 32, 33, 35, 37, 38, 39, 40, 41, 42, 43, 44, 45])] }
theorem Tryz.ok13 : fnOk Tryz.F13 Tryz.f13 1 = true := by kernel_rfl
def Tryz.F14 : Fs := { L := [2] }
theorem Tryz.ok14 : fnOk Tryz.F14 Tryz.f14 2 = true := by kernel_rfl
def Tryz.F15 : Fs := { L := [2, 4, 5] }
theorem Tryz.ok15 : fnOk Tryz.F15 Tryz.f15 2 = true := by kernel_rfl
def Tryz.F16 : Fs := { L := [1, 2, 3] }
theorem Tryz.ok16 : fnOk Tryz.F16 Tryz.f16 1 = true := by kernel_rfl
def Tryz.F17 : Fs := { L := [2, 4, 5] }
theorem Tryz.ok17 : fnOk Tryz.F17 Tryz.f17 2 = true := by kernel_rfl
def Tryz.F18 : Fs := { L := [2, 3] }
theorem Tryz.ok18 : fnOk Tryz.F18 Tryz.f18 2 = true := by kernel_rfl
def Tryz.F19 : Fs := { L := [2, 3] }
theorem Tryz.ok19 : fnOk Tryz.F19 Tryz.f19 2 = true := by kernel_rfl
def Tryz.F20 : Fs := { L := [2] }
theorem Tryz.ok20 : fnOk Tryz.F20 Tryz.f20 2 = true := by kernel_rfl
def Tryz.F21 : Fs := { L := [2] }
theorem Tryz.ok21 : fnOk Tryz.F21 Tryz.f21 2 = true := by kernel_rfl
def Tryz.F22 : Fs := { L := [2] }
theorem Tryz.ok22 : fnOk Tryz.F22 Tryz.f22 2 = true := by kernel_rfl
def Tryz.F23 : Fs := { L := [2, 5, 19, 27], LL := [18, 23, 24, 31], trees := [(6, (.one 1 (.one 2 (.one 0 (.one 3 (.one 4 (.alt 5 (.one 6 (.one 7 .nil)) (.alt 6 (.one 5 (.one 7 .nil)) .non)))))))), (7, (.one 1 (.one 4 (.one 0 (.one 2 (.one 3 (.one 5 (.one 6 (.alt 7 (.one 8 (.one 9 .nil)) (.alt 8 (.one 7 (.one 9 .nil)) .non))))))))))] }
theorem Tryz.ok23 : fnOk Tryz.F23 Tryz.f23 1 = true := by kernel_rfl
def Tryz.F24 : Fs := { L := [2, 3, 6, 7] }
theorem Tryz.ok24 : fnOk Tryz.F24 Tryz.f24 2 = true := by kernel_rfl
def Tryz.F25 : Fs := { L := [1], LL := [45, 47], plans := [(8, [1, 3, 0, 2, 4, 5, 6, 7])] }
theorem Tryz.ok25 : fnOk Tryz.F25 Tryz.f25 1 = true := by kernel_rfl
def Tryz.F26 : Fs := { L := [1, 2, 3, 4, 16], LL := [13, 15], plans := [(3, [1, 2, 4, 5, 0, 3, 6, 7, 8])] }
theorem Tryz.ok26 : fnOk Tryz.F26 Tryz.f26 1 = true := by kernel_rfl
def Tryz.F27 : Fs := { L := [2, 4, 5, 14] }
theorem Tryz.ok27 : fnOk Tryz.F27 Tryz.f27 2 = true := by kernel_rfl
def Tryz.F28 : Fs := { L := [2, 3, 4] }
theorem Tryz.ok28 : fnOk Tryz.F28 Tryz.f28 2 = true := by kernel_rfl
def Tryz.F29 : Fs := { L := [2, 3, 5], LL := [17, 18], trees := [(5, (.one 2 (.one 0 (.alt 1 (.one 3 (.one 4 (.one 5 (.one 6 .nil)))) (.alt 3 (.one 1 (.one 4 (.one 5 (.one 6 .nil)))) .non)))))] }
theorem Tryz.ok29 : fnOk Tryz.F29 Tryz.f29 1 = true := by kernel_rfl
def Tryz.F30 : Fs := { L := [2, 3, 4] }
theorem Tryz.ok30 : fnOk Tryz.F30 Tryz.f30 2 = true := by kernel_rfl
def Tryz.F31 : Fs := { L := [2, 3], LL := [50, 52, 64, 79, 81], plans := [(7, [1, 3, 6, 0, 2, 4, 5, 7, 8, 9, 10, 11, 12, 13, 15, 14, 16, 17, 18, 19, 20, 21]), (12, [1, 3, 6, 0, 2, 4, 5, 7, 8])] }
theorem Tryz.ok31 : fnOk Tryz.F31 Tryz.f31 2 = true := by kernel_rfl
def Tryz.F32 : Fs := { plans := [(6, [0, 1, 2, 4, 5, 6, 3, 7, 8])] }
theorem Tryz.ok32 : fnOk Tryz.F32 Tryz.f32 2 = true := by kernel_rfl
def Tryz.F33 : Fs := { L := [2, 3] }
theorem Tryz.ok33 : fnOk Tryz.F33 Tryz.f33 2 = true := by kernel_rfl
def Tryz.F34 : Fs := { plans := [(6, [0, 1, 2, 4, 5, 6, 3, 7, 8])] }
theorem Tryz.ok34 : fnOk Tryz.F34 Tryz.f34 2 = true := by kernel_rfl
def Tryz.F35 : Fs := { L := [2, 3], LL := [29, 31, 33, 38, 40], plans := [(6, [1, 3, 5, 10, 12, 0, 2, 4, 6, 7, 9, 11, 13, 8, 14, 15, 16, 17])] }
theorem Tryz.ok35 : fnOk Tryz.F35 Tryz.f35 2 = true := by kernel_rfl
def Tryz.F36 : Fs := {}
theorem Tryz.ok36 : fnOk Tryz.F36 Tryz.f36 3 = true := by kernel_rfl
def Tryz.F37 : Fs := { L := [2, 3, 4, 5, 7], LL := [44, 46, 48, 53], trees := [(4, (.one 1 (.one 3 (.one 8 (.one 0 (.alt 2 (.alt 4 (.one 5 (.one 6 (.alt 7 (.alt 9 (.one 10 (.alt 11 (.one 12 (.one 13 (.one 14 .nil))) (.alt 12 (.one 11 (.one 13 (.one 14 .nil))) .non))) (.alt 12 (.one 9 (.one 10 (.one 11 (.one 13 (.one 14 .nil))))) .non)) (.alt 9 (.alt 7 (.one 10 (.alt 11 (.one 12 (.one 13 (.one 14 .nil))) (.alt 12 (.one 11 (.one 13 (.one 14 .nil))) .non))) (.alt 12 (.one 7 (.one 10 (.one 11 (.one 13 (.one 14 .nil))))) .non)) (.alt 12 (.one 9 (.one 7 (.one 10 (.one 11 (.one 13 (.one 14 .nil)))))) .non))))) (.alt 9 (.alt 4 (.one 5 (.one 6 (.alt 7 (.one 10 (.alt 11 (.one 12 (.one 13 (.one 14 .nil))) (.alt 12 (.one 11 (.one 13 (.one 14 .nil))) .non))) (.alt 12 (.one 7 (.one 10 (.one 11 (.one 13 (.one 14 .nil))))) .non)))) (.alt 12 (.one 4 (.one 5 (.one 6 (.one 7 (.one 10 (.one 11 (.one 13 (.one 14 .nil)))))))) .non)) (.alt 12 (.one 4 (.one 5 (.one 6 (.one 9 (.one 7 (.one 10 (.one 11 (.one 13 (.one 14 .nil))))))))) .non))) (.alt 4 (.alt 2 (.one 5 (.one 6 (.alt 7 (.alt 9 (.one 10 (.alt 11 (.one 12 (.one 13 (.one 14 .nil))) (.alt 12 (.one 11 (.one 13 (.one 14 .nil))) .non))) (.alt 12 (.one 9 (.one 10 (.one 11 (.one 13 (.one 14 .nil))))) .non)) (.alt 9 (.alt 7 (.one 10 (.alt 11 (.one 12 (.one 13 (.one 14 .nil))) (.alt 12 (.one 11 (.one 13 (.one 14 .nil))) .non))) (.alt 12 (.one 7 (.one 10 (.one 11 (.one 13 (.one 14 .nil))))) .non)) (.alt 12 (.one 9 (.one 7 (.one 10 (.one 11 (.one 13 (.one 14 .nil)))))) .non))))) (.alt 9 (.alt 2 (.one 5 (.one 6 (.alt 7 (.one 10 (.alt 11 (.one 12 (.one 13 (.one 14 .nil))) (.alt 12 (.one 11 (.one 13 (.one 14 .nil))) .non))) (.alt 12 (.one 7 (.one 10 (.one 11 (.one 13 (.one 14 .nil))))) .non)))) (.alt 12 (.one 2 (.one 5 (.one 6 (.one 7 (.one 10 (.one 11 (.one 13 (.one 14 .nil)))))))) .non)) (.alt 12 (.one 2 (.one 5 (.one 6 (.one 9 (.one 7 (.one 10 (.one 11 (.one 13 (.one 14 .nil))))))))) .non))) (.alt 9 (.alt 2 (.alt 4 (.one 5 (.one 6 (.alt 7 (.one 10 (.alt 11 (.one 12 (.one 13 (.one 14 .nil))) (.alt 12 (.one 11 (.one 13 (.one 14 .nil))) .non))) (.alt 12 (.one 7 (.one 10 (.one 11 (.one 13 (.one 14 .nil))))) .non)))) (.alt 12 (.one 4 (.one 5 (.one 6 (.one 7 (.one 10 (.one 11 (.one 13 (.one 14 .nil)))))))) .non)) (.alt 4 (.alt 2 (.one 5 (.one 6 (.alt 7 (.one 10 (.alt 11 (.one 12 (.one 13 (.one 14 .nil))) (.alt 12 (.one 11 (.one 13 (.one 14 .nil))) .non))) (.alt 12 (.one 7 (.one 10 (.one 11 (.one 13 (.one 14 .nil))))) .non)))) (.alt 12 (.one 2 (.one 5 (.one 6 (.one 7 (.one 10 (.one 11 (.one 13 (.one 14 .nil)))))))) .non)) (.alt 12 (.one 2 (.one 4 (.one 5 (.one 6 (.one 7 (.one 10 (.one 11 (.one 13 (.one 14 .nil))))))))) .non))) (.alt 12 (.one 2 (.one 4 (.one 5 (.one 6 (.one 9 (.one 7 (.one 10 (.one 11 (.one 13 (.one 14 .nil)))))))))) .non)))))))))] }
theorem Tryz.ok37 : fnOk Tryz.F37 Tryz.f37 2 = true := by kernel_rfl
def Tryz.F38 : Fs := { L := [8] }
theorem Tryz.ok38 : fnOk Tryz.F38 Tryz.f38 3 = true := by kernel_rfl
def Tryz.F39 : Fs := {}
theorem Tryz.ok39 : fnOk Tryz.F39 Tryz.f39 2 = true := by kernel_rfl
def Tryz.F40 : Fs := {}
theorem Tryz.ok40 : fnOk Tryz.F40 Tryz.f40 2 = true := by kernel_rfl
def Tryz.F41 : Fs := {}
theorem Tryz.ok41 : fnOk Tryz.F41 Tryz.f41 3 = true := by kernel_rfl
def Tryz.F42 : Fs := { L := [1, 2], LL := [8], trees := [(3, (.one 1 (.alt 0 (.alt 2 (.alt 3 (.one 4 (.one 5 (.one 6 .nil))) (.alt 4 (.one 3 (.one 5 (.one 6 .nil))) .non)) (.alt 4 (.one 2 (.one 3 (.one 5 (.one 6 .nil)))) .non)) (.alt 4 (.one 0 (.one 2 (.one 3 (.one 5 (.one 6 .nil))))) .non))))] }
theorem Tryz.ok42 : fnOk Tryz.F42 Tryz.f42 1 = true := by kernel_rfl
def Tryz.F43 : Fs := { L := [2, 3, 4, 6], LL := [8, 9, 22, 24, 26, 37, 39, 44, 64, 65], plans := [(1, [0, 1, 2, 3, 4, 5]), (3, [0, 2, 4, 1, 3, 5, 6, 7, 8, 9, 10]), (5, [0, 1, 3, 8, 2, 4, 5, 6, 9, 7, 10, 11, 12]), (8, [0, 1, 2, 3, 4, 5])], M := [99] }
theorem Tryz.ok43 : fnOk Tryz.F43 Tryz.f43 2 = true := by kernel_rfl
def Tryz.F44 : Fs := {}
theorem Tryz.ok44 : fnOk Tryz.F44 Tryz.f44 1 = true := by kernel_rfl
def Tryz.F45 : Fs := {}
theorem Tryz.ok45 : fnOk Tryz.F45 Tryz.f45 1 = true := by kernel_rfl
def Tryz.F46 : Fs := { L := [1, 3, 6] }
theorem Tryz.ok46 : fnOk Tryz.F46 Tryz.f46 1 = true := by kernel_rfl
def Tryz.F47 : Fs := {}
theorem Tryz.ok47 : fnOk Tryz.F47 Tryz.f47 3 = true := by kernel_rfl
def Tryz.F48 : Fs := { L := [1, 2, 3, 15] }
theorem Tryz.ok48 : fnOk Tryz.F48 Tryz.f48 1 = true := by kernel_rfl
def Tryz.F49 : Fs := { L := [2, 3, 4, 6] }
theorem Tryz.ok49 : fnOk Tryz.F49 Tryz.f49 2 = true := by kernel_rfl
def Tryz.F50 : Fs := { plans := [(6, [0, 1, 2, 4, 5, 6, 3, 7, 8, 9])] }
theorem Tryz.ok50 : fnOk Tryz.F50 Tryz.f50 2 = true := by kernel_rfl
def Tryz.F51 : Fs := { plans := [(6, [0, 1, 2, 4, 5, 6, 3, 7, 8, 9])] }
theorem Tryz.ok51 : fnOk Tryz.F51 Tryz.f51 2 = true := by kernel_rfl
def Tryz.F52 : Fs := { plans := [(6, [0, 1, 2, 4, 5, 6, 3, 7, 8])] }
theorem Tryz.ok52 : fnOk Tryz.F52 Tryz.f52 2 = true := by kernel_rfl
def Tryz.F53 : Fs := { L := [2, 3] }
theorem Tryz.ok53 : fnOk Tryz.F53 Tryz.f53 2 = true := by kernel_rfl
def Tryz.F54 : Fs := { plans := [(6, [0, 1, 2, 4, 5, 6, 3, 7, 8, 9])] }
theorem Tryz.ok54 : fnOk Tryz.F54 Tryz.f54 2 = true := by kernel_rfl
def Tryz.F55 : Fs := { plans := [(6, [0, 1, 2, 4, 5, 6, 3, 7, 8, 9])] }
theorem Tryz.ok55 : fnOk Tryz.F55 Tryz.f55 2 = true := by kernel_rfl
def Tryz.F56 : Fs := {}
theorem Tryz.ok56 : fnOk Tryz.F56 Tryz.f56 2 = true := by kernel_rfl
def Tryz.F57 : Fs := {}
theorem Tryz.ok57 : fnOk Tryz.F57 Tryz.f57 2 = true := by kernel_rfl
def Tryz.F58 : Fs := {}
theorem Tryz.ok58 : fnOk Tryz.F58 Tryz.f58 2 = true := by kernel_rfl
def Tryz.F59 : Fs := {}
theorem Tryz.ok59 : fnOk Tryz.F59 Tryz.f59 2 = true := by kernel_rfl
def Tryz.F60 : Fs := {}
theorem Tryz.ok60 : fnOk Tryz.F60 Tryz.f60 2 = true := by kernel_rfl
def Tryz.F61 : Fs := {}
theorem Tryz.ok61 : fnOk Tryz.F61 Tryz.f61 2 = true := by kernel_rfl
def Tryz.F62 : Fs := {}
theorem Tryz.ok62 : fnOk Tryz.F62 Tryz.f62 2 = true := by kernel_rfl
def Tryz.F63 : Fs := {}
theorem Tryz.ok63 : fnOk Tryz.F63 Tryz.f63 2 = true := by kernel_rfl
def Tryz.F64 : Fs := {}
theorem Tryz.ok64 : fnOk Tryz.F64 Tryz.f64 1 = true := by kernel_rfl
def Tryz.F65 : Fs := { L := [2, 3] }
theorem Tryz.ok65 : fnOk Tryz.F65 Tryz.f65 1 = true := by kernel_rfl
def Tryz.F66 : Fs := { plans := [(7, [0, 1, 2, 4, 5, 6, 7, 15, 16, 17, 19, 20, 21, 22, 23, 24, 33, 34, 36, 37, 38, 39, 3, 8, 9, 10, 11, 12, 13, 14, 18, 25, 26, 27, 28, 29, 30, 31, 32, 35, 40, 41, 42, 43, 44, 45])] }
theorem Tryz.ok66 : fnOk Tryz.F66 Tryz.f66 2 = true := by kernel_rfl
def Tryz.F67 : Fs := { L := [2, 3, 6], LL := [33, 44, 52, 55, 84, 95, 103, 110, 112, 117, 119, 123, 126, 132], plans := [(8, [0, 2, 6, 1, 3, 4, 5, 7, 8, 9]), (10, [0, 2, 6, 7, 8, 11, 13, 1, 3, 4, 9, 10, 12, 14, 15, 5, 16, 17, 18, 19]), (13, [0, 2, 6, 10, 11, 13, 18, 19, 1, 3, 4, 12, 14, 15, 20, 21, 5, 7, 8, 9, 16, 17, 22, 23, 24]), (15, [0, 2, 4, 8, 1, 3, 5, 6, 7, 9]), (16, [1, 3, 0, 2, 4, 6, 5, 7]), (17, [0, 2, 6, 1, 3, 4, 7, 5, 8, 9])] }
theorem Tryz.ok67 : fnOk Tryz.F67 Tryz.f67 1 = true := by kernel_rfl
def Tryz.F68 : Fs := { L := [3] }
theorem Tryz.ok68 : fnOk Tryz.F68 Tryz.f68 1 = true := by kernel_rfl
def Tryz.F69 : Fs := { plans := [(6, [0, 1, 2, 3, 5, 6, 7, 8, 4, 9, 10, 11, 12, 13, 14, 15, 17, 18, 19, 20, 16, 21, 22, 23, 24])] }
theorem Tryz.ok69 : fnOk Tryz.F69 Tryz.f69 2 = true := by kernel_rfl
def Tryz.F70 : Fs := {}
theorem Tryz.ok70 : fnOk Tryz.F70 Tryz.f70 1 = true := by kernel_rfl
def Tryz.F71 : Fs := { L := [2, 3], LL := [40, 41, 43, 51, 53, 55, 69, 70, 72], plans := [(6, [2, 4, 0, 1, 3, 5, 6, 7, 8, 9, 10, 12, 14, 16, 11, 13, 15, 17, 18, 19, 20, 21]), (11, [2, 4, 0, 1, 3, 5, 6, 7, 8])] }
theorem Tryz.ok71 : fnOk Tryz.F71 Tryz.f71 2 = true := by kernel_rfl
def Tryz.F72 : Fs := { L := [1, 5, 6] }
theorem Tryz.ok72 : fnOk Tryz.F72 Tryz.f72 1 = true := by kernel_rfl
def Tryz.F73 : Fs := { L := [2, 3, 4, 5, 47, 92, 100, 105, 126], LL := [9, 22, 23, 36, 38, 69, 79, 82, 89, 99, 104, 115, 117, 123, 146, 152, 157, 158], plans := [(2, [1, 4, 0, 2, 3, 5]), (16, [0, 2, 3, 1, 4, 5, 6, 7, 8]), (18, [0, 2, 3, 5, 9, 10, 1, 4, 6, 7, 11, 12, 8, 13, 14, 15, 16, 17, 18]), (20, [0, 2, 3, 1, 4, 5, 6, 7, 8, 9, 10]), (23, [0, 2, 7, 8, 1, 3, 4, 5, 9, 10, 6, 11, 12, 13, 14, 15, 16]), (26, [0, 5, 6, 1, 2, 3, 7, 8, 9, 4, 10, 11, 12]), (8, [0, 2, 1, 3, 4, 5, 6, 7, 8, 9, 10])], trees := [(4, (.one 0 (.alt 1 (.one 2 (.one 3 .nil)) (.alt 2 (.one 1 (.one 3 .nil)) .non)))), (27, (.one 0 (.alt 1 (.one 2 (.one 3 .nil)) (.alt 2 (.one 1 (.one 3 .nil)) .non))))] }
theorem Tryz.ok73 : fnOk Tryz.F73 Tryz.f73 1 = true := by kernel_rfl
def Tryz.F74 : Fs := { L := [1, 2, 3, 6, 34, 64], LL := [18, 20, 27], trees := [(6, (.one 0 (.one 2 (.one 4 (.one 9 (.one 11 (.one 1 (.one 3 (.one 5 (.one 6 (.one 10 (.one 12 (.one 13 (.alt 7 (.alt 8 (.one 14 (.one 15 (.one 16 (.one 17 (.one 18 (.one 19 (.one 20 .nil))))))) (.alt 14 (.one 8 (.one 15 (.one 16 (.one 17 (.one 18 (.one 19 (.one 20 .nil))))))) .non)) (.alt 8 (.alt 7 (.one 14 (.one 15 (.one 16 (.one 17 (.one 18 (.one 19 (.one 20 .nil))))))) (.alt 14 (.alt 7 (.one 15 (.one 16 (.one 17 (.one 18 (.one 19 (.one 20 .nil)))))) (.alt 15 (.one 7 (.one 16 (.one 17 (.one 18 (.one 19 (.one 20 .nil)))))) .non)) .non)) (.alt 14 (.alt 7 (.one 8 (.one 15 (.one 16 (.one 17 (.one 18 (.one 19 (.one 20 .nil))))))) (.alt 8 (.alt 7 (.one 15 (.one 16 (.one 17 (.one 18 (.one 19 (.one 20 .nil)))))) (.alt 15 (.one 7 (.one 16 (.one 17 (.one 18 (.one 19 (.one 20 .nil)))))) .non)) .non)) .non))))))))))))))))] }
theorem Tryz.ok74 : fnOk Tryz.F74 Tryz.f74 1 = true := by kernel_rfl
def Tryz.F75 : Fs := { L := [2] }
theorem Tryz.ok75 : fnOk Tryz.F75 Tryz.f75 2 = true := by kernel_rfl
def Tryz.F76 : Fs := { L := [3, 4], LL := [25, 27, 33, 36, 38], plans := [(5, [0, 2, 1, 3, 4, 5, 6, 7, 8, 11, 13, 9, 10, 12, 14, 15, 16, 17, 18, 19])] }
theorem Tryz.ok76 : fnOk Tryz.F76 Tryz.f76 3 = true := by kernel_rfl
def Tryz.F77 : Fs := { L := [3, 4], LL := [8, 10, 16, 18, 20, 29, 32, 34, 42, 48, 54], plans := [(1, [0, 2, 1, 3, 4, 5, 6, 7, 8, 10, 12, 9, 11, 13, 14, 15, 16, 17, 18, 19, 20, 21, 24, 26, 22, 23, 25, 27, 28, 29, 30, 31, 32, 33, 34, 35, 36, 37, 38, 39, 40, 42, 41, 43, 44, 45, 46, 48, 47, 49, 50, 51])] }
theorem Tryz.ok77 : fnOk Tryz.F77 Tryz.f77 3 = true := by kernel_rfl
def Tryz.F78 : Fs := {}
theorem Tryz.ok78 : fnOk Tryz.F78 Tryz.f78 1 = true := by kernel_rfl
def Tryz.F79 : Fs := { L := [1] }
theorem Tryz.ok79 : fnOk Tryz.F79 Tryz.f79 1 = true := by kernel_rfl
def Tryz.F80 : Fs := {}
theorem Tryz.ok80 : fnOk Tryz.F80 Tryz.f80 2 = true := by kernel_rfl
def Tryz.F81 : Fs := { L := [1], LL := [14, 16], plans := [(4, [1, 3, 0, 2, 4, 5, 6, 7, 8, 9, 10, 11])] }
theorem Tryz.ok81 : fnOk Tryz.F81 Tryz.f81 1 = true := by kernel_rfl
def Tryz.F82 : Fs := { L := [4], LL := [22], plans := [(6, [0, 2, 3, 4, 5, 8, 9, 10, 1, 6, 11, 7, 12, 13])] }
theorem Tryz.ok82 : fnOk Tryz.F82 Tryz.f82 4 = true := by kernel_rfl
def Tryz.F83 : Fs := { L := [2, 3, 27] }
theorem Tryz.ok83 : fnOk Tryz.F83 Tryz.f83 2 = true := by kernel_rfl
def Tryz.F84 : Fs := { L := [3, 4, 7, 10], LL := [18, 20, 22, 75, 77, 79, 84], plans := [(2, [1, 3, 0, 2, 4, 5, 6, 7, 8, 9, 10, 11, 12]), (10, [1, 3, 8, 0, 2, 4, 5, 6, 9, 7, 10, 11, 12, 13])] }
theorem Tryz.ok84 : fnOk Tryz.F84 Tryz.f84 3 = true := by kernel_rfl
def Tryz.F85 : Fs := { L := [3] }
theorem Tryz.ok85 : fnOk Tryz.F85 Tryz.f85 2 = true := by kernel_rfl
def Tryz.F86 : Fs := {}
theorem Tryz.ok86 : fnOk Tryz.F86 Tryz.f86 3 = true := by kernel_rfl
def Tryz.F87 : Fs := { L := [3, 5] }
theorem Tryz.ok87 : fnOk Tryz.F87 Tryz.f87 1 = true := by kernel_rfl
def Tryz.F88 : Fs := {}
theorem Tryz.ok88 : fnOk Tryz.F88 Tryz.f88 2 = true := by kernel_rfl
def Tryz.F89 : Fs := {}
theorem Tryz.ok89 : fnOk Tryz.F89 Tryz.f89 3 = true := by kernel_rfl
def Tryz.F90 : Fs := {}
theorem Tryz.ok90 : fnOk Tryz.F90 Tryz.f90 1 = true := by kernel_rfl
def Tryz.F91 : Fs := {}
theorem Tryz.ok91 : fnOk Tryz.F91 Tryz.f91 2 = true := by kernel_rfl
def Tryz.F92 : Fs := {}
theorem Tryz.ok92 : fnOk Tryz.F92 Tryz.f92 2 = true := by kernel_rfl
def Tryz.F93 : Fs := {}
theorem Tryz.ok93 : fnOk Tryz.F93 Tryz.f93 2 = true := by kernel_rfl
def Tryz.F94 : Fs := {}
theorem Tryz.ok94 : fnOk Tryz.F94 Tryz.f94 2 = true := by kernel_rfl
def Tryz.F95 : Fs := { L := [2] }
theorem Tryz.ok95 : fnOk Tryz.F95 Tryz.f95 2 = true := by kernel_rfl
def Tryz.F96 : Fs := { L := [2] }
theorem Tryz.ok96 : fnOk Tryz.F96 Tryz.f96 2 = true := by kernel_rfl
def Tryz.F97 : Fs := { L := [13] }
theorem Tryz.ok97 : fnOk Tryz.F97 Tryz.f97 0 = true := by kernel_rfl
def Tryz.F98 : Fs := { L := [3, 6, 7, 27], LL := [15, 18, 25], plans := [(2, [0, 3, 5, 1, 2, 4, 6, 7, 8, 9]), (3, [0, 1, 2, 3, 4, 5, 6])] }
theorem Tryz.ok98 : fnOk Tryz.F98 Tryz.f98 3 = true := by kernel_rfl
def Tryz.F99 : Fs := { L := [3] }
theorem Tryz.ok99 : fnOk Tryz.F99 Tryz.f99 2 = true := by kernel_rfl
def Tryz.F100 : Fs := { plans := [(5, [0, 1, 2, 3, 5, 6, 7, 4, 8, 9, 10, 11, 12]), (9, [0, 1, 2, 4, 5, 6, 7, 9, 10, 11, 12, 3, 8, 13, 14, 15, 16, 17, 18, 19, 20, 22, 23, 24, 25, 26, 21, 27, 28, 29]), (12, [0, 1, 2, 3, 4, 6, 7, 8, 9, 5, 10, 11, 12, 13, 14, 15, 16, 17])] }
theorem Tryz.ok100 : fnOk Tryz.F100 Tryz.f100 2 = true := by kernel_rfl
def Tryz.F101 : Fs := { L := [1, 2, 3] }
theorem Tryz.ok101 : fnOk Tryz.F101 Tryz.f101 1 = true := by kernel_rfl
def Tryz.F102 : Fs := { L := [1, 2, 3] }
theorem Tryz.ok102 : fnOk Tryz.F102 Tryz.f102 1 = true := by kernel_rfl
def Tryz.F103 : Fs := {}
theorem Tryz.ok103 : fnOk Tryz.F103 Tryz.f103 0 = true := by kernel_rfl
def Tryz.F104 : Fs := { L := [2, 3], LL := [62, 66, 67], plans := [(14, [0, 1, 2, 3, 4, 5, 6, 7, 8, 9, 10, 11])] }
theorem Tryz.ok104 : fnOk Tryz.F104 Tryz.f104 2 = true := by kernel_rfl
def Tryz.F105 : Fs := { L := [3, 4, 8, 9, 12] }
theorem Tryz.ok105 : fnOk Tryz.F105 Tryz.f105 3 = true := by kernel_rfl
def Tryz.F106 : Fs := { L := [2, 3, 6] }
theorem Tryz.ok106 : fnOk Tryz.F106 Tryz.f106 2 = true := by kernel_rfl
def Tryz.F107 : Fs := { L := [1, 4, 6] }
theorem Tryz.ok107 : fnOk Tryz.F107 Tryz.f107 1 = true := by kernel_rfl
def Tryz.F108 : Fs := { L := [1, 2, 3, 5, 7, 33, 48], LL := [9, 12, 14, 16, 26, 28, 30, 45, 46], plans := [(1, [0, 3, 5, 7, 10, 1, 4, 6, 8, 2, 9, 11]), (5, [0, 2, 4, 1, 3, 5, 6, 7, 8, 9, 10, 11]), (10, [0, 1, 2, 3, 4, 5, 6, 7])] }
theorem Tryz.ok108 : fnOk Tryz.F108 Tryz.f108 1 = true := by kernel_rfl
def Tryz.F109 : Fs := { L := [2] }
theorem Tryz.ok109 : fnOk Tryz.F109 Tryz.f109 2 = true := by kernel_rfl
def Tryz.F110 : Fs := { L := [3, 9], LL := [37, 50, 58, 61], plans := [(3, [0, 1, 2, 4, 5, 6, 3, 7, 8, 9, 10, 11]), (4, [0, 2, 3, 4, 10, 1, 5, 6, 7, 8, 9]), (7, [1, 2, 3, 0, 4, 5, 6, 7, 9, 10, 8, 11, 12, 13]), (11, [0, 1, 2, 3, 5, 6, 7, 4, 8, 9, 10, 11, 12, 13, 14])] }
theorem Tryz.ok110 : fnOk Tryz.F110 Tryz.f110 3 = true := by kernel_rfl
def Tryz.F111 : Fs := { L := [2, 3] }
theorem Tryz.ok111 : fnOk Tryz.F111 Tryz.f111 2 = true := by kernel_rfl
def Tryz.F112 : Fs := { L := [2, 3] }
theorem Tryz.ok112 : fnOk Tryz.F112 Tryz.f112 2 = true := by kernel_rfl
def Tryz.F113 : Fs := { L := [2, 3] }
theorem Tryz.ok113 : fnOk Tryz.F113 Tryz.f113 2 = true := by kernel_rfl
def Tryz.F114 : Fs := { L := [2, 3] }
theorem Tryz.ok114 : fnOk Tryz.F114 Tryz.f114 2 = true := by kernel_rfl
def Tryz.F115 : Fs := {}
theorem Tryz.ok115 : fnOk Tryz.F115 Tryz.f115 2 = true := by kernel_rfl
def Tryz.F116 : Fs := {}
theorem Tryz.ok116 : fnOk Tryz.F116 Tryz.f116 2 = true := by kernel_rfl
def Tryz.F117 : Fs := {}
theorem Tryz.ok117 : fnOk Tryz.F117 Tryz.f117 2 = true := by kernel_rfl
def Tryz.F118 : Fs := {}
theorem Tryz.ok118 : fnOk Tryz.F118 Tryz.f118 2 = true := by kernel_rfl
def Tryz.F119 : Fs := {}
theorem Tryz.ok119 : fnOk Tryz.F119 Tryz.f119 2 = true := by kernel_rfl
def Tryz.F120 : Fs := { L := [2, 3, 5], LL := [24, 26], plans := [(6, [0, 2, 4, 8, 1, 3, 5, 6, 7, 9])] }
theorem Tryz.ok120 : fnOk Tryz.F120 Tryz.f120 1 = true := by kernel_rfl
def Tryz.F121 : Fs := { L := [3, 4, 6, 109, 132], LL := [31, 34, 48, 58, 67, 71, 74, 99, 126, 129], plans := [(7, [0, 2, 3, 5, 9, 1, 4, 6, 7, 8, 10, 11, 12, 13, 14, 15]), (9, [0, 2, 3, 1, 4, 5, 6, 7, 8]), (11, [0, 2, 3, 1, 4, 5, 6, 7]), (13, [0, 2, 3, 4, 7, 1, 5, 6, 8, 9, 10, 11]), (21, [0, 2, 4, 6, 8, 1, 3, 5, 7, 9, 10, 11, 12, 13, 14]), (27, [0, 2, 3, 1, 4, 5, 6, 7, 8, 9, 10])] }
theorem Tryz.ok121 : fnOk Tryz.F121 Tryz.f121 2 = true := by kernel_rfl
def Tryz.F122 : Fs := { L := [0] }
theorem Tryz.ok122 : fnOk Tryz.F122 Tryz.f122 0 = true := by kernel_rfl
def Tryz.F123 : Fs := { L := [6, 7, 22, 44, 59, 66], LL := [18], plans := [(5, [0, 2, 3, 1, 4, 5, 6, 7, 8])] }
theorem Tryz.ok123 : fnOk Tryz.F123 Tryz.f123 3 = true := by kernel_rfl
def Tryz.F124 : Fs := { L := [18] }
theorem Tryz.ok124 : fnOk Tryz.F124 Tryz.f124 2 = true := by kernel_rfl
def Tryz.F125 : Fs := { L := [4, 5, 6, 47] }
theorem Tryz.ok125 : fnOk Tryz.F125 Tryz.f125 3 = true := by kernel_rfl
def Tryz.F126 : Fs := { L := [3, 4, 5], LL := [111, 113, 115], plans := [(32, [0, 1, 2, 4, 6, 3, 5, 7, 8, 9, 10, 11, 12, 13])] }
theorem Tryz.ok126 : fnOk Tryz.F126 Tryz.f126 3 = true := by kernel_rfl
def Tryz.F127 : Fs := { L := [5] }
theorem Tryz.ok127 : fnOk Tryz.F127 Tryz.f127 2 = true := by kernel_rfl
def Tryz.F128 : Fs := { L := [2, 3], LL := [56, 58], plans := [(9, [0, 2, 4, 1, 3, 5, 6, 7, 8])] }
theorem Tryz.ok128 : fnOk Tryz.F128 Tryz.f128 2 = true := by kernel_rfl
def Tryz.F129 : Fs := { L := [5] }
theorem Tryz.ok129 : fnOk Tryz.F129 Tryz.f129 3 = true := by kernel_rfl
def Tryz.F130 : Fs := { L := [3, 4, 5] }
theorem Tryz.ok130 : fnOk Tryz.F130 Tryz.f130 3 = true := by kernel_rfl
def Tryz.F131 : Fs := {}
theorem Tryz.ok131 : fnOk Tryz.F131 Tryz.f131 3 = true := by kernel_rfl
def Tryz.F132 : Fs := { L := [2, 3], LL := [28, 33], plans := [(6, [0, 2, 5, 7, 1, 3, 6, 8, 4, 9, 10])] }
theorem Tryz.ok132 : fnOk Tryz.F132 Tryz.f132 2 = true := by kernel_rfl
def Tryz.F133 : Fs := { L := [4] }
theorem Tryz.ok133 : fnOk Tryz.F133 Tryz.f133 2 = true := by kernel_rfl
def Tryz.F134 : Fs := {}
theorem Tryz.ok134 : fnOk Tryz.F134 Tryz.f134 2 = true := by kernel_rfl
def Tryz.F135 : Fs := { plans := [(3, [0, 1, 2, 3, 4, 7, 8, 9, 10, 11, 5, 6, 12, 13])] }
theorem Tryz.ok135 : fnOk Tryz.F135 Tryz.f135 2 = true := by kernel_rfl
def Tryz.F136 : Fs := { L := [2] }
theorem Tryz.ok136 : fnOk Tryz.F136 Tryz.f136 2 = true := by kernel_rfl
def Tryz.F137 : Fs := { L := [2] }
theorem Tryz.ok137 : fnOk Tryz.F137 Tryz.f137 2 = true := by kernel_rfl
def Tryz.F138 : Fs := { L := [3], LL := [7, 11, 15, 24, 29, 37, 43, 49], plans := [(1, [1, 2, 0, 3, 4, 5, 7, 9, 6, 10, 8, 11, 12, 13, 14, 15, 16, 17, 18, 21, 23, 19, 20, 24, 22, 25, 26, 27, 28, 29, 30, 31, 32, 33, 34, 35, 36, 37, 38, 39, 40, 41, 42, 43, 44, 45, 46, 47, 48])] }
theorem Tryz.ok138 : fnOk Tryz.F138 Tryz.f138 3 = true := by kernel_rfl
def Tryz.F139 : Fs := { L := [2] }
theorem Tryz.ok139 : fnOk Tryz.F139 Tryz.f139 2 = true := by kernel_rfl
def Tryz.F140 : Fs := { L := [6] }
theorem Tryz.ok140 : fnOk Tryz.F140 Tryz.f140 2 = true := by kernel_rfl
def Tryz.F141 : Fs := {}
theorem Tryz.ok141 : fnOk Tryz.F141 Tryz.f141 1 = true := by kernel_rfl
def Tryz.F142 : Fs := {}
theorem Tryz.ok142 : fnOk Tryz.F142 Tryz.f142 1 = true := by kernel_rfl
def Tryz.F143 : Fs := {}
theorem Tryz.ok143 : fnOk Tryz.F143 Tryz.f143 1 = true := by kernel_rfl
def Tryz.F144 : Fs := {}
theorem Tryz.ok144 : fnOk Tryz.F144 Tryz.f144 1 = true := by kernel_rfl
def Tryz.F145 : Fs := {}
theorem Tryz.ok145 : fnOk Tryz.F145 Tryz.f145 1 = true := by kernel_rfl
def Tryz.F146 : Fs := {}
theorem Tryz.ok146 : fnOk Tryz.F146 Tryz.f146 2 = true := by kernel_rfl
def Tryz.F147 : Fs := {}
theorem Tryz.ok147 : fnOk Tryz.F147 Tryz.f147 1 = true := by kernel_rfl
def Tryz.F148 : Fs := { L := [6] }
theorem Tryz.ok148 : fnOk Tryz.F148 Tryz.f148 2 = true := by kernel_rfl
def Tryz.F149 : Fs := { L := [1] }
theorem Tryz.ok149 : fnOk Tryz.F149 Tryz.f149 1 = true := by kernel_rfl
def Tryz.F150 : Fs := {}
theorem Tryz.ok150 : fnOk Tryz.F150 Tryz.f150 3 = true := by kernel_rfl
def Tryz.F151 : Fs := { L := [3] }
theorem Tryz.ok151 : fnOk Tryz.F151 Tryz.f151 3 = true := by kernel_rfl
def Tryz.F152 : Fs := { L := [3], LL := [19, 23, 27], plans := [(3, [0, 1, 2, 3, 4, 5, 8, 9, 6, 7, 10, 11, 12, 13, 14, 15])] }
theorem Tryz.ok152 : fnOk Tryz.F152 Tryz.f152 2 = true := by kernel_rfl
def Tryz.F153 : Fs := {}
theorem Tryz.ok153 : fnOk Tryz.F153 Tryz.f153 2 = true := by kernel_rfl
def Tryz.F154 : Fs := { L := [6] }
theorem Tryz.ok154 : fnOk Tryz.F154 Tryz.f154 2 = true := by kernel_rfl
def Tryz.F155 : Fs := {}
theorem Tryz.ok155 : fnOk Tryz.F155 Tryz.f155 2 = true := by kernel_rfl
def Tryz.F156 : Fs := { L := [1] }
theorem Tryz.ok156 : fnOk Tryz.F156 Tryz.f156 1 = true := by kernel_rfl
def Tryz.F157 : Fs := { L := [2, 3, 7, 10, 53], LL := [31, 32, 34], plans := [(8, [0, 1, 2, 5, 7, 3, 4, 6, 8, 9, 10, 11, 12])] }
theorem Tryz.ok157 : fnOk Tryz.F157 Tryz.f157 2 = true := by kernel_rfl
def Tryz.F158 : Fs := { L := [2, 3] }
theorem Tryz.ok158 : fnOk Tryz.F158 Tryz.f158 2 = true := by kernel_rfl
def Tryz.F159 : Fs := { L := [3, 4, 7, 8], LL := [16, 18, 23, 38, 40, 42, 52], plans := [(2, [0, 2, 7, 11, 1, 3, 4, 5, 8, 6, 9, 10, 12]), (6, [0, 2, 4, 6, 7, 14, 16, 1, 3, 5, 8, 9, 15, 17, 18, 10, 11, 12, 13, 19, 20, 21])] }
theorem Tryz.ok159 : fnOk Tryz.F159 Tryz.f159 3 = true := by kernel_rfl
def Tryz.F160 : Fs := {}
theorem Tryz.ok160 : fnOk Tryz.F160 Tryz.f160 1 = true := by kernel_rfl
def Tryz.F161 : Fs := {}
theorem Tryz.ok161 : fnOk Tryz.F161 Tryz.f161 2 = true := by kernel_rfl
def Tryz.F162 : Fs := {}
theorem Tryz.ok162 : fnOk Tryz.F162 Tryz.f162 2 = true := by kernel_rfl
def Tryz.F163 : Fs := {}
theorem Tryz.ok163 : fnOk Tryz.F163 Tryz.f163 2 = true := by kernel_rfl
def Tryz.F164 : Fs := {}
theorem Tryz.ok164 : fnOk Tryz.F164 Tryz.f164 2 = true := by kernel_rfl
def Tryz.F165 : Fs := {}
theorem Tryz.ok165 : fnOk Tryz.F165 Tryz.f165 2 = true := by kernel_rfl
def Tryz.F166 : Fs := { L := [2] }
theorem Tryz.ok166 : fnOk Tryz.F166 Tryz.f166 1 = true := by kernel_rfl
def Tryz.F167 : Fs := { L := [2] }
theorem Tryz.ok167 : fnOk Tryz.F167 Tryz.f167 1 = true := by kernel_rfl
def Tryz.F168 : Fs := { L := [3, 125], LL := [17, 64, 86], plans := [(3, [0, 1, 2, 4, 3, 5, 6]), (10, [0, 1, 2, 3, 5, 6, 4, 7, 8]), (12, [0, 1, 2, 4, 5, 6, 8, 9, 3, 7, 10, 11]), (15, [0, 1, 2, 3, 5, 6, 7, 10, 4, 8, 9, 11, 12, 13, 14, 15]), (16, [0, 1, 2, 3, 4, 6, 7, 8, 10, 11, 5, 9, 12, 13, 14, 15, 16, 17, 18])], trees := [(6, (.one 1 (.one 2 (.one 3 (.one 5 (.one 6 (.one 7 (.one 10 (.alt 0 (.alt 4 (.one 8 (.one 9 (.one 11 (.one 12 (.one 13 (.one 14 .nil)))))) (.alt 8 (.one 9 (.one 11 (.one 4 (.one 12 (.one 13 (.one 14 .nil)))))) .non)) (.alt 4 (.alt 0 (.one 8 (.one 9 (.one 11 (.one 12 (.one 13 (.one 14 .nil)))))) (.alt 8 (.one 9 (.one 11 (.one 12 (.one 0 (.one 13 (.one 14 .nil)))))) .non)) (.alt 8 (.one 9 (.one 11 (.alt 0 (.one 4 (.one 12 (.one 13 (.one 14 .nil)))) (.alt 4 (.one 12 (.one 0 (.one 13 (.one 14 .nil)))) .non)))) .non)))))))))))], M := [218] }
theorem Tryz.ok168 : fnOk Tryz.F168 Tryz.f168 2 = true := by kernel_rfl
def Tryz.F169 : Fs := { L := [3] }
theorem Tryz.ok169 : fnOk Tryz.F169 Tryz.f169 1 = true := by kernel_rfl
def Tryz.F170 : Fs := {}
theorem Tryz.ok170 : fnOk Tryz.F170 Tryz.f170 2 = true := by kernel_rfl
def Tryz.F171 : Fs := { plans := [(1, [0, 1, 2, 3, 5, 6, 7, 8, 4, 9, 10, 11, 12, 13])] }
theorem Tryz.ok171 : fnOk Tryz.F171 Tryz.f171 1 = true := by kernel_rfl
def Tryz.F172 : Fs := { L := [3] }
theorem Tryz.ok172 : fnOk Tryz.F172 Tryz.f172 2 = true := by kernel_rfl
def Tryz.F173 : Fs := { L := [3, 5, 82], LL := [31, 42], plans := [(8, [0, 1, 2, 3, 5, 6, 4, 7, 8, 9])], trees := [(10, (.one 0 (.one 1 (.one 2 (.one 4 (.one 6 (.one 5 (.alt 3 (.one 7 (.one 8 (.one 9 .nil))) (.alt 7 (.one 3 (.one 8 (.one 9 .nil))) .non)))))))))], M := [216, 217] }
theorem Tryz.ok173 : fnOk Tryz.F173 Tryz.f173 2 = true := by kernel_rfl
def Tryz.F174 : Fs := { L := [3] }
theorem Tryz.ok174 : fnOk Tryz.F174 Tryz.f174 2 = true := by kernel_rfl
def Tryz.F175 : Fs := { L := [2] }
theorem Tryz.ok175 : fnOk Tryz.F175 Tryz.f175 1 = true := by kernel_rfl
def Tryz.F176 : Fs := {}
theorem Tryz.ok176 : fnOk Tryz.F176 Tryz.f176 1 = true := by kernel_rfl
def Tryz.F177 : Fs := {}
theorem Tryz.ok177 : fnOk Tryz.F177 Tryz.f177 1 = true := by kernel_rfl
def Tryz.F178 : Fs := {}
theorem Tryz.ok178 : fnOk Tryz.F178 Tryz.f178 1 = true := by kernel_rfl
def Tryz.F179 : Fs := {}
theorem Tryz.ok179 : fnOk Tryz.F179 Tryz.f179 1 = true := by kernel_rfl
def Tryz.F180 : Fs := { L := [1, 11] }
theorem Tryz.ok180 : fnOk Tryz.F180 Tryz.f180 1 = true := by kernel_rfl
def Tryz.F181 : Fs := { L := [5, 6, 7] }
theorem Tryz.ok181 : fnOk Tryz.F181 Tryz.f181 5 = true := by kernel_rfl
def Tryz.F182 : Fs := { L := [5] }
theorem Tryz.ok182 : fnOk Tryz.F182 Tryz.f182 3 = true := by kernel_rfl
def Tryz.F183 : Fs := { plans := [(6, [0, 1, 2, 4, 5, 6, 3, 7, 8])] }
theorem Tryz.ok183 : fnOk Tryz.F183 Tryz.f183 2 = true := by kernel_rfl
def Tryz.F184 : Fs := {}
theorem Tryz.ok184 : fnOk Tryz.F184 Tryz.f184 1 = true := by kernel_rfl
def Tryz.F185 : Fs := {}
theorem Tryz.ok185 : fnOk Tryz.F185 Tryz.f185 1 = true := by kernel_rfl
def Tryz.F186 : Fs := { L := [1, 2], LL := [4, 6, 8, 11], plans := [(1, [0, 2, 4, 7, 1, 3, 5, 8, 6, 9, 10, 11])] }
theorem Tryz.ok186 : fnOk Tryz.F186 Tryz.f186 1 = true := by kernel_rfl
def Tryz.F187 : Fs := { L := [3] }
theorem Tryz.ok187 : fnOk Tryz.F187 Tryz.f187 2 = true := by kernel_rfl
def Tryz.F188 : Fs := { L := [2], LL := [19, 27], plans := [(1, [0, 1, 2, 4, 5, 6, 3, 7, 8, 9, 10, 11]), (2, [0, 1, 3, 4, 5, 11, 2, 10, 6, 7, 8, 9, 12, 13, 14])] }
theorem Tryz.ok188 : fnOk Tryz.F188 Tryz.f188 2 = true := by kernel_rfl
def Tryz.F189 : Fs := { L := [2, 199], LL := [84, 99, 122], plans := [(0, [0, 1, 2, 3, 8, 9, 10, 11, 12, 4, 5, 6, 7, 13, 14, 15]), (2, [0, 1, 2, 3, 4, 6, 7, 8, 9, 16, 5, 10, 11, 12, 13, 14, 15, 17]), (13, [0, 1, 2, 3, 4, 9, 10, 5, 6, 7, 8, 11, 12, 13]), (15, [0, 1, 2, 3, 8, 10, 11, 9, 4, 5, 6, 7, 12, 13, 14]), (21, [0, 2, 3, 4, 6, 7, 8, 1, 5, 9, 10, 11, 12, 13, 14, 15]), (26, [0, 1, 2, 4, 5, 6, 3, 7, 8, 9]), (28, [0, 1, 2, 4, 5, 6, 3, 7, 8, 9])], trees := [(39, (.one 0 (.one 1 (.one 2 (.one 4 (.one 5 (.one 6 (.one 11 (.one 12 (.one 13 (.alt 3 (.alt 7 (.one 8 (.one 9 (.one 10 (.one 14 (.one 15 (.one 16 (.one 17 (.one 18 (.one 19 .nil))))))))) (.alt 14 (.one 15 (.one 7 (.one 8 (.one 9 (.one 10 (.one 16 (.one 17 (.one 18 (.one 19 .nil))))))))) .non)) (.alt 7 (.one 8 (.one 9 (.one 10 (.alt 3 (.one 14 (.one 15 (.one 16 (.one 17 (.one 18 (.one 19 .nil)))))) (.alt 14 (.one 15 (.alt 3 (.one 16 (.one 17 (.one 18 (.one 19 .nil)))) (.alt 16 (.one 3 (.one 17 (.one 18 (.one 19 .nil)))) .non))) .non))))) (.alt 14 (.one 15 (.alt 3 (.one 7 (.one 8 (.one 9 (.one 10 (.one 16 (.one 17 (.one 18 (.one 19 .nil)))))))) (.alt 7 (.one 8 (.one 9 (.one 10 (.alt 3 (.one 16 (.one 17 (.one 18 (.one 19 .nil)))) (.alt 16 (.one 3 (.one 17 (.one 18 (.one 19 .nil)))) .non))))) .non))) .non)))))))))))))], M := [231] }
theorem Tryz.ok189 : fnOk Tryz.F189 Tryz.f189 1 = true := by kernel_rfl
def Tryz.F190 : Fs := { L := [2] }
theorem Tryz.ok190 : fnOk Tryz.F190 Tryz.f190 2 = true := by kernel_rfl
def Tryz.F191 : Fs := { L := [2] }
theorem Tryz.ok191 : fnOk Tryz.F191 Tryz.f191 1 = true := by kernel_rfl
def Tryz.F192 : Fs := { plans := [(6, [0, 1, 2, 4, 5, 6, 3, 7, 8, 9])] }
theorem Tryz.ok192 : fnOk Tryz.F192 Tryz.f192 2 = true := by kernel_rfl
def Tryz.F193 : Fs := { plans := [(6, [0, 1, 2, 4, 5, 6, 3, 7, 8, 9])] }
theorem Tryz.ok193 : fnOk Tryz.F193 Tryz.f193 2 = true := by kernel_rfl
def Tryz.F194 : Fs := { plans := [(6, [0, 1, 2, 4, 5, 6, 3, 7, 8, 9])] }
theorem Tryz.ok194 : fnOk Tryz.F194 Tryz.f194 2 = true := by kernel_rfl
def Tryz.F195 : Fs := { plans := [(6, [0, 1, 2, 4, 5, 6, 3, 7, 8, 9])] }
theorem Tryz.ok195 : fnOk Tryz.F195 Tryz.f195 2 = true := by kernel_rfl
def Tryz.F196 : Fs := { L := [6, 35, 40], LL := [31], plans := [(10, [0, 2, 3, 1, 4, 5, 6, 7, 8])] }
theorem Tryz.ok196 : fnOk Tryz.F196 Tryz.f196 1 = true := by kernel_rfl
def Tryz.F197 : Fs := { L := [9, 25, 107], LL := [63, 80, 89, 99], plans := [(17, [0, 1, 5, 2, 3, 4, 6, 7, 8, 9, 10]), (22, [0, 1, 2, 3, 4, 5, 6, 7, 8, 9, 11, 12, 10, 13, 14, 15, 16, 17, 18, 19, 21, 22, 20, 23, 24, 25, 26])] }
theorem Tryz.ok197 : fnOk Tryz.F197 Tryz.f197 2 = true := by kernel_rfl
def Tryz.F198 : Fs := { L := [4, 5, 6, 42] }
theorem Tryz.ok198 : fnOk Tryz.F198 Tryz.f198 3 = true := by kernel_rfl
def Tryz.F199 : Fs := { L := [3, 5] }
theorem Tryz.ok199 : fnOk Tryz.F199 Tryz.f199 2 = true := by kernel_rfl
def Tryz.F200 : Fs := { L := [2, 3, 4, 18], LL := [16], plans := [(5, [0, 1, 2, 3, 4, 5, 6])] }
theorem Tryz.ok200 : fnOk Tryz.F200 Tryz.f200 2 = true := by kernel_rfl
def Tryz.F201 : Fs := { L := [39, 44, 67], LL := [43], plans := [(10, [0, 1, 2, 3, 4, 5, 7, 8, 6, 9, 10, 11, 12, 13, 14, 15, 16])], trees := [(14, (.one 0 (.one 1 (.one 2 (.one 4 (.one 5 (.one 7 (.one 8 (.one 10 (.one 11 (.alt 3 (.alt 6 (.alt 9 (.one 12 (.one 13 (.one 14 (.one 15 .nil)))) (.alt 12 (.one 9 (.one 13 (.one 14 (.one 15 .nil)))) .non)) (.alt 9 (.alt 6 (.one 12 (.one 13 (.one 14 (.one 15 .nil)))) (.alt 12 (.one 6 (.one 13 (.one 14 (.one 15 .nil)))) .non)) (.alt 12 (.alt 6 (.one 9 (.one 13 (.one 14 (.one 15 .nil)))) (.alt 9 (.one 6 (.one 13 (.one 14 (.one 15 .nil)))) .non)) .non))) (.alt 6 (.alt 3 (.alt 9 (.one 12 (.one 13 (.one 14 (.one 15 .nil)))) (.alt 12 (.one 9 (.one 13 (.one 14 (.one 15 .nil)))) .non)) (.alt 9 (.alt 3 (.one 12 (.one 13 (.one 14 (.one 15 .nil)))) (.alt 12 (.one 3 (.one 13 (.one 14 (.one 15 .nil)))) .non)) (.alt 12 (.alt 3 (.one 9 (.one 13 (.one 14 (.one 15 .nil)))) (.alt 9 (.one 3 (.one 13 (.one 14 (.one 15 .nil)))) .non)) .non))) (.alt 9 (.alt 3 (.alt 6 (.one 12 (.one 13 (.one 14 (.one 15 .nil)))) (.alt 12 (.one 6 (.one 13 (.one 14 (.one 15 .nil)))) .non)) (.alt 6 (.alt 3 (.one 12 (.one 13 (.one 14 (.one 15 .nil)))) (.alt 12 (.one 3 (.one 13 (.one 14 (.one 15 .nil)))) .non)) (.alt 12 (.alt 3 (.one 6 (.one 13 (.one 14 (.one 15 .nil)))) (.alt 6 (.one 3 (.one 13 (.one 14 (.one 15 .nil)))) .non)) .non))) (.alt 12 (.alt 3 (.alt 6 (.one 9 (.one 13 (.one 14 (.one 15 .nil)))) (.alt 9 (.one 6 (.one 13 (.one 14 (.one 15 .nil)))) .non)) (.alt 6 (.alt 3 (.one 9 (.one 13 (.one 14 (.one 15 .nil)))) (.alt 9 (.one 3 (.one 13 (.one 14 (.one 15 .nil)))) .non)) (.alt 9 (.alt 3 (.one 6 (.one 13 (.one 14 (.one 15 .nil)))) (.alt 6 (.one 3 (.one 13 (.one 14 (.one 15 .nil)))) .non)) .non))) .non))))))))))))))] }
theorem Tryz.ok201 : fnOk Tryz.F201 Tryz.f201 1 = true := by kernel_rfl
def Tryz.F202 : Fs := {}
theorem Tryz.ok202 : fnOk Tryz.F202 Tryz.f202 2 = true := by kernel_rfl
def Tryz.F203 : Fs := { L := [6] }
theorem Tryz.ok203 : fnOk Tryz.F203 Tryz.f203 1 = true := by kernel_rfl
def Tryz.F204 : Fs := {}
theorem Tryz.ok204 : fnOk Tryz.F204 Tryz.f204 2 = true := by kernel_rfl
def Tryz.F205 : Fs := {}
theorem Tryz.ok205 : fnOk Tryz.F205 Tryz.f205 2 = true := by kernel_rfl
def Tryz.F206 : Fs := { plans := [(3, [0, 1, 2, 3, 4, 7, 8, 9, 10, 11, 5, 6, 12, 13])] }
theorem Tryz.ok206 : fnOk Tryz.F206 Tryz.f206 2 = true := by kernel_rfl
def Tryz.F207 : Fs := { L := [1, 2, 3, 16] }
theorem Tryz.ok207 : fnOk Tryz.F207 Tryz.f207 1 = true := by kernel_rfl
def Tryz.F208 : Fs := { L := [4, 5], LL := [25, 30, 45, 50], plans := [(6, [0, 1, 3, 6, 8, 2, 4, 7, 9, 5, 10, 11, 12]), (11, [0, 1, 3, 6, 8, 2, 4, 7, 9, 5, 10, 11, 12])] }
theorem Tryz.ok208 : fnOk Tryz.F208 Tryz.f208 3 = true := by kernel_rfl
def Tryz.F209 : Fs := { L := [1, 2], LL := [4, 7, 11], trees := [(1, (.one 0 (.one 3 (.one 7 (.one 1 (.one 4 (.one 8 (.alt 2 (.alt 5 (.one 6 (.one 9 (.one 10 (.one 11 .nil)))) (.alt 6 (.one 5 (.one 9 (.one 10 (.one 11 .nil)))) .non)) (.alt 6 (.one 2 (.one 5 (.one 9 (.one 10 (.one 11 .nil))))) .non)))))))))] }
theorem Tryz.ok209 : fnOk Tryz.F209 Tryz.f209 1 = true := by kernel_rfl
def Tryz.F210 : Fs := { L := [4, 5, 7, 8, 10] }
theorem Tryz.ok210 : fnOk Tryz.F210 Tryz.f210 4 = true := by kernel_rfl
def Tryz.F211 : Fs := { L := [5, 6, 8, 9, 12], LL := [14, 20, 21, 23, 28, 46, 48, 52, 53, 55, 56, 57], plans := [(1, [0, 2, 1, 3, 4, 5, 6, 9, 11, 7, 8, 10, 12, 13, 15, 14, 16, 17, 18]), (7, [0, 1, 3, 2, 4, 5, 6, 7, 10, 8, 9, 11, 12, 13, 14, 15, 16, 17])] }
theorem Tryz.ok211 : fnOk Tryz.F211 Tryz.f211 5 = true := by kernel_rfl
def Tryz.F212 : Fs := { L := [1] }
theorem Tryz.ok212 : fnOk Tryz.F212 Tryz.f212 1 = true := by kernel_rfl
def Tryz.F213 : Fs := { L := [3] }
theorem Tryz.ok213 : fnOk Tryz.F213 Tryz.f213 3 = true := by kernel_rfl
def Tryz.F214 : Fs := {}
theorem Tryz.ok214 : fnOk Tryz.F214 Tryz.f214 2 = true := by kernel_rfl
def Tryz.F215 : Fs := { L := [2] }
theorem Tryz.ok215 : fnOk Tryz.F215 Tryz.f215 2 = true := by kernel_rfl
def Tryz.F216 : Fs := { L := [2, 5] }
theorem Tryz.ok216 : fnOk Tryz.F216 Tryz.f216 1 = true := by kernel_rfl
def Tryz.F217 : Fs := { L := [3, 22], LL := [21], plans := [(4, [0, 1, 2, 3, 5, 6, 4, 7, 8, 9, 10])] }
theorem Tryz.ok217 : fnOk Tryz.F217 Tryz.f217 2 = true := by kernel_rfl
def Tryz.F218 : Fs := { plans := [(8, [0, 1, 2, 3, 4, 5, 7, 6, 8, 9, 10, 11, 12, 13, 14, 15, 16, 17, 18, 19, 20, 21, 22, 23, 25, 26, 27, 29, 24, 28, 30, 31, 32, 33, 34])] }
theorem Tryz.ok218 : fnOk Tryz.F218 Tryz.f218 3 = true := by kernel_rfl
def Tryz.F219 : Fs := { L := [3] }
theorem Tryz.ok219 : fnOk Tryz.F219 Tryz.f219 1 = true := by kernel_rfl
def Tryz.F220 : Fs := {}
theorem Tryz.ok220 : fnOk Tryz.F220 Tryz.f220 2 = true := by kernel_rfl
def Tryz.F221 : Fs := { L := [5, 29], LL := [23], plans := [(5, [0, 2, 3, 4, 1, 5, 6, 7, 8, 9, 10])] }
theorem Tryz.ok221 : fnOk Tryz.F221 Tryz.f221 2 = true := by kernel_rfl
def Tryz.F222 : Fs := { L := [5, 31] }
theorem Tryz.ok222 : fnOk Tryz.F222 Tryz.f222 2 = true := by kernel_rfl
def Tryz.F223 : Fs := {}
theorem Tryz.ok223 : fnOk Tryz.F223 Tryz.f223 1 = true := by kernel_rfl
def Tryz.F224 : Fs := { L := [6], LL := [49], plans := [(9, [0, 1, 2, 4, 5, 3, 6, 7])] }
theorem Tryz.ok224 : fnOk Tryz.F224 Tryz.f224 3 = true := by kernel_rfl
def Tryz.F225 : Fs := { L := [8], LL := [36], plans := [(6, [0, 1, 2, 4, 5, 3, 6, 7])] }
theorem Tryz.ok225 : fnOk Tryz.F225 Tryz.f225 4 = true := by kernel_rfl
def Tryz.F226 : Fs := { plans := [(2, [0, 1, 2, 3, 4, 5, 6, 8, 9, 10, 11, 13, 16, 17, 7, 12, 14, 15, 18, 19, 20])] }
theorem Tryz.ok226 : fnOk Tryz.F226 Tryz.f226 2 = true := by kernel_rfl
def Tryz.F227 : Fs := { L := [1, 2, 3] }
theorem Tryz.ok227 : fnOk Tryz.F227 Tryz.f227 1 = true := by kernel_rfl
def Tryz.F228 : Fs := { L := [1, 2, 3] }
theorem Tryz.ok228 : fnOk Tryz.F228 Tryz.f228 1 = true := by kernel_rfl
def Tryz.F229 : Fs := { L := [1, 2, 3] }
theorem Tryz.ok229 : fnOk Tryz.F229 Tryz.f229 1 = true := by kernel_rfl
def Tryz.F230 : Fs := { L := [3, 9], LL := [14], plans := [(1, [0, 1, 2, 4, 3, 5, 6]), (12, [0, 1, 2, 3, 5, 6, 7, 8, 13, 4, 9, 10, 11, 12, 14, 15, 16, 17])] }
theorem Tryz.ok230 : fnOk Tryz.F230 Tryz.f230 2 = true := by kernel_rfl
def Tryz.F231 : Fs := { L := [3, 30], LL := [29], trees := [(3, (.one 0 (.one 1 (.one 2 (.one 3 (.one 5 (.one 6 (.one 7 (.one 8 (.one 13 (.one 14 (.alt 4 (.one 9 (.one 10 (.one 11 (.one 12 (.one 15 (.one 16 (.one 17 (.one 18 .nil)))))))) (.alt 9 (.one 10 (.one 11 (.one 12 (.alt 4 (.one 15 (.one 16 (.one 17 (.one 18 .nil)))) (.alt 15 (.one 4 (.one 16 (.one 17 (.one 18 .nil)))) .non))))) .non)))))))))))))] }
theorem Tryz.ok231 : fnOk Tryz.F231 Tryz.f231 2 = true := by kernel_rfl
def Tryz.F232 : Fs := { L := [4], LL := [22, 45], plans := [(5, [0, 1, 2, 4, 5, 3, 6]), (11, [0, 1, 2, 4, 5, 6, 8, 9, 10, 3, 7, 11, 12])], trees := [(6, (.one 0 (.one 1 (.one 2 (.one 3 (.one 5 (.one 6 (.one 7 (.one 12 (.one 13 (.one 14 (.one 20 (.one 23 (.one 21 (.alt 4 (.alt 8 (.one 9 (.one 10 (.alt 11 (.one 15 (.one 16 (.one 17 (.one 18 (.one 19 (.one 22 (.one 24 .nil))))))) (.alt 15 (.one 16 (.one 11 (.one 17 (.one 18 (.one 19 (.one 22 (.one 24 .nil))))))) .non)))) (.alt 15 (.one 16 (.one 8 (.one 9 (.one 10 (.one 11 (.one 17 (.one 18 (.one 19 (.one 22 (.one 24 .nil)))))))))) .non)) (.alt 8 (.one 9 (.one 10 (.alt 4 (.alt 11 (.one 15 (.one 16 (.one 17 (.one 18 (.one 19 (.one 22 (.one 24 .nil))))))) (.alt 15 (.one 16 (.one 11 (.one 17 (.one 18 (.one 19 (.one 22 (.one 24 .nil))))))) .non)) (.alt 11 (.alt 4 (.one 15 (.one 16 (.one 17 (.one 18 (.one 19 (.one 22 (.one 24 .nil))))))) (.alt 15 (.one 16 (.one 17 (.one 18 (.alt 4 (.one 19 (.one 22 (.one 24 .nil))) (.alt 19 (.one 4 (.one 22 (.one 24 .nil))) .non))))) .non)) (.alt 15 (.one 16 (.alt 4 (.one 11 (.one 17 (.one 18 (.one 19 (.one 22 (.one 24 .nil)))))) (.alt 11 (.one 17 (.one 18 (.alt 4 (.one 19 (.one 22 (.one 24 .nil))) (.alt 19 (.one 4 (.one 22 (.one 24 .nil))) .non)))) .non))) .non))))) (.alt 15 (.one 16 (.alt 4 (.one 8 (.one 9 (.one 10 (.one 11 (.one 17 (.one 18 (.one 19 (.one 22 (.one 24 .nil))))))))) (.alt 8 (.one 9 (.one 10 (.alt 4 (.one 11 (.one 17 (.one 18 (.one 19 (.one 22 (.one 24 .nil)))))) (.alt 11 (.one 17 (.one 18 (.alt 4 (.one 19 (.one 22 (.one 24 .nil))) (.alt 19 (.one 4 (.one 22 (.one 24 .nil))) .non)))) .non)))) .non))) .non)))))))))))))))))], M := [110, 252] }
theorem Tryz.ok232 : fnOk Tryz.F232 Tryz.f232 3 = true := by kernel_rfl
def Tryz.F233 : Fs := { L := [4, 7], LL := [14, 21, 36, 39, 71, 87, 105, 111, 122, 128, 139, 154, 157], plans := [(3, [0, 1, 3, 4, 5, 6, 8, 2, 9, 7, 10, 11]), (14, [0, 1, 2, 4, 6, 7, 8, 11, 12, 5, 3, 9, 13, 10, 14, 15]), (16, [0, 1, 2, 3, 5, 11, 6, 12, 4, 7, 8, 9, 10, 13, 14, 15]), (18, [0, 1, 2, 4, 10, 12, 13, 5, 11, 3, 14, 6, 7, 8, 9, 15, 16]), (21, [0, 1, 2, 3, 4, 5, 6, 7, 9, 10, 11, 18, 16, 19, 20, 8, 12, 13, 14, 15, 17, 21, 22, 23])], trees := [(7, (.one 0 (.one 1 (.one 4 (.one 8 (.one 9 (.one 10 (.one 2 (.one 5 (.alt 3 (.alt 6 (.alt 7 (.one 11 (.one 12 (.one 13 .nil))) (.alt 11 (.one 7 (.one 12 (.one 13 .nil))) .non)) (.alt 11 (.one 6 (.one 7 (.one 12 (.one 13 .nil)))) .non)) (.alt 11 (.one 3 (.one 6 (.one 7 (.one 12 (.one 13 .nil))))) .non))))))))))), (12, (.one 0 (.one 1 (.one 2 (.one 3 (.one 5 (.one 7 (.one 8 (.one 9 (.one 6 (.alt 4 (.one 10 (.one 11 (.one 12 (.one 13 (.one 14 .nil))))) (.alt 10 (.one 4 (.one 11 (.one 12 (.one 13 (.one 14 .nil))))) .non))))))))))))], M := [231, 256] }
theorem Tryz.ok233 : fnOk Tryz.F233 Tryz.f233 3 = true := by kernel_rfl
def Tryz.F234 : Fs := { L := [2, 3] }
theorem Tryz.ok234 : fnOk Tryz.F234 Tryz.f234 2 = true := by kernel_rfl
def Tryz.F235 : Fs := { L := [2, 3] }
theorem Tryz.ok235 : fnOk Tryz.F235 Tryz.f235 2 = true := by kernel_rfl
def Tryz.F236 : Fs := { L := [2, 3] }
theorem Tryz.ok236 : fnOk Tryz.F236 Tryz.f236 2 = true := by kernel_rfl
def Tryz.F237 : Fs := { L := [4, 5, 22], LL := [18], plans := [(5, [0, 2, 3, 1, 4, 5, 6, 7, 8])] }
theorem Tryz.ok237 : fnOk Tryz.F237 Tryz.f237 2 = true := by kernel_rfl
def Tryz.F238 : Fs := { L := [5, 6, 12, 15, 16, 44, 82, 118, 153, 165] }
theorem Tryz.ok238 : fnOk Tryz.F238 Tryz.f238 4 = true := by kernel_rfl
def Tryz.F239 : Fs := { L := [1] }
theorem Tryz.ok239 : fnOk Tryz.F239 Tryz.f239 1 = true := by kernel_rfl
def Tryz.F240 : Fs := { L := [2, 3, 20] }
theorem Tryz.ok240 : fnOk Tryz.F240 Tryz.f240 2 = true := by kernel_rfl
def Tryz.F241 : Fs := { L := [1, 12] }
theorem Tryz.ok241 : fnOk Tryz.F241 Tryz.f241 1 = true := by kernel_rfl
def Tryz.F242 : Fs := { L := [4, 6], LL := [27], plans := [(7, [0, 1, 3, 4, 5, 8, 9, 10, 2, 6, 7, 11, 12, 13])] }
theorem Tryz.ok242 : fnOk Tryz.F242 Tryz.f242 3 = true := by kernel_rfl
def Tryz.F243 : Fs := { L := [3, 4, 5, 6, 27], LL := [34, 35, 38, 47, 49], plans := [(8, [0, 3, 4, 6, 1, 2, 5, 7, 8, 9, 10, 11, 12, 13, 14, 15, 16]), (9, [1, 3, 7, 0, 2, 4, 5, 6, 8, 9, 10, 11, 12])] }
theorem Tryz.ok243 : fnOk Tryz.F243 Tryz.f243 3 = true := by kernel_rfl
def Tryz.F244 : Fs := { L := [4, 5, 6, 11, 13, 15, 17], LL := [112, 115, 118, 128, 132, 135], plans := [(21, [1, 2, 5, 9, 0, 3, 6, 4, 7, 8, 10, 11, 12, 13, 14]), (23, [0, 2, 3, 4, 7, 1, 5, 8, 6, 9, 10, 11, 12, 13, 14, 15, 16])] }
theorem Tryz.ok244 : fnOk Tryz.F244 Tryz.f244 3 = true := by kernel_rfl
def Tryz.F245 : Fs := { L := [4, 5, 6, 9], LL := [30, 32, 34, 46, 48, 50, 76, 78], plans := [(8, [1, 3, 0, 2, 4, 5, 6, 7, 8, 9, 10, 11]), (12, [0, 2, 4, 6, 7, 1, 3, 5, 8, 9, 10, 11]), (20, [1, 3, 4, 0, 2, 5, 6, 7, 8, 9, 10, 11])] }
theorem Tryz.ok245 : fnOk Tryz.F245 Tryz.f245 3 = true := by kernel_rfl
def Tryz.F246 : Fs := { L := [4, 5, 7], LL := [10, 17, 18, 20], plans := [(1, [0, 2, 1, 3, 4, 5, 6, 7, 10, 12, 8, 9, 11, 13, 14, 15, 16, 17])] }
theorem Tryz.ok246 : fnOk Tryz.F246 Tryz.f246 4 = true := by kernel_rfl
def Tryz.F247 : Fs := { L := [2, 3, 4], LL := [7, 10], trees := [(1, (.one 1 (.one 4 (.one 2 (.one 5 (.one 6 (.alt 0 (.alt 3 (.one 7 (.one 8 (.one 9 .nil))) (.alt 7 (.one 3 (.one 8 (.one 9 .nil))) .non)) (.alt 7 (.one 0 (.one 3 (.one 8 (.one 9 .nil)))) .non))))))))] }
theorem Tryz.ok247 : fnOk Tryz.F247 Tryz.f247 2 = true := by kernel_rfl
def Tryz.F248 : Fs := {}
theorem Tryz.ok248 : fnOk Tryz.F248 Tryz.f248 3 = true := by kernel_rfl
def Tryz.F249 : Fs := { L := [2] }
theorem Tryz.ok249 : fnOk Tryz.F249 Tryz.f249 1 = true := by kernel_rfl
def Tryz.F250 : Fs := { L := [3, 22], LL := [21], plans := [(2, [0, 1, 2, 3, 4, 6, 7, 5, 8, 9, 10, 11, 12])] }
theorem Tryz.ok250 : fnOk Tryz.F250 Tryz.f250 2 = true := by kernel_rfl
def Tryz.F251 : Fs := { L := [2, 3] }
theorem Tryz.ok251 : fnOk Tryz.F251 Tryz.f251 2 = true := by kernel_rfl
def Tryz.F252 : Fs := { L := [45], trees := [(4, (.one 0 (.one 1 (.one 2 (.one 4 (.one 5 (.one 6 (.one 11 (.one 12 (.one 13 (.one 14 (.alt 3 (.one 7 (.one 8 (.one 9 (.one 10 (.one 15 (.one 16 (.one 17 (.one 18 .nil)))))))) (.alt 7 (.one 8 (.one 9 (.one 10 (.alt 3 (.one 15 (.one 16 (.one 17 (.one 18 .nil)))) (.alt 15 (.one 3 (.one 16 (.one 17 (.one 18 .nil)))) .non))))) .non)))))))))))))] }
theorem Tryz.ok252 : fnOk Tryz.F252 Tryz.f252 3 = true := by kernel_rfl
def Tryz.F253 : Fs := { L := [4] }
theorem Tryz.ok253 : fnOk Tryz.F253 Tryz.f253 3 = true := by kernel_rfl
def Tryz.F254 : Fs := { L := [3, 9] }
theorem Tryz.ok254 : fnOk Tryz.F254 Tryz.f254 3 = true := by kernel_rfl
def Tryz.F255 : Fs := { L := [3], LL := [47], plans := [(1, [0, 1, 2, 4, 5, 6, 11, 12, 13, 3, 7, 8, 9, 10, 14, 15, 16, 17, 18, 19, 20, 21, 22, 23]), (4, [0, 1, 2, 4, 3, 5, 6, 7]), (5, [0, 1, 2, 4, 5, 6, 3, 7, 8, 9])] }
theorem Tryz.ok255 : fnOk Tryz.F255 Tryz.f255 2 = true := by kernel_rfl
def Tryz.F256 : Fs := { L := [18, 35], trees := [(6, (.one 0 (.one 1 (.one 2 (.one 4 (.one 5 (.one 6 (.one 11 (.one 12 (.one 13 (.one 14 (.alt 3 (.one 7 (.one 8 (.one 9 (.one 10 (.one 15 (.one 16 (.one 17 (.one 18 .nil)))))))) (.alt 7 (.one 8 (.one 9 (.one 10 (.alt 3 (.one 15 (.one 16 (.one 17 (.one 18 .nil)))) (.alt 15 (.one 3 (.one 16 (.one 17 (.one 18 .nil)))) .non))))) .non)))))))))))))] }
theorem Tryz.ok256 : fnOk Tryz.F256 Tryz.f256 3 = true := by kernel_rfl
def Tryz.F257 : Fs := {}
theorem Tryz.ok257 : fnOk Tryz.F257 Tryz.f257 1 = true := by kernel_rfl
def Tryz.F258 : Fs := { plans := [(9, [0, 1, 2, 3, 4, 5, 6, 7, 8, 9])] }
theorem Tryz.ok258 : fnOk Tryz.F258 Tryz.f258 2 = true := by kernel_rfl
def Tryz.F259 : Fs := {}
theorem Tryz.ok259 : fnOk Tryz.F259 Tryz.f259 1 = true := by kernel_rfl
def Tryz.F260 : Fs := { L := [4], LL := [8, 20, 43], plans := [(1, [0, 1, 2, 3, 4, 5, 6, 7, 12, 13, 14, 8, 9, 10, 11, 15, 16, 17, 18, 19, 20]), (5, [0, 1, 2, 7, 8, 9, 3, 4, 5, 6, 10, 11])] }
theorem Tryz.ok260 : fnOk Tryz.F260 Tryz.f260 3 = true := by kernel_rfl
def Tryz.F261 : Fs := {}
theorem Tryz.ok261 : fnOk Tryz.F261 Tryz.f261 1 = true := by kernel_rfl
def Tryz.F262 : Fs := { L := [5] }
theorem Tryz.ok262 : fnOk Tryz.F262 Tryz.f262 4 = true := by kernel_rfl
def Tryz.F263 : Fs := {}
theorem Tryz.ok263 : fnOk Tryz.F263 Tryz.f263 3 = true := by kernel_rfl
def Tryz.F264 : Fs := { L := [3] }
theorem Tryz.ok264 : fnOk Tryz.F264 Tryz.f264 2 = true := by kernel_rfl
def Tryz.F265 : Fs := { L := [4, 5, 6, 7, 8] }
theorem Tryz.ok265 : fnOk Tryz.F265 Tryz.f265 4 = true := by kernel_rfl
def Tryz.F266 : Fs := { L := [4, 5, 10, 12, 13], LL := [39, 41, 45, 48, 49, 50, 66, 72, 75, 80], plans := [(9, [0, 1, 3, 2, 4, 5, 6, 7, 9, 10, 8, 11, 12, 13, 14, 15, 16]), (14, [0, 2, 1, 3, 4, 5, 6, 8, 9, 11, 7, 10, 12, 13, 15, 14, 16, 17])] }
theorem Tryz.ok266 : fnOk Tryz.F266 Tryz.f266 4 = true := by kernel_rfl
def Tryz.F267 : Fs := { L := [2] }
theorem Tryz.ok267 : fnOk Tryz.F267 Tryz.f267 2 = true := by kernel_rfl
def Tryz.F268 : Fs := { L := [3, 6, 26] }
theorem Tryz.ok268 : fnOk Tryz.F268 Tryz.f268 3 = true := by kernel_rfl
def Tryz.F269 : Fs := {}
theorem Tryz.ok269 : fnOk Tryz.F269 Tryz.f269 1 = true := by kernel_rfl
def Tryz.F270 : Fs := {}
theorem Tryz.ok270 : fnOk Tryz.F270 Tryz.f270 1 = true := by kernel_rfl
def Tryz.F271 : Fs := { L := [2, 3] }
theorem Tryz.ok271 : fnOk Tryz.F271 Tryz.f271 2 = true := by kernel_rfl
def Tryz.F272 : Fs := { plans := [(1, [5, 0, 1, 2, 3, 4, 6, 7, 8])] }
theorem Tryz.ok272 : fnOk Tryz.F272 Tryz.f272 3 = true := by kernel_rfl
def Tryz.F273 : Fs := { L := [2] }
theorem Tryz.ok273 : fnOk Tryz.F273 Tryz.f273 1 = true := by kernel_rfl
def Tryz.F274 : Fs := {}
theorem Tryz.ok274 : fnOk Tryz.F274 Tryz.f274 2 = true := by kernel_rfl
def Tryz.F275 : Fs := {}
theorem Tryz.ok275 : fnOk Tryz.F275 Tryz.f275 2 = true := by kernel_rfl
def Tryz.F276 : Fs := { L := [7, 8, 9, 10] }
theorem Tryz.ok276 : fnOk Tryz.F276 Tryz.f276 3 = true := by kernel_rfl
def Tryz.F277 : Fs := {}
theorem Tryz.ok277 : fnOk Tryz.F277 Tryz.f277 1 = true := by kernel_rfl
def Tryz.F278 : Fs := { L := [4, 7, 9], LL := [22, 27, 30, 34, 35], plans := [(4, [0, 2, 3, 4, 8, 1, 6, 5, 7, 9]), (5, [0, 1, 2, 3, 4, 7, 8, 9, 5, 6, 10, 11, 12])] }
theorem Tryz.ok278 : fnOk Tryz.F278 Tryz.f278 4 = true := by kernel_rfl
def Tryz.F279 : Fs := {}
theorem Tryz.ok279 : fnOk Tryz.F279 Tryz.f279 2 = true := by kernel_rfl
def Tryz.F280 : Fs := {}
theorem Tryz.ok280 : fnOk Tryz.F280 Tryz.f280 2 = true := by kernel_rfl
def Tryz.F281 : Fs := { L := [4, 5, 6, 7], LL := [28, 32, 37, 51, 55, 60], plans := [(7, [0, 2, 3, 4, 6, 9, 11, 1, 5, 7, 10, 12, 8, 13, 14, 15, 16]), (11, [0, 2, 3, 4, 6, 9, 11, 1, 5, 7, 10, 12, 8, 13, 14, 15, 16])] }
theorem Tryz.ok281 : fnOk Tryz.F281 Tryz.f281 3 = true := by kernel_rfl
def Tryz.F282 : Fs := {}
theorem Tryz.ok282 : fnOk Tryz.F282 Tryz.f282 3 = true := by kernel_rfl
def Tryz.F283 : Fs := {}
theorem Tryz.ok283 : fnOk Tryz.F283 Tryz.f283 3 = true := by kernel_rfl
end Go.Proofs
namespace Go.Proofs
open Go.Vc
def I64 (x : Int) : Prop := -9223372036854775808 ≤ x ∧ x ≤ 9223372036854775807
structure Cls where
  super : Int
  fields : List Int
structure Shp where
  told : Bool
  locals : List Int
  stack : List Int
structure Ins where
  kind : Int
  a : Int
  b : Int
structure Ctc where
  lo : Int
  hi : Int
  to : Int
  cls : Int
structure Mth where
  cls : Int
  sel : Int
  args : List Int
  out : Int
  locals : Int
  code : List Ins
  shapes : List Shp
  catches : List Ctc
structure Unt where
  classes : List Cls
  methods : List Mth
structure Vl where
  ref : Bool
  n : Int
structure Ob where
  cls : Int
  vals : List Vl
structure Frm where
  meth : Int
  pc : Int
  locals : List Vl
  stack : List Vl
structure Mch where
  objs : List Ob
  frames : List Frm
  said : List Int
  steps : Int
  fin : Int
  out : Vl
theorem rdn_len {h : Heap} {b : Nat} : ∀ {n off : Nat} {vs : List Value}, rdn h b off n = some vs → vs.length = n
  | 0, _, vs, hr => by simp only [rdn, Option.some.injEq] at hr; subst hr; rfl
  | n + 1, off, vs, hr => by
    simp only [rdn] at hr
    split at hr
    · rename_i v r h1 h2
      simp only [Option.some.injEq] at hr
      subst hr
      simp [rdn_len h2]
    · cases hr
theorem rdn_get {h : Heap} {b : Nat} : ∀ {n off : Nat} {vs : List Value}, rdn h b off n = some vs → ∀ {i : Nat} {v : Value}, vs[i]? = some v → rd h b (off + i) = some v
  | 0, _, vs, hr, i, v, hv => by simp only [rdn, Option.some.injEq] at hr; subst hr; simp at hv
  | n + 1, off, vs, hr, i, v, hv => by
    simp only [rdn] at hr
    split at hr
    · rename_i x r h1 h2
      simp only [Option.some.injEq] at hr
      subst hr
      cases i with
      | zero => simp at hv; subst hv; exact h1
      | succ i =>
        have := rdn_get h2 (i := i) (v := v) (by simpa using hv)
        rw [show off + (i + 1) = off + 1 + i by omega]
        exact this
    · cases hr
def Row {α : Type} (size : Nat) (R : Heap → List Value → α → Prop) (h : Heap) (v : Value) (l : List α) : Prop :=
  l.length ≤ 140737488351232 ∧ ∃ p c, v = .slice p l.length c ∧ l.length ≤ c ∧ (l = [] ∨ ∃ b off, p = some ⟨b, off, none⟩ ∧ ∀ i x, l[i]? = some x → ∃ vs, rdn h b (off + i * size) size = some vs ∧ R h vs x)
theorem rdn_le' {h h' : Heap} (hl : h.le h') {b n off : Nat} {vs : List Value} (hr : rdn h b off n = some vs) : rdn h' b off n = some vs := rdn_le hl n off vs hr
theorem Row.le {α : Type} {size : Nat} {R : Heap → List Value → α → Prop} {h h' : Heap} {v : Value} {l : List α} (hl : h.le h') (hR : ∀ vs x, R h vs x → R h' vs x) (hr : Row size R h v l) : Row size R h' v l := by
  obtain ⟨h1, p, c, rfl, h2, h3⟩ := hr
  refine ⟨h1, p, c, rfl, h2, h3.imp id ?_⟩
  rintro ⟨b, off, rfl, hx⟩
  refine ⟨b, off, rfl, fun i x hi => ?_⟩
  obtain ⟨vs, ha, hb⟩ := hx i x hi
  exact ⟨vs, rdn_le' hl ha, hR _ _ hb⟩
theorem Row.get {α : Type} {size : Nat} {R : Heap → List Value → α → Prop} {h : Heap} {p : Option Addr} {n c : Nat} {l : List α} (hr : Row size R h (.slice p n c) l) {i : Nat} (hi : i < l.length) :
    ∃ b off vs, p = some ⟨b, off, none⟩ ∧ rdn h b (off + i * size) size = some vs ∧ R h vs l[i] := by
  obtain ⟨_, p', c', he, _, h3⟩ := hr
  simp only [Value.slice.injEq] at he
  obtain ⟨rfl, rfl, rfl⟩ := he
  rcases h3 with rfl | ⟨b, off, rfl, hx⟩
  · simp at hi
  · obtain ⟨vs, ha, hb⟩ := hx i l[i] (by simp [hi])
    exact ⟨b, off, vs, rfl, ha, hb⟩
theorem Row.len {α : Type} {size : Nat} {R : Heap → List Value → α → Prop} {h : Heap} {v : Value} {l : List α} (hr : Row size R h v l) : ∃ p c, v = .slice p l.length c ∧ l.length ≤ c ∧ l.length ≤ 140737488351232 := by
  obtain ⟨h1, p, c, he, h2, _⟩ := hr
  exact ⟨p, c, he, h2, h1⟩
def IntR (_ : Heap) (vs : List Value) (x : Int) : Prop := vs = [.int .i64 x] ∧ I64 x
abbrev Ints := Row 1 IntR
def ClsR (h : Heap) (vs : List Value) (c : Cls) : Prop := ∃ f, vs = [.int .i64 c.super, f] ∧ I64 c.super ∧ Ints h f c.fields
def ShpR (h : Heap) (vs : List Value) (s : Shp) : Prop := ∃ l k, vs = [.bool s.told, l, k] ∧ Ints h l s.locals ∧ Ints h k s.stack
def InsR (_ : Heap) (vs : List Value) (x : Ins) : Prop := vs = [.int .i64 x.kind, .int .i64 x.a, .int .i64 x.b] ∧ I64 x.kind ∧ I64 x.a ∧ I64 x.b
def CtcR (_ : Heap) (vs : List Value) (x : Ctc) : Prop := vs = [.int .i64 x.lo, .int .i64 x.hi, .int .i64 x.to, .int .i64 x.cls] ∧ I64 x.lo ∧ I64 x.hi ∧ I64 x.to ∧ I64 x.cls
def MthR (h : Heap) (vs : List Value) (m : Mth) : Prop := ∃ a c s k, vs = [.int .i64 m.cls, .int .i64 m.sel, a, .int .i64 m.out, .int .i64 m.locals, c, s, k] ∧ I64 m.cls ∧ I64 m.sel ∧ I64 m.out ∧ I64 m.locals ∧
  Ints h a m.args ∧ Row 3 InsR h c m.code ∧ Row 3 ShpR h s m.shapes ∧ Row 4 CtcR h k m.catches
def UntR (h : Heap) (vs : List Value) (u : Unt) : Prop := ∃ c m, vs = [c, m] ∧ Row 2 ClsR h c u.classes ∧ Row 8 MthR h m u.methods
theorem Ints.le {h h' : Heap} {v : Value} {l : List Int} (hl : h.le h') (hr : Ints h v l) : Ints h' v l := Row.le hl (fun _ _ hx => hx) hr
theorem ClsR.le {h h' : Heap} (hl : h.le h') {vs : List Value} {c : Cls} (hr : ClsR h vs c) : ClsR h' vs c := by
  obtain ⟨f, a, b, d⟩ := hr
  exact ⟨f, a, b, d.le hl⟩
theorem ShpR.le {h h' : Heap} (hl : h.le h') {vs : List Value} {c : Shp} (hr : ShpR h vs c) : ShpR h' vs c := by
  obtain ⟨f, g, a, b, d⟩ := hr
  exact ⟨f, g, a, b.le hl, d.le hl⟩
theorem MthR.le {h h' : Heap} (hl : h.le h') {vs : List Value} {c : Mth} (hr : MthR h vs c) : MthR h' vs c := by
  obtain ⟨a, c, s, k, h0, h1, h2, h3, h4, h5, h6, h7, h8⟩ := hr
  exact ⟨a, c, s, k, h0, h1, h2, h3, h4, h5.le hl, h6.le hl (fun _ _ hx => hx), h7.le hl (fun _ _ hx => hx.le hl), h8.le hl (fun _ _ hx => hx)⟩
theorem UntR.le {h h' : Heap} (hl : h.le h') {vs : List Value} {c : Unt} (hr : UntR h vs c) : UntR h' vs c := by
  obtain ⟨c, m, h0, h1, h2⟩ := hr
  exact ⟨c, m, h0, h1.le hl (fun _ _ hx => hx.le hl), h2.le hl (fun _ _ hx => hx.le hl)⟩
end Go.Proofs
namespace Go.Proofs
open Go.Vc
set_option maxRecDepth 100000
def isWord (n : Int) : Bool := decide (-128 ≤ n ∧ n ≤ 127)
@[irreducible] def w8 (n : Int) : Int := (n + 128) % 256 - 128
theorem w8_eq (n : Int) : w8 n = (n + 128) % 256 - 128 := by unfold w8; rfl
def intDo (op a b : Int) : Int × Bool :=
  if isWord a ∧ isWord b then
    if op = 1 then (w8 (a + b), true) else if op = 2 then (w8 (a - b), true) else if op = 3 then (w8 (a * b), true)
    else if op = 4 ∧ b ≠ 0 then (w8 (a.tdiv b), true) else (0, false)
  else (0, false)
def prI (x : Int × Bool) : Value := .tuple #[.int .i64 x.1, .bool x.2]
theorem wrap8 (n : Int) : IntKind.i8.wrap n = w8 n := by
  simp [IntKind.wrap, IntKind.bits, IntKind.signed, w8]; omega
theorem w8_in (n : Int) : -128 ≤ w8 n ∧ w8 n ≤ 127 := by unfold w8; omega
theorem isWord_iff {n : Int} : isWord n = true ↔ -128 ≤ n ∧ n ≤ 127 := by simp [isWord]
theorem intDo_no {op a b : Int} (h : op < 1 ∨ 4 < op ∨ isWord a = false ∨ isWord b = false ∨ (op = 4 ∧ b = 0)) : intDo op a b = (0, false) := by
  unfold intDo
  split
  · rename_i hw
    have h' : op ≠ 1 ∧ op ≠ 2 ∧ op ≠ 3 ∧ ¬ (op = 4 ∧ b ≠ 0) := by
      rcases h with h | h | h | h | h
      · omega
      · omega
      · rw [hw.1] at h; cases h
      · rw [hw.2] at h; cases h
      · omega
    rw [if_neg h'.1, if_neg h'.2.1, if_neg h'.2.2.1, if_neg h'.2.2.2]
  · rfl
theorem w8_id {n : Int} (h : -128 ≤ n ∧ n ≤ 127) : w8 n = n := by unfold w8; omega
theorem isWord_c (n : Int) (h : Heap) : Pure Tryz.prog 90 [.int .i64 n] h (.bool (isWord n)) := by
  refine pur Tryz.sigOk Tryz.func90 Tryz.F90 Tryz.ok90 rfl ?_
  conv => whnf
  refine selP (fun h1 => ?_) (fun h1 => ?_)
  all_goals conv => whnf
  all_goals exact ⟨by simp [isWord, h1], rfl⟩
theorem l6In_c (n lo hi : Int) (h : Heap) : Pure Tryz.prog 41 [.int .i64 n, .int .i64 lo, .int .i64 hi] h (.bool (decide (lo ≤ n ∧ n ≤ hi))) := by
  refine pur Tryz.sigOk Tryz.func41 Tryz.F41 Tryz.ok41 rfl ?_
  conv => whnf
  refine selP (fun h1 => ?_) (fun h1 => ?_)
  all_goals conv => whnf
  all_goals exact ⟨by simp [h1], rfl⟩
theorem l1Word_c (n : Int) (h : Heap) : Pure Tryz.prog 78 [.int .i64 n] h (.bool (isWord n)) := by
  refine pur Tryz.sigOk Tryz.func78 Tryz.F78 Tryz.ok78 rfl ?_
  conv => whnf
  refine call_p (l6In_c _ _ _ _) ?_
  conv => whnf
  exact ⟨rfl, rfl⟩
theorem add_c (a b : Int) (h : Heap) : Pure Tryz.prog 91 [.int .i8 a, .int .i8 b] h (.int .i8 (w8 (a + b))) := by
  refine pur Tryz.sigOk Tryz.func91 Tryz.F91 Tryz.ok91 rfl ?_
  conv => whnf
  refine ar_any ?_
  conv => whnf
  exact ⟨by rw [wrap8], rfl⟩
theorem sub_c (a b : Int) (h : Heap) : Pure Tryz.prog 92 [.int .i8 a, .int .i8 b] h (.int .i8 (w8 (a - b))) := by
  refine pur Tryz.sigOk Tryz.func92 Tryz.F92 Tryz.ok92 rfl ?_
  conv => whnf
  refine ar_any ?_
  conv => whnf
  exact ⟨by rw [wrap8], rfl⟩
theorem mul_c (a b : Int) (h : Heap) : Pure Tryz.prog 93 [.int .i8 a, .int .i8 b] h (.int .i8 (w8 (a * b))) := by
  refine pur Tryz.sigOk Tryz.func93 Tryz.F93 Tryz.ok93 rfl ?_
  conv => whnf
  refine ar_any ?_
  conv => whnf
  exact ⟨by rw [wrap8], rfl⟩
theorem div_c (a b : Int) (h : Heap) (hb : b ≠ 0) : Pure Tryz.prog 94 [.int .i8 a, .int .i8 b] h (.int .i8 (w8 (a.tdiv b))) := by
  refine pur Tryz.sigOk Tryz.func94 Tryz.F94 Tryz.ok94 rfl ?_
  conv => whnf
  refine ob hb ?_
  conv => whnf
  refine ar_any ?_
  conv => whnf
  exact ⟨by rw [wrap8], rfl⟩
theorem mul_in {a b : Int} (ha : -128 ≤ a ∧ a ≤ 127) (hb : -128 ≤ b ∧ b ≤ 127) : -16384 ≤ a * b ∧ a * b ≤ 16384 := by
  have h1 : 0 ≤ (128 - a) * (128 - b) := Int.mul_nonneg (by omega) (by omega)
  have h2 : 0 ≤ (128 + a) * (128 + b) := Int.mul_nonneg (by omega) (by omega)
  have h3 : 0 ≤ (128 - a) * (128 + b) := Int.mul_nonneg (by omega) (by omega)
  have h4 : 0 ≤ (128 + a) * (128 - b) := Int.mul_nonneg (by omega) (by omega)
  constructor <;> grind
theorem tdiv_in' {a b : Int} (ha : -128 ≤ a ∧ a ≤ 127) : -128 ≤ a.tdiv b ∧ a.tdiv b ≤ 128 := by
  have h : (a.tdiv b).natAbs ≤ a.natAbs := by rw [Int.natAbs_tdiv]; exact Nat.div_le_self _ _
  omega
theorem intDo_yes {op a b : Int} (ha : isWord a = true) (hb : isWord b = true) : intDo op a b = if op = 1 then (w8 (a + b), true) else if op = 2 then (w8 (a - b), true) else if op = 3 then (w8 (a * b), true)
    else if op = 4 ∧ b ≠ 0 then (w8 (a.tdiv b), true) else (0, false) := by unfold intDo; rw [if_pos ⟨ha, hb⟩]
theorem w8w {a : Int} (ha : isWord a = true) : IntKind.i8.wrap a = a := by rw [wrap8, w8_id (isWord_iff.1 ha)]
theorem iIntDo_c (op a b : Int) (h : Heap) : Pure Tryz.prog 38 [.int .i64 op, .int .i64 a, .int .i64 b] h (prI (intDo op a b)) := by
  refine pur Tryz.sigOk Tryz.func38 Tryz.F38 Tryz.ok38 rfl ?_
  by_cases hr : op = 1 ∨ op = 2 ∨ op = 3 ∨ op = 4
  · rcases hr with rfl | rfl | rfl | rfl
    all_goals
      conv => whnf
      repeat' ((first
        | refine selP (fun h1 => ?_) (fun h1 => ?_)
        | refine selNB (fun h1 => ?_) (fun h1 => ?_)
        | refine call_p (isWord_c _ _) ?_
        | refine ob (by omega) ?_
        | refine ar_any ?_
        | refine call_p (add_c _ _ _) ?_
        | refine call_p (sub_c _ _ _) ?_
        | refine call_p (mul_c _ _ _) ?_
        | refine call_p (div_c _ _ _ (by rw [w8w (by assumption)]; assumption)) ?_) <;> (conv => whnf))
      all_goals first
        | (refine ⟨?_, rfl⟩; rw [intDo_no (by simp [*])]; rfl)
        | (refine ⟨?_, rfl⟩
           have ha : isWord a = true := by assumption
           have hb : isWord b = true := by assumption
           rw [intDo_yes ha hb, w8w ha, w8w hb, wrap_i64 (by have := w8_in (a + b); have := w8_in (a - b); have := w8_in (a * b); have := w8_in (a.tdiv b); omega) (by have := w8_in (a + b); have := w8_in (a - b); have := w8_in (a * b); have := w8_in (a.tdiv b); omega)]
           simp [prI, *])
  · conv => whnf
    repeat' ((first
      | refine selP (fun h1 => ?_) (fun h1 => ?_)) <;> (conv => whnf))
    all_goals first
      | (refine ⟨?_, rfl⟩; rw [intDo_no (by omega)]; rfl)
      | (exfalso; omega)
theorem tmod256 (n : Int) : -255 ≤ n.tmod 256 ∧ n.tmod 256 ≤ 255 ∧ (n.tmod 256 - n) % 256 = 0 := by
  rcases Int.lt_or_le n 0 with h | h
  · have h1 : n.tmod 256 = - ((-n) % 256) := by
      rw [show n = - (-n) by omega, Int.neg_tmod, Int.tmod_eq_emod_of_nonneg (by omega)]; simp
    omega
  · rw [Int.tmod_eq_emod_of_nonneg h]; omega
theorem sIntWrap_c (n : Int) (h : Heap) : Pure Tryz.prog 270 [.int .i64 n] h (.int .i64 (w8 n)) := by
  refine pur Tryz.sigOk Tryz.func270 Tryz.F270 Tryz.ok270 rfl ?_
  have hm := tmod256 n
  conv => whnf
  refine ob (by omega) ?_
  conv => whnf
  repeat' ((first
    | refine selP (fun h1 => ?_) (fun h1 => ?_)
    | refine ar_in (by omega) (by omega) ?_) <;> (conv => whnf))
  all_goals exact ⟨by unfold w8; congr 1; omega, rfl⟩
theorem sIntDo_c (op a b : Int) (h : Heap) : Pure Tryz.prog 248 [.int .i64 op, .int .i64 a, .int .i64 b] h (prI (intDo op a b)) := by
  refine pur Tryz.sigOk Tryz.func248 Tryz.F248 Tryz.ok248 rfl ?_
  conv => whnf
  refine call_p (l1Word_c _ _) ?_
  conv => whnf
  refine selNB (fun h1 => ?_) (fun h1 => ?_)
  all_goals conv => whnf
  · exact ⟨by rw [intDo_no (by simp [*])]; rfl, rfl⟩
  refine call_p (l1Word_c _ _) ?_
  conv => whnf
  refine selNB (fun h2 => ?_) (fun h2 => ?_)
  all_goals conv => whnf
  · exact ⟨by rw [intDo_no (by simp [*])]; rfl, rfl⟩
  have ha := isWord_iff.1 h1
  have hb := isWord_iff.1 h2
  have hm := mul_in ha hb
  have hq := tdiv_in' (b := b) ha
  repeat' ((first
    | refine selP (fun h3 => ?_) (fun h3 => ?_)
    | refine selNP (fun h3 => ?_) (fun h3 => ?_)
    | refine ar_in (by omega) (by omega) ?_
    | refine ob (by omega) ?_
    | refine call_p (sIntWrap_c _ _) ?_) <;> (conv => whnf))
  all_goals (refine ⟨?_, rfl⟩; rw [intDo_yes h1 h2]; simp [prI, *])
end Go.Proofs
namespace Go.Proofs
open Go.Vc
set_option maxRecDepth 100000
set_option maxHeartbeats 4000000
noncomputable def tf (p : Prop) : Value := .bool (@decide p (Classical.propDecidable p))
theorem tf_t {p : Prop} (hp : p) : tf p = .bool true := by unfold tf; rw [@decide_eq_true p (Classical.propDecidable p) hp]
theorem tf_f {p : Prop} (hp : ¬ p) : tf p = .bool false := by unfold tf; rw [@decide_eq_false p (Classical.propDecidable p) hp]
theorem tf_d {p q : Prop} {_ : Decidable q} (hp : p ↔ q) : tf p = .bool (decide q) := by
  by_cases hq : q
  · rw [tf_t (hp.2 hq), decide_eq_true hq]
  · rw [tf_f (fun x => hq (hp.1 x)), decide_eq_false hq]
theorem leafT {p : Prop} (hp : p) : Value.bool true = tf p := (tf_t hp).symm
theorem leafF {p : Prop} (hp : ¬ p) : Value.bool false = tf p := (tf_f hp).symm
theorem leafD {p q : Prop} {_ : Decidable q} (hp : p ↔ q) : Value.bool (decide q) = tf p := (tf_d hp).symm
def kindV (n t : Int) : Value :=
  if t = 0 then .iface 263 (.agg #[]) else if t = 1 then .iface 227 (.agg #[]) else if t = 2 then .iface 264 (.agg #[])
  else if t = 3 then .iface 229 (.agg #[.bool false]) else if t = 4 then .iface 229 (.agg #[.bool true])
  else if 8 ≤ t ∧ t < 8 + n then .iface 231 (.agg #[.int .i64 (t - 8)]) else .nilIface
theorem kindOf_c (n t : Int) (h : Heap) (hn : 0 ≤ n ∧ n ≤ 140737488351232) (ht : I64 t) : Pure Tryz.prog 214 [.int .i64 n, .int .i64 t] h (kindV n t) := by
  obtain ⟨t0, t1⟩ := ht
  refine pur Tryz.sigOk Tryz.func214 Tryz.F214 Tryz.ok214 rfl ?_
  conv => whnf
  repeat' ((first
    | refine selP (fun h1 => ?_) (fun h1 => ?_)
    | refine ar_in (by omega) (by omega) ?_) <;> conv => whnf)
  all_goals exact ⟨by simp [kindV, *]; try omega, rfl⟩
def FieldT (n t : Int) : Prop := t = 1 ∨ t = 3 ∨ t = 4 ∨ (8 ≤ t ∧ t < 8 + n)
theorem fieldType_c (n t : Int) (h : Heap) (hn : 0 ≤ n ∧ n ≤ 140737488351232) (ht : I64 t) : Pure Tryz.prog 161 [.int .i64 n, .int .i64 t] h (tf (FieldT n t)) := by
  refine pur Tryz.sigOk Tryz.func161 Tryz.F161 Tryz.ok161 rfl ?_
  have c := kindOf_c n t h hn ht
  have hk : ∀ v, kindV n t = v → Pure Tryz.prog 214 [.int .i64 n, .int .i64 t] h v := by rintro v rfl; exact c
  have hcase : t = 0 ∨ t = 1 ∨ t = 2 ∨ t = 3 ∨ t = 4 ∨ (8 ≤ t ∧ t < 8 + n) ∨ (t ≠ 0 ∧ t ≠ 1 ∧ t ≠ 2 ∧ t ≠ 3 ∧ t ≠ 4 ∧ ¬ (8 ≤ t ∧ t < 8 + n)) := by omega
  conv => whnf
  rcases hcase with rfl | rfl | rfl | rfl | rfl | h1 | ⟨h1, h2, h3, h4, h5, h6⟩
  · refine call_p (hk (.iface 263 (.agg #[])) (by simp [kindV])) ?_
    conv => whnf
    refine raw_ta rfl (fun w => rfl) ?_
    conv => whnf
    refine raw_ta rfl (fun w => rfl) ?_
    conv => whnf
    refine raw_ta rfl (fun w => rfl) ?_
    conv => whnf
    exact ⟨by rw [tf_f]; unfold FieldT; omega, rfl⟩
  · refine call_p (hk (.iface 227 (.agg #[])) (by simp [kindV])) ?_
    conv => whnf
    refine raw_ta rfl (fun w => rfl) ?_
    conv => whnf
    refine raw_ta rfl (fun w => rfl) ?_
    conv => whnf
    refine raw_ta rfl (fun w => rfl) ?_
    conv => whnf
    exact ⟨by rw [tf_t]; unfold FieldT; omega, rfl⟩
  · refine call_p (hk (.iface 264 (.agg #[])) (by simp [kindV])) ?_
    conv => whnf
    refine raw_ta rfl (fun w => rfl) ?_
    conv => whnf
    refine raw_ta rfl (fun w => rfl) ?_
    conv => whnf
    refine raw_ta rfl (fun w => rfl) ?_
    conv => whnf
    exact ⟨by rw [tf_f]; unfold FieldT; omega, rfl⟩
  · refine call_p (hk (.iface 229 (.agg #[.bool false])) (by simp [kindV])) ?_
    conv => whnf
    refine raw_ta rfl (fun w => rfl) ?_
    conv => whnf
    refine raw_ta rfl (fun w => rfl) ?_
    conv => whnf
    refine raw_ta rfl (fun w => rfl) ?_
    conv => whnf
    exact ⟨by rw [tf_t]; unfold FieldT; omega, rfl⟩
  · refine call_p (hk (.iface 229 (.agg #[.bool true])) (by simp [kindV])) ?_
    conv => whnf
    refine raw_ta rfl (fun w => rfl) ?_
    conv => whnf
    refine raw_ta rfl (fun w => rfl) ?_
    conv => whnf
    refine raw_ta rfl (fun w => rfl) ?_
    conv => whnf
    exact ⟨by rw [tf_t]; unfold FieldT; omega, rfl⟩
  · refine call_p (hk (.iface 231 (.agg #[.int .i64 (t - 8)])) (by simp only [kindV]; (repeat' split) <;> first | rfl | (exfalso; omega))) ?_
    conv => whnf
    refine raw_ta rfl (fun w => rfl) ?_
    conv => whnf
    refine raw_ta rfl (fun w => rfl) ?_
    conv => whnf
    refine raw_ta rfl (fun w => rfl) ?_
    conv => whnf
    exact ⟨by rw [tf_t]; unfold FieldT; omega, rfl⟩
  · refine call_p (hk .nilIface (by simp [kindV, *])) ?_
    conv => whnf
    refine raw_ta rfl (fun w => rfl) ?_
    conv => whnf
    refine raw_ta rfl (fun w => rfl) ?_
    conv => whnf
    refine raw_ta rfl (fun w => rfl) ?_
    conv => whnf
    exact ⟨by rw [tf_f]; unfold FieldT; omega, rfl⟩
theorem isClass_c (p : Option Addr) (n c : Nat) (x : Int) (h : Heap) : Pure Tryz.prog 88 [.slice p n c, .int .i64 x] h (tf (0 ≤ x ∧ x < n)) := by
  refine pur Tryz.sigOk Tryz.func88 Tryz.F88 Tryz.ok88 rfl ?_
  conv => whnf
  refine selP (fun h1 => ?_) (fun h1 => ?_)
  all_goals conv => whnf
  · exact ⟨by rw [tf_d (q := x < n)]; omega, rfl⟩
  · exact ⟨by rw [tf_f]; omega, rfl⟩
def superOf (cs : List Cls) (c : Int) : Int := match cs[c.toNat]? with
  | some x => x.super
  | none => -1
theorem superOf_eq {cs : List Cls} {i : Nat} (hi : i < cs.length) : superOf cs i = cs[i].super := by simp [superOf, hi]
def FieldsT (n : Nat) (l : List Int) : Prop := ∀ t ∈ l, FieldT n t
def ClassT (n : Nat) (i : Nat) (c : Cls) : Prop := FieldsT n c.fields ∧ (i = 0 → c.super = -1 ∧ c.fields = []) ∧ (i = 1 → c.super = 0 ∧ c.fields = [1]) ∧ (1 < i → 0 ≤ c.super ∧ c.super < i) ∧ c.fields.length ≤ 2
def CsOk (cs : List Cls) : Prop := 2 ≤ cs.length ∧ cs.length ≤ 5 ∧ ∀ i (hi : i < cs.length), ClassT cs.length i cs[i]
abbrev ClsS := Row 2 ClsR
theorem ClsS.at {h : Heap} {p : Option Addr} {n c : Nat} {cs : List Cls} (hr : ClsS h (.slice p n c) cs) {i : Nat} (hi : i < cs.length) :
    ∃ b off q k d, p = some ⟨b, off, none⟩ ∧ rdn h b (off + i * 2) 2 = some [.int .i64 cs[i].super, .slice q k d] ∧ rd h b (off + i * 2) = some (.int .i64 cs[i].super) ∧ rd h b (off + i * 2 + 1) = some (.slice q k d) ∧ I64 cs[i].super ∧ Ints h (.slice q k d) cs[i].fields ∧ k = cs[i].fields.length := by
  obtain ⟨b, off, vs, hp, h1, f, rfl, h2, h3⟩ := hr.get hi
  obtain ⟨q, d, rfl, _, _⟩ := h3.len
  exact ⟨b, off, q, _, d, hp, h1, rdn_get h1 (i := 0) rfl, rdn_get h1 (i := 1) rfl, h2, h3, rfl⟩
theorem one_of {l : List Int} {x : Int} (h1 : l.length = 1) (h2 : l[0] = x) : l = [x] := by
  match l, h1, h2 with
  | [y], _, h2 => simp at h2; rw [h2]
theorem ClassesOk_c (p : Option Addr) (n c : Nat) (cs : List Cls) (h : Heap) (hr : ClsS h (.slice p n c) cs) : Pure Tryz.prog 87 [.slice p n c] h (tf (CsOk cs)) := by
  obtain rfl : n = cs.length := by obtain ⟨_, _, he, _⟩ := hr.len; injection he
  have hl : cs.length ≤ 140737488351232 := by obtain ⟨_, _, _, _, he⟩ := hr.len; omega
  refine pur Tryz.sigOk Tryz.func87 Tryz.F87 Tryz.ok87 rfl ?_
  conv => whnf
  refine selP (fun h1 => ?_) (fun h1 => ?_)
  all_goals conv => whnf
  · exact ⟨by rw [tf_f]; rintro ⟨h2, _⟩; omega, rfl⟩
  refine selP (fun h2 => ?_) (fun h2 => ?_)
  all_goals conv => whnf
  · exact ⟨by rw [tf_f]; rintro ⟨_, h3, _⟩; omega, rfl⟩
  obtain ⟨b, off, q0, k0, d0, hp, a1, a2, a3, a4, a5, a6⟩ := hr.at (i := 0) (by omega)
  obtain ⟨b', off', q1, k1, d1, hp', b1, b2, b3, b4, b5, b6⟩ := hr.at (i := 1) (by omega)
  rw [hp] at hp'
  simp only [Option.some.injEq, Addr.mk.injEq, and_true] at hp'
  obtain ⟨rfl, rfl⟩ := hp'
  subst hp
  refine ob (by omega) ?_
  conv => whnf
  refine ptr ?_
  conv => whnf
  refine ld a2 ?_
  conv => whnf
  refine selNP (fun h3 => ?_) (fun h3 => ?_)
  all_goals conv => whnf
  · exact ⟨by rw [tf_f]; rintro ⟨_, _, h4⟩; exact h3 ((h4 0 (by omega)).2.1 rfl).1, rfl⟩
  refine ob (by omega) ?_
  conv => whnf
  refine ptr ?_
  conv => whnf
  refine ld a3 ?_
  conv => whnf
  refine selNP (fun h4 => ?_) (fun h4 => ?_)
  all_goals conv => whnf
  · exact ⟨by rw [tf_f]; rintro ⟨_, _, h5⟩; refine h4 ?_; have := ((h5 0 (by omega)).2.1 rfl).2; rw [a6, this]; rfl, rfl⟩
  refine ob (by omega) ?_
  conv => whnf
  refine ptr ?_
  conv => whnf
  refine ldn b1 ?_
  conv => whnf
  refine selNP (fun h5 => ?_) (fun h5 => ?_)
  all_goals conv => whnf
  · exact ⟨by rw [tf_f]; rintro ⟨_, _, h6⟩; exact h5 ((h6 1 (by omega)).2.2.1 rfl).1, rfl⟩
  refine selNP (fun h6 => ?_) (fun h6 => ?_)
  all_goals conv => whnf
  · exact ⟨by rw [tf_f]; rintro ⟨_, _, h7⟩; refine h6 ?_; have := ((h7 1 (by omega)).2.2.1 rfl).2; rw [b6, this]; rfl, rfl⟩
  obtain ⟨b1', off1, vs, hq, c1, c2, c3⟩ := b5.get (i := 0) (by omega)
  subst c2
  refine ob (by omega) ?_
  conv => whnf
  refine ptr' hq ?_
  conv => whnf
  refine ld (rdn_get c1 (i := 0) rfl) ?_
  conv => whnf
  refine selNP (fun h7 => ?_) (fun h7 => ?_)
  all_goals conv => whnf
  · exact ⟨by rw [tf_f]; rintro ⟨_, _, h8⟩; refine h7 ?_; have := ((h8 1 (by omega)).2.2.1 rfl).2; simp [this], rfl⟩
  have hf1 : cs[1].fields = [1] := one_of (by omega) h7
  have hf0 : cs[0].fields = [] := List.eq_nil_of_length_eq_zero (by omega)
  refine lps [0, 48, 49, 50] [] (fun i : Nat => i ≤ cs.length ∧ ∀ j (hj : j < cs.length), j < i → (1 < j → 0 ≤ cs[j].super ∧ cs[j].super < j) ∧ cs[j].fields.length ≤ 2 ∧ FieldsT cs.length cs[j].fields) (fun i => cs.length - i)
    (fun i => ([.v (.slice (some ⟨b, off, none⟩) cs.length c), .v (.slice (some ⟨b, off, none⟩) cs.length c), .v (.int .i64 cs.length), .v (.int .i64 i)], [], h)) 0 ⟨by omega, fun j hj h => by omega⟩ rfl ?_
  rintro i ⟨hi, hd⟩
  conv => whnf
  refine selP (fun hlt => ?_) (fun hlt => ?_)
  all_goals conv => whnf
  · obtain ⟨b2, off2, q, k, d, hp, e1, e2, e3, e4, e5, e6⟩ := hr.at (i := i) (by omega)
    simp only [Option.some.injEq, Addr.mk.injEq, and_true] at hp
    obtain ⟨rfl, rfl⟩ := hp
    refine ob (by omega) ?_
    conv => whnf
    refine ptr ?_
    conv => whnf
    refine ldn (by simpa using e1) ?_
    conv => whnf
    have bad : ¬ ((1 < i → 0 ≤ cs[i].super ∧ cs[i].super < i) ∧ cs[i].fields.length ≤ 2 ∧ FieldsT cs.length cs[i].fields) → .bool false = tf (CsOk cs) := by
      intro h8
      rw [tf_f]
      rintro ⟨_, _, h10⟩
      have h11 := h10 i (by omega)
      exact h8 ⟨h11.2.2.2.1, h11.2.2.2.2, h11.1⟩
    by_cases hS : 1 < i → 0 ≤ cs[i].super ∧ cs[i].super < i
    · repeat' ((first
        | refine selP (fun _ => ?_) (fun _ => ?_)) <;> conv => whnf)
      all_goals first
        | (exfalso; omega)
        | exact ⟨bad (by rintro ⟨_, h9, _⟩; omega), rfl⟩
        | skip
      all_goals
        refine lps [0, 48, 49, 50, 73, 74, 75] [] (fun m : Nat => m ≤ k ∧ ∀ l (hl : l < cs[i].fields.length), l < m → FieldT cs.length cs[i].fields[l]) (fun m => k - m)
          (fun m => ([.v (.slice (some ⟨b, off, none⟩) cs.length c), .v (.slice (some ⟨b, off, none⟩) cs.length c), .v (.int .i64 cs.length), .v (.int .i64 i), .v (.slice q k d), .v (.int .i64 k), .v (.int .i64 m)], [], h)) 0 ⟨by omega, fun l hl h => by omega⟩ rfl ?_
        rintro m ⟨hm, hg⟩
        conv => whnf
        refine selP (fun h8 => ?_) (fun h8 => ?_)
        all_goals conv => whnf
        · have hmk : m < cs[i].fields.length := by omega
          have e7 := e5.get hmk
          obtain ⟨b2, off2, vs, hq2, f1, f2, f3⟩ := e7
          subst f2
          refine ob (by omega) ?_
          conv => whnf
          refine ptr' hq2 ?_
          conv => whnf
          refine ld (by simpa using rdn_get f1 (i := 0) rfl) ?_
          conv => whnf
          refine call_p (fieldType_c _ _ _ (by omega) f3) ?_
          conv => whnf
          refine selNP (fun h9 => ?_) (fun h9 => ?_)
          all_goals conv => whnf
          · exact ⟨bad (by rintro ⟨_, _, h10⟩; exact h9 (h10 cs[i].fields[m] (List.getElem_mem _))), rfl⟩
          · refine ar_in (by omega) (by omega) ?_
            conv => whnf
            refine lpn (m + 1) ⟨by omega, fun l hl hlm => ?_⟩ (by omega) rfl
            rcases Nat.lt_succ_iff_lt_or_eq.1 hlm with h10 | rfl
            · exact hg l hl h10
            · exact h9
        · refine ar_in (by omega) (by omega) ?_
          conv => whnf
          refine lpn (i + 1) ⟨by omega, fun j hj hji => ?_⟩ (by omega) rfl
          rcases Nat.lt_succ_iff_lt_or_eq.1 hji with h10 | rfl
          · exact hd j hj h10
          · refine ⟨hS, by omega, fun t ht => ?_⟩
            obtain ⟨l, hl, rfl⟩ := List.mem_iff_getElem.1 ht
            exact hg l hl (by omega)
    · repeat' ((first
        | refine selP (fun _ => ?_) (fun _ => ?_)) <;> conv => whnf)
      all_goals first
        | exact ⟨bad (fun h9 => hS h9.1), rfl⟩
        | (exfalso; omega)
  · exact ⟨by
      rw [tf_t]
      refine ⟨by omega, by omega, fun j hj => ⟨(hd j hj (by omega)).2.2, ?_, ?_, (hd j hj (by omega)).1, (hd j hj (by omega)).2.1⟩⟩
      · rintro rfl; exact ⟨h3, hf0⟩
      · rintro rfl; exact ⟨h5, hf1⟩, rfl⟩
end Go.Proofs
namespace Go.Proofs
open Go.Vc
set_option maxRecDepth 100000
set_option maxHeartbeats 4000000
def upK (cs : List Cls) (b : Int) : Nat → Int → Bool
  | 0, _ => false
  | k + 1, a => decide (0 ≤ a) && (decide (a = b) || upK cs b k (superOf cs a))
def up (cs : List Cls) (a b : Int) : Bool := upK cs b (a.toNat + 1) a
theorem CsOk.super {cs : List Cls} (ok : CsOk cs) {a : Int} (h0 : 0 ≤ a) (h1 : a < cs.length) : -1 ≤ superOf cs a ∧ superOf cs a < a := by
  have hi : a.toNat < cs.length := by omega
  have he := superOf_eq hi
  have hsa : superOf cs a = superOf cs (a.toNat : Int) := by rw [Int.toNat_of_nonneg h0]
  have hc := ok.2.2 a.toNat hi
  rw [hsa, he]
  rcases Nat.lt_trichotomy a.toNat 1 with h | h | h
  · have := (hc.2.1 (by omega)).1; omega
  · have := (hc.2.2.1 h).1; omega
  · have := hc.2.2.2.1 h; omega
theorem upK_more {cs : List Cls} (ok : CsOk cs) (b : Int) : ∀ (k : Nat) (a : Int), a < cs.length → a.toNat < k → upK cs b k a = upK cs b (k + 1) a
  | 0, a, _, h => by omega
  | k + 1, a, hl, h => by
    rw [upK, upK]
    by_cases h0 : 0 ≤ a
    · have hs := ok.super h0 hl
      by_cases h1 : 0 ≤ superOf cs a
      · rw [upK_more ok b k (superOf cs a) (by omega) (by omega)]
      · have hn : ∀ k, upK cs b k (superOf cs a) = false := by
          intro k
          cases k with
          | zero => rfl
          | succ k => rw [upK]; simp [h1]
        rw [hn, hn]
    · simp [h0]
theorem upK_any {cs : List Cls} (ok : CsOk cs) (b : Int) (a : Int) (hl : a < cs.length) : ∀ (j : Nat), upK cs b (a.toNat + 1 + j) a = up cs a b
  | 0 => rfl
  | j + 1 => by
    rw [← upK_any ok b a hl j]
    exact (upK_more ok b (a.toNat + 1 + j) a hl (by omega)).symm
theorem up_neg {cs : List Cls} {a b : Int} (h : a < 0) : up cs a b = false := by
  unfold up
  rw [upK]
  simp [show ¬ 0 ≤ a by omega]
theorem up_step {cs : List Cls} (ok : CsOk cs) {a b : Int} (h0 : 0 ≤ a) (hl : a < cs.length) : up cs a b = (decide (a = b) || up cs (superOf cs a) b) := by
  have hs := ok.super h0 hl
  conv => lhs; unfold up
  rw [upK]
  simp only [h0, decide_true, Bool.true_and]
  by_cases h1 : 0 ≤ superOf cs a
  · have := upK_any ok b (superOf cs a) (by omega) (a.toNat - (superOf cs a).toNat - 1)
    rw [show (superOf cs a).toNat + 1 + (a.toNat - (superOf cs a).toNat - 1) = a.toNat by omega] at this
    rw [this]
  · rw [up_neg (by omega)]
    have : upK cs b a.toNat (superOf cs a) = false := by
      cases a.toNat with
      | zero => rfl
      | succ k => rw [upK]; simp [h1]
    rw [this]
theorem up_low {cs : List Cls} (ok : CsOk cs) : ∀ (k : Nat) {a b : Int}, a.toNat < k → a < cs.length → a < b → up cs a b = false
  | 0, a, b, h, _, _ => by omega
  | k + 1, a, b, h, hl, hb => by
    by_cases h0 : 0 ≤ a
    · have hs := ok.super h0 hl
      rw [up_step ok h0 hl]
      by_cases h1 : 0 ≤ superOf cs a
      · rw [up_low ok k (by omega) (by omega) (by omega)]
        simp [show a ≠ b by omega]
      · rw [up_neg (by omega)]
        simp [show a ≠ b by omega]
    · exact up_neg (by omega)
theorem ClsS.n {h : Heap} {p : Option Addr} {n c : Nat} {cs : List Cls} (hr : ClsS h (.slice p n c) cs) : n = cs.length := by obtain ⟨_, _, he, _⟩ := hr.len; injection he
theorem classUp_c (p : Option Addr) (n c : Nat) (cs : List Cls) (a b : Int) (h : Heap) (hr : ClsS h (.slice p n c) cs) (ok : CsOk cs) (h0 : -1 ≤ a) (hl : a < cs.length) :
    Pure Tryz.prog 89 [.slice p n c, .int .i64 a, .int .i64 b] h (.bool (up cs a b)) := by
  have hn := hr.n
  refine pur Tryz.sigOk Tryz.func89 Tryz.F89 Tryz.ok89 rfl ?_
  conv => whnf
  refine lps [0, 2, 7] [] (fun x : Int => -1 ≤ x ∧ x < cs.length ∧ up cs x b = up cs a b) (fun x => (x + 1).toNat)
    (fun x => ([.v (.slice p n c), .v (.int .i64 b), .v (.int .i64 x)], [], h)) a ⟨h0, hl, rfl⟩ rfl ?_
  rintro x ⟨x0, x1, x2⟩
  conv => whnf
  refine selP (fun h1 => ?_) (fun h1 => ?_)
  all_goals conv => whnf
  · refine selP (fun h2 => ?_) (fun h2 => ?_)
    all_goals conv => whnf
    · exact ⟨by rw [← x2, up_step ok h1 x1]; simp [h2], rfl⟩
    · have hi : x.toNat < cs.length := by omega
      have e := hr.at hi
      obtain ⟨bb, off, q, k, d, hp, _, e2, _, _, _, _⟩ := e
      have hs := ok.super h1 x1
      have hse : superOf cs x = cs[x.toNat].super := by simp [superOf, hi]
      refine ob (by omega) ?_
      conv => whnf
      refine ptr' hp ?_
      conv => whnf
      refine ld e2 ?_
      conv => whnf
      refine lpn (cs[x.toNat].super) ⟨by omega, by omega, ?_⟩ (by omega) rfl
      rw [← x2, up_step ok h1 x1, hse]
      simp [h2]
  · exact ⟨by rw [← x2, up_neg (by omega)], rfl⟩
theorem l2Up_c (p : Option Addr) (n c : Nat) (cs : List Cls) (a b : Int) (h : Heap) (hr : ClsS h (.slice p n c) cs) (ok : CsOk cs) (h0 : -1 ≤ a) (hl : a < cs.length) (hb : 0 ≤ b) :
    Pure Tryz.prog 131 [.slice p n c, .int .i64 a, .int .i64 b] h (.bool (up cs a b)) := by
  have hn := hr.n
  refine pur Tryz.sigOk Tryz.func131 Tryz.F131 Tryz.ok131 rfl ?_
  conv => whnf
  refine lps [0, 1, 2] [] (fun x : Int => -1 ≤ x ∧ x < cs.length ∧ up cs x b = up cs a b) (fun x => (x + 1).toNat)
    (fun x => ([.v (.slice p n c), .v (.int .i64 x), .v (.int .i64 b)], [], h)) a ⟨h0, hl, rfl⟩ rfl ?_
  rintro x ⟨x0, x1, x2⟩
  conv => whnf
  refine selP (fun h1 => ?_) (fun h1 => ?_)
  all_goals conv => whnf
  · have hi : x.toNat < cs.length := by omega
    have e := hr.at hi
    obtain ⟨bb, off, q, k, d, hp, _, e2, _, _, _, _⟩ := e
    have hs := ok.super (a := x) (by omega) x1
    have hse : superOf cs x = cs[x.toNat].super := by simp [superOf, hi]
    refine ob (by omega) ?_
    conv => whnf
    refine ptr' hp ?_
    conv => whnf
    refine ld e2 ?_
    conv => whnf
    refine lpn (cs[x.toNat].super) ⟨by omega, by omega, ?_⟩ (by omega) rfl
    rw [← x2, up_step ok (a := x) (by omega) x1, hse]
    simp [show x ≠ b by omega]
  · refine ⟨?_, rfl⟩
    rw [← x2]
    by_cases h2 : x = b
    · subst h2
      rw [up_step ok (by omega) x1]
      simp
    · rw [up_low ok (x.toNat + 1) (by omega) x1 (by omega)]
      simp [h2]
end Go.Proofs
namespace Go.Proofs
open Go.Vc
set_option maxRecDepth 100000
def OwnC (sz : Nat) (h : Heap) (v : Value) (xs : List (List Value)) (B : List Nat) : Prop :=
  (∀ x ∈ xs, x.length = sz) ∧ ((v = .slice none 0 0 ∧ xs = [] ∧ B = []) ∨ ∃ b c rest t, v = .slice (some ⟨b, 0, none⟩) xs.length c ∧ xs.length ≤ c ∧ h b = some (.cells (xs.flatten ++ rest).toArray t (0, 0)) ∧ (xs.flatten ++ rest).length = c * sz ∧ B = [b])
theorem flat_length {sz : Nat} : ∀ {xs : List (List Value)}, (∀ x ∈ xs, x.length = sz) → xs.flatten.length = xs.length * sz
  | [], _ => by simp
  | x :: xs, h => by
    simp only [List.flatten_cons, List.length_append, List.length_cons]
    rw [flat_length (fun y hy => h y (List.mem_cons_of_mem _ hy)), h x List.mem_cons_self, Nat.succ_mul]
    omega
theorem wrls_app (vs : List Value) : ∀ (a r : List Value), vs.length ≤ r.length → wrls (a ++ r) a.length vs = a ++ vs ++ r.drop vs.length := by
  induction vs with
  | nil => intro a r _; simp [wrls]
  | cons v vs ih =>
    intro a r hr
    cases r with
    | nil => simp at hr
    | cons y r =>
      simp only [wrls]
      have : wrl (a ++ y :: r) a.length v = (a ++ [v]) ++ r := by
        rw [wrl_eq]; simp
      rw [this]
      have h2 := ih (a ++ [v]) r (by simpa using hr)
      simp only [List.length_append, List.length_cons, List.length_nil, Nat.zero_add] at h2
      rw [h2]
      simp
theorem rdn_cells {h : Heap} {b : Nat} {cs : List Value} {t : TypeId} {fz : Nat × Nat} (hb : h b = some (.cells cs.toArray t fz)) : ∀ (k off : Nat), off + k ≤ cs.length → rdn h b off k = some ((cs.drop off).take k)
  | 0, off, _ => by simp [rdn]
  | k + 1, off, hl => by
    have hlt : off < cs.length := by omega
    have e1 : rd h b off = some cs[off] := by simp [rd, hb, hlt]
    simp only [rdn, e1, rdn_cells hb k (off + 1) (by omega)]
    rw [List.drop_eq_getElem_cons hlt, List.take_succ_cons]
theorem Heap.le_set_free {h0 h : Heap} {b : Nat} {o : Obj} (hl : h0.le h) (hb : h0 b = none) : h0.le (h.set b o) := by
  intro c x hx
  have hne : c ≠ b := by rintro rfl; rw [hb] at hx; cases hx
  simp only [Heap.set, hne, if_false]
  exact hl c x hx
theorem app_own {bytes sz : Nat} {zero : List Value} {el : TypeId} {h0 h : Heap} {p : Option Addr} {n cap : Nat} {xs ys : List (List Value)} {B : List Nat} {m : Nat} {vs : List Value} {K : Value → Heap → Prop}
    (ho : OwnC sz h (.slice p n cap) xs B) (hB : ∀ b ∈ B, h0 b = none) (hle : h0.le h) (hvs : vs = ys.flatten) (hm : m = ys.length) (hys : ∀ y ∈ ys, y.length = sz) (hc : cellsOk vs = true) (hz : zero.length = sz)
    (hb1 : (xs.length + ys.length) * bytes ≤ 2 ^ 44) (hb2 : xs.length + ys.length ≤ 2 ^ 44)
    (hk : ∀ v' h' B', h0.le h' → OwnC sz h' v' (xs ++ ys) B' → (∀ b ∈ B', h0 b = none) → (∀ b, b ∉ B → h b ≠ none → h' b = h b) → (∀ b ∈ B', b ∈ B ∨ h b = none) → K v' h') : App bytes sz zero el h p n cap m vs K := by
  subst hvs hm
  obtain ⟨hx, ho⟩ := ho
  have hxy : ∀ x ∈ xs ++ ys, x.length = sz := by
    intro x hm
    rcases List.mem_append.1 hm with hm | hm
    · exact hx x hm
    · exact hys x hm
  have hly := flat_length hys
  have hlx := flat_length hx
  rw [App_def]; unfold App_
  rcases ho with ⟨he, rfl, rfl⟩ | ⟨b, c, rest, t, he, hcap, hb, hlen, rfl⟩
  · simp only [Value.slice.injEq] at he
    obtain ⟨rfl, rfl, rfl⟩ := he
    refine ⟨fun h1 => ⟨hc, ?_⟩, fun h1 => ⟨by simpa using hb1, by simpa using hb2, [], ⟨rfl, rfl⟩, fun b c hb hcap => ?_⟩⟩
    · have hy0 : ys = [] := List.eq_nil_of_length_eq_zero (by omega)
      subst hy0
      exact ⟨rfl, hk _ _ [] hle ⟨hxy, .inl ⟨rfl, rfl, rfl⟩⟩ (by simp) (fun _ _ _ => rfl) (by simp)⟩
    · refine hk _ _ [b] (Heap.le_set_free hle ?_) ⟨hxy, .inr ⟨b, c, (List.replicate (c - (0 + ys.length)) zero).flatten, el, by simp, by simpa using hcap, by simp [Heap.set], ?_, rfl⟩⟩ ?_ ?_ ?_
      · cases hh : h0 b with
        | none => rfl
        | some x => rw [hle b x hh] at hb; cases hb
      · rw [List.length_append, flat_len, hz, List.nil_append, hly, Nat.zero_add, ← Nat.add_mul]
        congr 1
        omega
      · intro b' hb'
        simp only [List.mem_singleton] at hb'
        subst hb'
        cases hh : h0 b' with
        | none => rfl
        | some x => rw [hle b' x hh] at hb; cases hb
      · intro b' _ hn
        have : b' ≠ b := by rintro rfl; exact hn hb
        simp [Heap.set, this]
      · intro b' hb'
        simp only [List.mem_singleton] at hb'
        subst hb'
        exact .inr hb
  · simp only [Value.slice.injEq] at he
    obtain ⟨rfl, rfl, rfl⟩ := he
    have hfree : ∀ b, h b = none → h0 b = none := by
      intro b hb
      cases hh : h0 b with
      | none => rfl
      | some x => rw [hle b x hh] at hb; cases hb
    have hsz : (xs.flatten ++ rest).length = xs.length * sz + rest.length := by rw [List.length_append, hlx]
    refine ⟨fun h1 => ⟨hc, (xs.flatten ++ rest).toArray, t, hb, ?_, ?_⟩, fun h1 => ⟨hb1, hb2, xs.flatten, ?_, fun b' c' hb' hcap' => ?_⟩⟩
    · have := Nat.mul_le_mul_right sz h1
      rw [Nat.add_mul] at this
      simp only [List.size_toArray]
      omega
    · have hw : wrls (xs.flatten ++ rest) (0 + xs.length * sz) ys.flatten = (xs ++ ys).flatten ++ rest.drop ys.flatten.length := by
        rw [Nat.zero_add, ← hlx, wrls_app]
        · simp
        · have := Nat.mul_le_mul_right sz h1
          rw [Nat.add_mul] at this
          omega
      have hll : ys.flatten.length ≤ rest.length := by
        have := Nat.mul_le_mul_right sz h1
        rw [Nat.add_mul] at this
        omega
      refine hk _ _ [b] (Heap.le_set_free hle (hB b (by simp))) ⟨hxy, .inr ⟨b, cap, rest.drop ys.flatten.length, t, by simp, by simpa using h1, ?_, ?_, rfl⟩⟩ ?_ ?_ ?_
      · simp only [Heap.set, if_true]
        rw [← hw]
      · rw [← hw, wrls_length]; exact hlen
      · intro b' hb'
        exact hB b' hb'
      · intro b' hn _
        have : b' ≠ b := by rintro rfl; exact hn (by simp)
        simp [Heap.set, this]
      · intro b' hb'
        exact .inl hb'
    · show rdn h b 0 (xs.length * sz) = some xs.flatten
      rw [rdn_cells hb _ _ (by omega), ← hlx]
      simp
    · refine hk _ _ [b'] (Heap.le_set_free hle (hfree b' hb')) ⟨hxy, .inr ⟨b', c', (List.replicate (c' - (xs.length + ys.length)) zero).flatten, el, by simp, by simpa using hcap', by simp [Heap.set], ?_, rfl⟩⟩ ?_ ?_ ?_
      · rw [List.length_append, flat_len, hz, flat_length hxy, List.length_append, ← Nat.add_mul]
        congr 1
        omega
      · intro b'' hb''
        simp only [List.mem_singleton] at hb''
        subst hb''
        exact hfree _ hb'
      · intro b'' _ hn
        have : b'' ≠ b' := by rintro rfl; exact hn hb'
        simp [Heap.set, this]
      · intro b'' hb''
        simp only [List.mem_singleton] at hb''
        subst hb''
        exact .inr hb'
end Go.Proofs
namespace Go.Proofs
open Go.Vc
set_option maxRecDepth 100000
set_option maxHeartbeats 4000000
theorem rdn_of {h : Heap} {b : Nat} : ∀ (vs : List Value) (off : Nat), (∀ i v, vs[i]? = some v → rd h b (off + i) = some v) → rdn h b off vs.length = some vs
  | [], off, _ => rfl
  | v :: vs, off, hx => by
    have e1 := hx 0 v rfl
    have e2 := rdn_of vs (off + 1) (fun i w hw => by have := hx (i + 1) w (by simpa using hw); rw [show off + 1 + i = off + (i + 1) by omega]; exact this)
    simp only [List.length_cons, rdn]
    rw [Nat.add_zero] at e1
    rw [e1, e2]
def int1 (x : Int) : List Value := [.int .i64 x]
theorem flat_int1 : ∀ l : List Int, (l.map int1).flatten = l.map (.int .i64)
  | [] => rfl
  | x :: l => by simp [int1, flat_int1 l]
theorem cellsOk_int : ∀ l : List Int, cellsOk (l.map (.int .i64)) = true
  | [] => rfl
  | x :: l => by simp [cellsOk, isCell, cellsOk_int l]
theorem ldp_ints {h : Heap} {p : Option Addr} {n c : Nat} {l : List Int} {K : List Value → Prop} (hr : Ints h (.slice p n c) l) (hk : K (l.map (.int .i64))) : LdP h p (n * 1) K := by
  obtain ⟨_, p', c', he, _, h3⟩ := hr
  simp only [Value.slice.injEq] at he
  obtain ⟨rfl, rfl, rfl⟩ := he
  rw [LdP_def]; unfold LdP_
  rcases h3 with rfl | ⟨b, off, rfl, hx⟩
  · exact .inl ⟨.inr (by simp), hk⟩
  · refine .inr ⟨b, off, _, rfl, ?_, hk⟩
    have := rdn_of (h := h) (b := b) (l.map (.int .i64)) off (fun i v hv => by
      simp only [List.getElem?_map, Option.map_eq_some_iff] at hv
      obtain ⟨x, hx1, rfl⟩ := hv
      obtain ⟨vs, h4, h5, _⟩ := hx i x hx1
      subst h5
      have := rdn_get h4 (i := 0) rfl
      simpa using this)
    simpa using this
abbrev OwnI (h : Heap) (v : Value) (l : List Int) (B : List Nat) : Prop := OwnC 1 h v (l.map int1) B
theorem OwnC.form {sz : Nat} {h : Heap} {v : Value} {xs : List (List Value)} {B : List Nat} (ho : OwnC sz h v xs B) : ∃ p c, v = .slice p xs.length c ∧ xs.length ≤ c := by
  obtain ⟨_, ⟨rfl, rfl, _⟩ | ⟨b, c, rest, t, rfl, h1, _⟩⟩ := ho
  · exact ⟨none, 0, rfl, Nat.le_refl _⟩
  · exact ⟨_, c, rfl, h1⟩
def fieldsAt (cs : List Cls) (c : Int) : List Int := match cs[c.toNat]? with
  | some x => x.fields
  | none => []
def fldK (cs : List Cls) : Nat → Int → List Int
  | 0, _ => []
  | k + 1, c => if c ≤ 0 then [] else fldK cs k (superOf cs c) ++ fieldsAt cs c
def flds (cs : List Cls) (c : Int) : List Int := fldK cs c.toNat c
theorem fldK_low {cs : List Cls} {c : Int} (h : c ≤ 0) (k : Nat) : fldK cs k c = [] := by
  cases k with
  | zero => rfl
  | succ k => rw [fldK, if_pos h]
theorem flds_root {cs : List Cls} {c : Int} (h : c ≤ 0) : flds cs c = [] := fldK_low h _
theorem fldK_any {cs : List Cls} (ok : CsOk cs) : ∀ (k : Nat) (c : Int), c < cs.length → c.toNat ≤ k → fldK cs k c = flds cs c
  | 0, c, _, h => by rw [flds_root (by omega)]; rfl
  | k + 1, c, hl, h => by
    by_cases h0 : c ≤ 0
    · rw [fldK_low h0, flds_root h0]
    · have hs := ok.super (a := c) (by omega) hl
      unfold flds
      obtain ⟨j, hj⟩ : ∃ j, c.toNat = j + 1 := ⟨c.toNat - 1, by omega⟩
      rw [hj, fldK, fldK, if_neg h0, if_neg h0, fldK_any ok k _ (by omega) (by omega), fldK_any ok j _ (by omega) (by omega)]
theorem flds_step {cs : List Cls} (ok : CsOk cs) {c : Int} (h0 : 0 < c) (hl : c < cs.length) : flds cs c = flds cs (superOf cs c) ++ fieldsAt cs c := by
  have hs := ok.super (a := c) (by omega) hl
  conv => lhs; unfold flds
  obtain ⟨j, hj⟩ : ∃ j, c.toNat = j + 1 := ⟨c.toNat - 1, by omega⟩
  rw [hj, fldK, if_neg (by omega), fldK_any ok j _ (by omega) (by omega)]
theorem flds_len {cs : List Cls} (ok : CsOk cs) : ∀ (k : Nat) (c : Int), c < cs.length → c.toNat ≤ k → (flds cs c).length ≤ 2 * k
  | 0, c, _, h => by rw [flds_root (by omega)]; simp
  | k + 1, c, hl, h => by
    by_cases h0 : c ≤ 0
    · rw [flds_root h0]; simp
    · have hs := ok.super (a := c) (by omega) hl
      have ih := flds_len ok k (superOf cs c) (by omega) (by omega)
      rw [flds_step ok (by omega) hl, List.length_append]
      have hi : c.toNat < cs.length := by omega
      have hf := (ok.2.2 c.toNat hi).2.2.2.2
      have : (fieldsAt cs c).length ≤ 2 := by simp only [fieldsAt, hi, List.getElem?_eq_getElem]; exact hf
      omega
theorem classFields_c : ∀ (k : Nat) (p : Option Addr) (n c : Nat) (cs : List Cls) (x : Int) (h : Heap), ClsS h (.slice p n c) cs → CsOk cs → 0 ≤ x → x < cs.length → x.toNat < k →
    Rets Tryz.prog 206 [.slice p n c, .int .i64 x] h fun v h' => h.le h' ∧ ∃ B, OwnI h' v (flds cs x) B ∧ ∀ b ∈ B, h b = none
  | 0, _, _, _, _, _, _, _, _, _, _, hk => by omega
  | k + 1, p, n, c, cs, x, h, hr, ok, h0, hl, hk => by
    have hn := hr.n
    refine rets Tryz.sigOk Tryz.func206 Tryz.F206 Tryz.ok206 rfl ?_
    conv => whnf
    refine selP (fun h1 => ?_) (fun h1 => ?_)
    all_goals conv => whnf
    · exact ⟨Heap.le_refl h, [], ⟨by rw [flds_root (by omega)]; simp, .inl ⟨rfl, by rw [flds_root (by omega)]; rfl, rfl⟩⟩, by simp⟩
    · have hi : x.toNat < cs.length := by omega
      have e := hr.at hi
      obtain ⟨bb, off, q, m, d, hp, _, e2, e3, _, e5, e6⟩ := e
      have hs := ok.super h0 hl
      have hse : superOf cs x = cs[x.toNat].super := by simp [superOf, hi]
      refine ob (by omega) ?_
      conv => whnf
      refine ptr' hp ?_
      conv => whnf
      refine ob (by omega) ?_
      conv => whnf
      refine ptr' hp ?_
      conv => whnf
      refine ld e3 ?_
      conv => whnf
      refine ld e2 ?_
      conv => whnf
      have ih := classFields_c k p n c cs (superOf cs x) h hr ok (by have := ok.2.1; have hc := ok.2.2 x.toNat hi; rw [hse]; rcases Nat.lt_trichotomy x.toNat 1 with g | g | g
                                                                     · omega
                                                                     · rw [(hc.2.2.1 g).1]; omega
                                                                     · exact (hc.2.2.2.1 g).1) (by omega) (by omega)
      rw [hse] at ih
      refine callX_r ih ?_
      rintro v h' ⟨hle, B, ho, hB⟩
      refine ⟨hle, ?_⟩
      obtain ⟨p', c', rfl, hc'⟩ := ho.form
      conv => whnf
      have hlen := flds_len ok x.toNat (superOf cs x) (by omega) (by omega)
      have hlen2 : cs[x.toNat].fields.length ≤ 2 := (ok.2.2 x.toNat hi).2.2.2.2
      rw [hse] at hlen
      have hl5 := ok.2.1
      refine ldp_ints (e5.le hle) ?_
      conv => whnf
      refine app_own (ys := cs[x.toNat].fields.map int1) ho hB hle (flat_int1 _).symm (by simp [e6]) (by simp [int1]) (cellsOk_int _) rfl (by simp; omega) (by simp; omega) ?_
      intro v' h'' B' g1 g2 g3 g4 g5
      conv => whnf
      refine ⟨g1, B', ?_, g3⟩
      rw [flds_step ok (by omega) hl, hse]
      unfold OwnI
      rw [List.map_append]
      simpa [fieldsAt, hi] using g2
end Go.Proofs
namespace Go.Proofs
open Go.Vc
set_option maxRecDepth 100000
set_option maxHeartbeats 4000000
theorem l2Fields_c : ∀ (k : Nat) (p : Option Addr) (n c : Nat) (cs : List Cls) (x : Int) (h : Heap), ClsS h (.slice p n c) cs → CsOk cs → 0 ≤ x → x < cs.length → x.toNat < k →
    Rets Tryz.prog 135 [.slice p n c, .int .i64 x] h fun v h' => h.le h' ∧ ∃ B, OwnI h' v (flds cs x) B ∧ ∀ b ∈ B, h b = none
  | 0, _, _, _, _, _, _, _, _, _, _, hk => by omega
  | k + 1, p, n, c, cs, x, h, hr, ok, h0, hl, hk => by
    have hn := hr.n
    refine rets Tryz.sigOk Tryz.func135 Tryz.F135 Tryz.ok135 rfl ?_
    conv => whnf
    refine selP (fun h1 => ?_) (fun h1 => ?_)
    all_goals conv => whnf
    · refine new fun b hb => ?_
      conv => whnf
      refine ⟨Heap.le_set _ hb, [b], ⟨by rw [flds_root (by omega)]; simp, .inr ⟨b, 0, [], 3, by rw [flds_root (by omega)]; rfl, by rw [flds_root (by omega)]; simp, by rw [flds_root (by omega)]; simp [Heap.set, reps], by rw [flds_root (by omega)]; simp, rfl⟩⟩, by simpa using hb⟩
    · have hi : x.toNat < cs.length := by omega
      have e := hr.at hi
      obtain ⟨bb, off, q, m, d, hp, _, e2, e3, _, e5, e6⟩ := e
      have hs := ok.super h0 hl
      have hse : superOf cs x = cs[x.toNat].super := by simp [superOf, hi]
      refine ob (by omega) ?_
      conv => whnf
      refine ptr' hp ?_
      conv => whnf
      refine ob (by omega) ?_
      conv => whnf
      refine ptr' hp ?_
      conv => whnf
      refine ld e3 ?_
      conv => whnf
      refine ld e2 ?_
      conv => whnf
      have ih := l2Fields_c k p n c cs (superOf cs x) h hr ok (by have := ok.2.1; have hc := ok.2.2 x.toNat hi; rw [hse]; rcases Nat.lt_trichotomy x.toNat 1 with g | g | g
                                                                  · omega
                                                                  · rw [(hc.2.2.1 g).1]; omega
                                                                  · exact (hc.2.2.2.1 g).1) (by omega) (by omega)
      rw [hse] at ih
      refine callX_r ih ?_
      rintro v h' ⟨hle, B, ho, hB⟩
      refine ⟨hle, ?_⟩
      obtain ⟨p', c', rfl, hc'⟩ := ho.form
      conv => whnf
      have hlen := flds_len ok x.toNat (superOf cs x) (by omega) (by omega)
      have hlen2 : cs[x.toNat].fields.length ≤ 2 := (ok.2.2 x.toNat hi).2.2.2.2
      rw [hse] at hlen
      have hl5 := ok.2.1
      refine ldp_ints (e5.le hle) ?_
      conv => whnf
      refine app_own (ys := cs[x.toNat].fields.map int1) ho hB hle (flat_int1 _).symm (by simp [e6]) (by simp [int1]) (cellsOk_int _) rfl (by simp; omega) (by simp; omega) ?_
      intro v' h'' B' g1 g2 g3 g4 g5
      conv => whnf
      refine ⟨g1, B', ?_, g3⟩
      rw [flds_step ok (by omega) hl, hse]
      unfold OwnI
      rw [List.map_append]
      simpa [fieldsAt, hi] using g2
theorem l2Field_c (p : Option Addr) (n c : Nat) (t : Int) (h : Heap) (hn : n ≤ 140737488351232) : Pure Tryz.prog 204 [.slice p n c, .int .i64 t] h (tf (FieldT n t)) := by
  refine pur Tryz.sigOk Tryz.func204 Tryz.F204 Tryz.ok204 rfl ?_
  conv => whnf
  refine selP (fun h1 => ?_) (fun h1 => ?_)
  all_goals conv => whnf
  · exact ⟨by rw [tf_t]; unfold FieldT; omega, rfl⟩
  refine selP (fun h2 => ?_) (fun h2 => ?_)
  all_goals conv => whnf
  · exact ⟨by rw [tf_t]; unfold FieldT; omega, rfl⟩
  refine selP (fun h3 => ?_) (fun h3 => ?_)
  all_goals conv => whnf
  · exact ⟨by rw [tf_t]; unfold FieldT; omega, rfl⟩
  refine ar_in (by omega) (by omega) ?_
  conv => whnf
  refine ar_in (by omega) (by omega) ?_
  conv => whnf
  refine call_p (l6In_c _ _ _ _) ?_
  conv => whnf
  exact ⟨(tf_d (by unfold FieldT; omega)).symm, rfl⟩
theorem l2Class_c (p : Option Addr) (n c : Nat) (cs : List Cls) (i : Nat) (h : Heap) (hr : ClsS h (.slice p n c) cs) (hi : i < cs.length) :
    Pure Tryz.prog 127 [.slice p n c, .int .i64 i] h (tf (ClassT cs.length i cs[i])) := by
  have hl : n ≤ 140737488351232 := by obtain ⟨_, _, he, _, h2⟩ := hr.len; injection he with _ he _; omega
  obtain rfl := hr.n
  have e := hr.at hi
  obtain ⟨bb, off, q, k, d, hp, e1, e2, e3, e4, e5, e6⟩ := e
  have hk1 := e5.1
  refine pur Tryz.sigOk Tryz.func127 Tryz.F127 Tryz.ok127 rfl ?_
  conv => whnf
  refine ob (by omega) ?_
  conv => whnf
  refine ptr' hp ?_
  conv => whnf
  refine ldn e1 ?_
  conv => whnf
  refine lps [0, 1, 5, 6] [5] (fun m : Nat => m ≤ k ∧ ∀ l (hl : l < cs[i].fields.length), l < m → FieldT cs.length cs[i].fields[l]) (fun m => k - m)
    (fun m => ([.v (.slice p cs.length c), .v (.int .i64 i), .l 5 0, .v (.int .i64 m)], [some [.int .i64 cs[i].super, .slice q k d]], h)) 0 ⟨by omega, fun l hl h => by omega⟩ rfl ?_
  rintro m ⟨hm, hg⟩
  conv => whnf
  refine selP (fun h1 => ?_) (fun h1 => ?_)
  all_goals conv => whnf
  · have hmk : m < cs[i].fields.length := by omega
    have f := e5.get hmk
    obtain ⟨b2, off2, vs, hq, f1, f2, f3⟩ := f
    subst f2
    refine ob (by omega) ?_
    conv => whnf
    refine ptr' hq ?_
    conv => whnf
    refine ld (rdn_get f1 (i := 0) rfl) ?_
    conv => whnf
    refine call_p (l2Field_c _ _ _ _ _ hl) ?_
    conv => whnf
    refine selNP (fun h2 => ?_) (fun h2 => ?_)
    all_goals conv => whnf
    · exact ⟨by rw [tf_f]; intro h3; exact h2 (h3.1 _ (List.getElem_mem _)), rfl⟩
    · refine ar_in (by omega) (by omega) ?_
      conv => whnf
      refine lpn (m + 1) ⟨by omega, fun l hl hlm => ?_⟩ (by omega) rfl
      rcases Nat.lt_succ_iff_lt_or_eq.1 hlm with h10 | rfl
      · exact hg l hl h10
      · exact h2
  · have hF : FieldsT cs.length cs[i].fields := by
      intro t ht
      obtain ⟨l, hl, rfl⟩ := List.mem_iff_getElem.1 ht
      exact hg l hl (by omega)
    refine selP (fun h2 => ?_) (fun h2 => ?_)
    all_goals conv => whnf
    · refine selP (fun h3 => ?_) (fun h3 => ?_)
      all_goals conv => whnf
      · refine ⟨(tf_d ⟨fun h4 => ?_, fun h4 => ?_⟩).symm, rfl⟩
        · have := (h4.2.1 (by omega)).2; simp [e6, this]
        · have hf0 : cs[i].fields = [] := List.eq_nil_of_length_eq_zero (by omega)
          exact ⟨hF, fun _ => ⟨h3, hf0⟩, fun _ => by omega, fun _ => by omega, by simp [hf0]⟩
      · exact ⟨by rw [tf_f]; intro h4; exact h3 (h4.2.1 (by omega)).1, rfl⟩
    refine selP (fun h3 => ?_) (fun h3 => ?_)
    all_goals conv => whnf
    · refine selP (fun h4 => ?_) (fun h4 => ?_)
      all_goals conv => whnf
      · refine selP (fun h5 => ?_) (fun h5 => ?_)
        all_goals conv => whnf
        · have h0k : 0 < cs[i].fields.length := by omega
          have f := e5.get h0k
          obtain ⟨b2, off2, vs, hq, f1, f2, f3⟩ := f
          subst f2
          refine ob (by omega) ?_
          conv => whnf
          refine ptr' hq ?_
          conv => whnf
          refine ld (rdn_get f1 (i := 0) rfl) ?_
          conv => whnf
          refine ⟨(tf_d ⟨fun h6 => ?_, fun h6 => ?_⟩).symm, rfl⟩
          · have := (h6.2.2.1 (by omega)).2; simp [this]
          · have hf1 : cs[i].fields = [1] := one_of (by omega) h6
            exact ⟨hF, fun _ => by omega, fun _ => ⟨h4, hf1⟩, fun _ => by omega, by simp [hf1]⟩
        · exact ⟨by rw [tf_f]; intro h6; refine h5 ?_; have := (h6.2.2.1 (by omega)).2; simp [e6, this], rfl⟩
      · exact ⟨by rw [tf_f]; intro h6; exact h4 (h6.2.2.1 (by omega)).1, rfl⟩
    · refine ar_in (by omega) (by omega) ?_
      conv => whnf
      refine call_p (l6In_c _ _ _ _) ?_
      conv => whnf
      refine selP (fun h4 => ?_) (fun h4 => ?_)
      all_goals conv => whnf
      · refine ⟨(tf_d ⟨fun h5 => ?_, fun h5 => ?_⟩).symm, rfl⟩
        · have := h5.2.2.2.2; omega
        · exact ⟨hF, fun _ => by omega, fun _ => by omega, fun _ => by omega, by omega⟩
      · exact ⟨by rw [tf_f]; intro h5; refine h4 ?_; have := h5.2.2.2.1 (by omega); omega, rfl⟩
theorem sClassesOk_c (p : Option Addr) (n c : Nat) (cs : List Cls) (h : Heap) (hr : ClsS h (.slice p n c) cs) : Pure Tryz.prog 70 [.slice p n c] h (tf (CsOk cs)) := by
  have hl : n ≤ 140737488351232 := by obtain ⟨_, _, he, _, h2⟩ := hr.len; injection he with _ he _; omega
  obtain rfl := hr.n
  refine pur Tryz.sigOk Tryz.func70 Tryz.F70 Tryz.ok70 rfl ?_
  conv => whnf
  refine call_p (l6In_c _ _ _ _) ?_
  conv => whnf
  refine selNP (fun h1 => ?_) (fun h1 => ?_)
  all_goals conv => whnf
  · exact ⟨by rw [tf_f]; rintro ⟨h2, h3, _⟩; omega, rfl⟩
  refine lps [0, 3] [] (fun i : Nat => i ≤ cs.length ∧ ∀ j (hj : j < cs.length), j < i → ClassT cs.length j cs[j]) (fun i => cs.length - i)
    (fun i => ([.v (.slice p cs.length c), .v (.int .i64 i)], [], h)) 0 ⟨by omega, fun j hj h => by omega⟩ rfl ?_
  rintro i ⟨hi, hd⟩
  conv => whnf
  refine selP (fun h2 => ?_) (fun h2 => ?_)
  all_goals conv => whnf
  · have hil : i < cs.length := by omega
    refine call_p (l2Class_c p _ c cs i h hr hil) ?_
    conv => whnf
    refine selNP (fun h3 => ?_) (fun h3 => ?_)
    all_goals conv => whnf
    · exact ⟨by rw [tf_f]; rintro ⟨_, _, h4⟩; exact h3 (h4 i hil), rfl⟩
    · refine ar_in (by omega) (by omega) ?_
      conv => whnf
      refine lpn (i + 1) ⟨by omega, fun j hj hji => ?_⟩ (by omega) rfl
      rcases Nat.lt_succ_iff_lt_or_eq.1 hji with h10 | rfl
      · exact hd j hj h10
      · exact h3
  · exact ⟨by rw [tf_t]; exact ⟨by omega, by omega, fun j hj => hd j hj (by omega)⟩, rfl⟩
end Go.Proofs
namespace Go.Proofs
open Go.Vc
set_option maxRecDepth 100000
set_option maxHeartbeats 4000000
def TypeT (n t : Int) : Prop := (0 ≤ t ∧ t ≤ 4) ∨ (8 ≤ t ∧ t < 8 + n)
theorem kindV_no {n t : Int} (h : ¬ TypeT n t) : kindV n t = .nilIface := by
  unfold TypeT at h
  simp only [kindV]
  (repeat' split) <;> first | rfl | (exfalso; omega)
theorem kindV_yes {n t : Int} (h : TypeT n t) : ∃ T x, kindV n t = .iface T x := by
  unfold TypeT at h
  simp only [kindV]
  (repeat' split) <;> first | exact ⟨_, _, rfl⟩ | (exfalso; omega)
theorem kindOf_t (n t : Int) (h : Heap) (hn : 0 ≤ n ∧ n ≤ 140737488351232) (ht : I64 t) : ∃ v, Pure Tryz.prog 214 [.int .i64 n, .int .i64 t] h v ∧ ((¬ TypeT n t ∧ v = .nilIface) ∨ (TypeT n t ∧ ∃ T x, v = .iface T x)) := by
  refine ⟨_, kindOf_c n t h hn ht, ?_⟩
  by_cases hT : TypeT n t
  · exact .inr ⟨hT, kindV_yes hT⟩
  · exact .inl ⟨hT, kindV_no hT⟩
theorem TypeOk_c (p : Option Addr) (n c : Nat) (cs : List Cls) (t : Int) (h : Heap) (hr : ClsS h (.slice p n c) cs) : Pure Tryz.prog 205 [.slice p n c, .int .i64 t] h (tf (CsOk cs ∧ TypeT cs.length t)) := by
  have hl : n ≤ 140737488351232 := by obtain ⟨_, _, he, _, h2⟩ := hr.len; injection he with _ he _; omega
  obtain rfl := hr.n
  refine pur Tryz.sigOk Tryz.func205 Tryz.F205 Tryz.ok205 rfl ?_
  conv => whnf
  refine call_p (sClassesOk_c p _ c cs h hr) ?_
  conv => whnf
  refine selP (fun h1 => ?_) (fun h1 => ?_)
  all_goals conv => whnf
  · refine selP (fun h2 => ?_) (fun h2 => ?_)
    all_goals conv => whnf
    · exact ⟨by rw [tf_t]; exact ⟨h1, by unfold TypeT; omega⟩, rfl⟩
    refine selP (fun h3 => ?_) (fun h3 => ?_)
    all_goals conv => whnf
    · exact ⟨by rw [tf_t]; exact ⟨h1, by unfold TypeT; omega⟩, rfl⟩
    refine call_p (l2Field_c p _ c t h hl) ?_
    conv => whnf
    refine ⟨?_, rfl⟩
    by_cases hT : FieldT cs.length t
    · show tf _ = _
      rw [tf_t hT, tf_t]
      refine ⟨h1, ?_⟩
      unfold FieldT at hT
      unfold TypeT
      omega
    · show tf _ = _
      rw [tf_f hT, tf_f]
      rintro ⟨_, h4⟩
      unfold FieldT at hT
      unfold TypeT at h4
      omega
  · exact ⟨by rw [tf_f]; exact fun h2 => h1 h2.1, rfl⟩
def ShapeT (n : Nat) (locals : Int) (s : Shp) : Prop :=
  (s.told = false ∧ s.locals = [] ∧ s.stack = []) ∨ (s.told = true ∧ (s.locals.length : Int) = locals ∧ s.stack.length ≤ 4 ∧ (∀ t ∈ s.locals, TypeT n t) ∧ ∀ t ∈ s.stack, t ≠ 0 ∧ TypeT n t)
theorem shapeOk_c (p : Option Addr) (n c : Nat) (locals : Int) (s : Shp) (l k : Value) (h : Heap) (hl : n ≤ 140737488351232) (h1 : Ints h l s.locals) (h2 : Ints h k s.stack) :
    Pure Tryz.prog 182 [.slice p n c, .int .i64 locals, .agg #[.bool s.told, l, k]] h (tf (ShapeT n locals s)) := by
  obtain ⟨told, sl, ss⟩ := s
  simp only at h1 h2
  have b1 := h1.1
  have b2 := h2.1
  have f1 := h1.len
  have f2 := h2.len
  obtain ⟨p1, c1, rfl, _, _⟩ := f1
  obtain ⟨p2, c2, rfl, _, _⟩ := f2
  refine pur Tryz.sigOk Tryz.func182 Tryz.F182 Tryz.ok182 rfl ?_
  conv => whnf
  cases told with
  | false =>
    conv => whnf
    refine selP (fun h3 => ?_) (fun h3 => ?_)
    all_goals conv => whnf
    · refine ⟨(tf_d ⟨fun h4 => ?_, fun h4 => ?_⟩).symm, rfl⟩
      · rcases h4 with ⟨_, _, h5⟩ | ⟨h5, _⟩
        · simp only at h5; simp [h5]
        · cases h5
      · exact .inl ⟨rfl, List.eq_nil_of_length_eq_zero (by simpa using h3), List.eq_nil_of_length_eq_zero (by simpa using h4)⟩
    · refine ⟨?_, rfl⟩
      rw [tf_f]
      rintro (⟨_, h5, _⟩ | ⟨h5, _⟩)
      · simp only at h5; simp [h5] at h3
      · cases h5
  | true =>
    conv => whnf
    refine selNP (fun h3 => ?_) (fun h3 => ?_)
    all_goals conv => whnf
    · refine ⟨?_, rfl⟩
      rw [tf_f]
      rintro (⟨h5, _⟩ | ⟨_, h5, _⟩)
      · cases h5
      · exact h3 h5
    refine selP (fun h4 => ?_) (fun h4 => ?_)
    all_goals conv => whnf
    · refine ⟨?_, rfl⟩
      rw [tf_f]
      rintro (⟨h5, _⟩ | ⟨_, _, h5, _⟩)
      · cases h5
      · simp only at h5; omega
    refine lps [0, 5, 36, 37, 38] [5] (fun m : Nat => m ≤ sl.length ∧ ∀ i (hi : i < sl.length), i < m → TypeT n sl[i]) (fun m => sl.length - m)
      (fun m => ([.v (.slice p n c), .l 5 0, .v (.slice p1 sl.length c1), .v (.int .i64 sl.length), .v (.int .i64 m)], [some [.bool true, .slice p1 sl.length c1, .slice p2 ss.length c2]], h)) 0 ⟨by omega, fun l hl h => by omega⟩ rfl ?_
    rintro m ⟨hm, hg⟩
    conv => whnf
    refine selP (fun h5 => ?_) (fun h5 => ?_)
    all_goals conv => whnf
    · have hml : m < sl.length := by omega
      have g := h1.get hml
      obtain ⟨bb, off, vs, hq, g1, g2, g3⟩ := g
      subst g2
      refine ob (by omega) ?_
      conv => whnf
      refine ptr' hq ?_
      conv => whnf
      refine ld (rdn_get g1 (i := 0) rfl) ?_
      conv => whnf
      have hk := kindOf_t n sl[m] h (by omega) g3
      obtain ⟨v, hk, ⟨hT, rfl⟩ | ⟨hT, T, x, rfl⟩⟩ := hk
      · refine call_p hk ?_
        conv => whnf
        refine raw_eq (r := .bool true) rfl rfl (fun w => rfl) (fun w => rfl) ?_
        conv => whnf
        refine ⟨?_, rfl⟩
        rw [tf_f]
        rintro (⟨h6, _⟩ | ⟨_, _, _, h6, _⟩)
        · cases h6
        · exact hT (h6 _ (List.getElem_mem _))
      · refine call_p hk ?_
        conv => whnf
        refine raw_eq (r := .bool false) rfl rfl (fun w => rfl) (fun w => rfl) ?_
        conv => whnf
        refine ar_in (by omega) (by omega) ?_
        conv => whnf
        refine lpn (m + 1) ⟨by omega, fun i hi him => ?_⟩ (by omega) rfl
        rcases Nat.lt_succ_iff_lt_or_eq.1 him with h10 | rfl
        · exact hg i hi h10
        · exact hT
    · have hA : ∀ t ∈ sl, TypeT n t := by
        intro t ht
        obtain ⟨i, hi, rfl⟩ := List.mem_iff_getElem.1 ht
        exact hg i hi (by omega)
      refine lps [0, 49, 50, 51] [] (fun m : Nat => m ≤ ss.length ∧ ∀ i (hi : i < ss.length), i < m → ss[i] ≠ 0 ∧ TypeT n ss[i]) (fun m => ss.length - m)
        (fun m => ([.v (.slice p n c), .v (.slice p2 ss.length c2), .v (.int .i64 ss.length), .v (.int .i64 m)], [], h)) 0 ⟨by omega, fun l hl h => by omega⟩ rfl ?_
      rintro m ⟨hm, hg2⟩
      conv => whnf
      refine selP (fun h6 => ?_) (fun h6 => ?_)
      all_goals conv => whnf
      · have hml : m < ss.length := by omega
        have g := h2.get hml
        obtain ⟨bb, off, vs, hq, g1, g2, g3⟩ := g
        subst g2
        refine ob (by omega) ?_
        conv => whnf
        refine ptr' hq ?_
        conv => whnf
        refine ld (rdn_get g1 (i := 0) rfl) ?_
        conv => whnf
        refine selP (fun h7 => ?_) (fun h7 => ?_)
        all_goals conv => whnf
        · refine ⟨?_, rfl⟩
          rw [tf_f]
          rintro (⟨h8, _⟩ | ⟨_, _, _, _, h8⟩)
          · cases h8
          · exact (h8 _ (List.getElem_mem _)).1 h7
        have hk := kindOf_t n ss[m] h (by omega) g3
        obtain ⟨v, hk, ⟨hT, rfl⟩ | ⟨hT, T, x, rfl⟩⟩ := hk
        · refine call_p hk ?_
          conv => whnf
          refine raw_eq (r := .bool true) rfl rfl (fun w => rfl) (fun w => rfl) ?_
          conv => whnf
          refine ⟨?_, rfl⟩
          rw [tf_f]
          rintro (⟨h8, _⟩ | ⟨_, _, _, _, h8⟩)
          · cases h8
          · exact hT (h8 _ (List.getElem_mem _)).2
        · refine call_p hk ?_
          conv => whnf
          refine raw_eq (r := .bool false) rfl rfl (fun w => rfl) (fun w => rfl) ?_
          conv => whnf
          refine ar_in (by omega) (by omega) ?_
          conv => whnf
          refine lpn (m + 1) ⟨by omega, fun i hi him => ?_⟩ (by omega) rfl
          rcases Nat.lt_succ_iff_lt_or_eq.1 him with h10 | rfl
          · exact hg2 i hi h10
          · exact ⟨h7, hT⟩
      · refine ⟨?_, rfl⟩
        rw [tf_t]
        refine .inr ⟨rfl, h3, by simp only; omega, hA, fun t ht => ?_⟩
        change t ∈ ss at ht
        obtain ⟨i, hi, rfl⟩ := List.mem_iff_getElem.1 ht
        exact hg2 i hi (by omega)
theorem sShapeOk_c (p : Option Addr) (n c : Nat) (cs : List Cls) (locals : Int) (s : Shp) (l k : Value) (h : Heap) (hr : ClsS h (.slice p n c) cs) (h1 : Ints h l s.locals) (h2 : Ints h k s.stack) :
    Pure Tryz.prog 129 [.slice p n c, .int .i64 locals, .agg #[.bool s.told, l, k]] h (tf (CsOk cs ∧ ShapeT cs.length locals s)) := by
  obtain rfl := hr.n
  obtain ⟨told, sl, ss⟩ := s
  simp only at h1 h2
  have b1 := h1.1
  have b2 := h2.1
  have f1 := h1.len
  have f2 := h2.len
  obtain ⟨p1, c1, rfl, _, _⟩ := f1
  obtain ⟨p2, c2, rfl, _, _⟩ := f2
  refine pur Tryz.sigOk Tryz.func129 Tryz.F129 Tryz.ok129 rfl ?_
  conv => whnf
  refine call_p (sClassesOk_c p _ c cs h hr) ?_
  conv => whnf
  refine selNP (fun hc => ?_) (fun hc => ?_)
  all_goals conv => whnf
  · exact ⟨by rw [tf_f]; exact fun h2 => hc h2.1, rfl⟩
  cases told with
  | false =>
    conv => whnf
    refine selP (fun h3 => ?_) (fun h3 => ?_)
    all_goals conv => whnf
    · refine ⟨(tf_d ⟨fun h4 => ?_, fun h4 => ?_⟩).symm, rfl⟩
      · rcases h4.2 with ⟨_, _, h5⟩ | ⟨h5, _⟩
        · simp only at h5; simp [h5]
        · cases h5
      · exact ⟨hc, .inl ⟨rfl, List.eq_nil_of_length_eq_zero (by simpa using h3), List.eq_nil_of_length_eq_zero (by simpa using h4)⟩⟩
    · refine ⟨?_, rfl⟩
      rw [tf_f]
      rintro ⟨_, ⟨_, h5, _⟩ | ⟨h5, _⟩⟩
      · simp only at h5; simp [h5] at h3
      · cases h5
  | true =>
    conv => whnf
    refine selNP (fun h3 => ?_) (fun h3 => ?_)
    all_goals conv => whnf
    · refine ⟨?_, rfl⟩
      rw [tf_f]
      rintro ⟨_, ⟨h5, _⟩ | ⟨_, h5, _⟩⟩
      · cases h5
      · exact h3 h5
    refine selP (fun h4 => ?_) (fun h4 => ?_)
    all_goals conv => whnf
    · refine ⟨?_, rfl⟩
      rw [tf_f]
      rintro ⟨_, ⟨h5, _⟩ | ⟨_, _, h5, _⟩⟩
      · cases h5
      · simp only at h5; omega
    refine lps [0, 5, 7] [5] (fun m : Nat => m ≤ sl.length ∧ ∀ i (hi : i < sl.length), i < m → TypeT cs.length sl[i]) (fun m => sl.length - m)
      (fun m => ([.v (.slice p cs.length c), .l 5 0, .v (.int .i64 m)], [some [.bool true, .slice p1 sl.length c1, .slice p2 ss.length c2]], h)) 0 ⟨by omega, fun l hl h => by omega⟩ rfl ?_
    rintro m ⟨hm, hg⟩
    conv => whnf
    refine selP (fun h5 => ?_) (fun h5 => ?_)
    all_goals conv => whnf
    · have hml : m < sl.length := by omega
      have g := h1.get hml
      obtain ⟨bb, off, vs, hq, g1, g2, g3⟩ := g
      subst g2
      refine ob (by omega) ?_
      conv => whnf
      refine ptr' hq ?_
      conv => whnf
      refine ld (rdn_get g1 (i := 0) rfl) ?_
      conv => whnf
      refine call_p (TypeOk_c p _ c cs _ h hr) ?_
      conv => whnf
      refine selNP (fun h6 => ?_) (fun h6 => ?_)
      all_goals conv => whnf
      · refine ⟨?_, rfl⟩
        rw [tf_f]
        rintro ⟨_, ⟨h7, _⟩ | ⟨_, _, _, h7, _⟩⟩
        · cases h7
        · exact h6 ⟨hc, h7 _ (List.getElem_mem _)⟩
      · refine ar_in (by omega) (by omega) ?_
        conv => whnf
        refine lpn (m + 1) ⟨by omega, fun i hi him => ?_⟩ (by omega) rfl
        rcases Nat.lt_succ_iff_lt_or_eq.1 him with h10 | rfl
        · exact hg i hi h10
        · exact h6.2
    · have hA : ∀ t ∈ sl, TypeT cs.length t := by
        intro t ht
        obtain ⟨i, hi, rfl⟩ := List.mem_iff_getElem.1 ht
        exact hg i hi (by omega)
      refine lps [0, 5, 8] [5] (fun m : Nat => m ≤ ss.length ∧ ∀ i (hi : i < ss.length), i < m → ss[i] ≠ 0 ∧ TypeT cs.length ss[i]) (fun m => ss.length - m)
        (fun m => ([.v (.slice p cs.length c), .l 5 0, .v (.int .i64 m)], [some [.bool true, .slice p1 sl.length c1, .slice p2 ss.length c2]], h)) 0 ⟨by omega, fun l hl h => by omega⟩ rfl ?_
      rintro m ⟨hm, hg2⟩
      conv => whnf
      refine selP (fun h6 => ?_) (fun h6 => ?_)
      all_goals conv => whnf
      · have hml : m < ss.length := by omega
        have g := h2.get hml
        obtain ⟨bb, off, vs, hq, g1, g2, g3⟩ := g
        subst g2
        refine ob (by omega) ?_
        conv => whnf
        refine ptr' hq ?_
        conv => whnf
        refine ld (rdn_get g1 (i := 0) rfl) ?_
        conv => whnf
        refine call_p (TypeOk_c p _ c cs _ h hr) ?_
        conv => whnf
        refine selNP (fun h7 => ?_) (fun h7 => ?_)
        all_goals conv => whnf
        · refine ⟨?_, rfl⟩
          rw [tf_f]
          rintro ⟨_, ⟨h8, _⟩ | ⟨_, _, _, _, h8⟩⟩
          · cases h8
          · exact h7 ⟨hc, (h8 _ (List.getElem_mem _)).2⟩
        refine ob (by omega) ?_
        conv => whnf
        refine ptr' hq ?_
        conv => whnf
        refine ld (rdn_get g1 (i := 0) rfl) ?_
        conv => whnf
        refine selP (fun h8 => ?_) (fun h8 => ?_)
        all_goals conv => whnf
        · refine ⟨?_, rfl⟩
          rw [tf_f]
          rintro ⟨_, ⟨h9, _⟩ | ⟨_, _, _, _, h9⟩⟩
          · cases h9
          · exact (h9 _ (List.getElem_mem _)).1 h8
        · refine ar_in (by omega) (by omega) ?_
          conv => whnf
          refine lpn (m + 1) ⟨by omega, fun i hi him => ?_⟩ (by omega) rfl
          rcases Nat.lt_succ_iff_lt_or_eq.1 him with h10 | rfl
          · exact hg2 i hi h10
          · exact ⟨h8, h7.2⟩
      · refine ⟨?_, rfl⟩
        rw [tf_t]
        refine ⟨hc, .inr ⟨rfl, h3, by simp only; omega, hA, fun t ht => ?_⟩⟩
        change t ∈ ss at ht
        obtain ⟨i, hi, rfl⟩ := List.mem_iff_getElem.1 ht
        exact hg2 i hi (by omega)
end Go.Proofs
namespace Go.Proofs
open Go.Vc
set_option maxRecDepth 100000
set_option maxHeartbeats 4000000
def givenL (m : Mth) : List Int := (if 0 ≤ m.cls then [8 + m.cls] else []) ++ m.args
theorem given_c (vs : List Value) (m : Mth) (h : Heap) (hm : MthR h vs m) (hb : 8 + m.cls ≤ 9223372036854775807) (hl : m.args.length ≤ 1000000) :
    Rets Tryz.prog 180 [.agg ⟨vs⟩] h fun v h' => h.le h' ∧ ∃ B, OwnI h' v (givenL m) B ∧ ∀ b ∈ B, h b = none := by
  obtain ⟨a, c, s, k, rfl, h1, _, _, _, h2, _⟩ := hm
  have f := h2.len
  obtain ⟨p1, c1, rfl, _, _⟩ := f
  refine rets Tryz.sigOk Tryz.func180 Tryz.F180 Tryz.ok180 rfl ?_
  conv => whnf
  refine selP (fun h3 => ?_) (fun h3 => ?_)
  all_goals conv => whnf
  · refine ar_in (by omega) (by omega) ?_
    conv => whnf
    refine app_own (h0 := h) (xs := []) (ys := [int1 (8 + m.cls)]) (B := []) ⟨by simp, .inl ⟨rfl, rfl, rfl⟩⟩ (by simp) (Heap.le_refl h) rfl rfl (by simp [int1]) rfl rfl (by simp) (by simp) ?_
    intro v' h' B' g1 g2 g3 g4 g5
    have ff := g2.form
    obtain ⟨p', c', rfl, hc'⟩ := ff
    conv => whnf
    refine ldp_ints (h2.le g1) ?_
    conv => whnf
    refine app_own (ys := m.args.map int1) g2 g3 g1 (flat_int1 _).symm (by simp) (by simp [int1]) (cellsOk_int _) rfl (by simp; omega) (by simp; omega) ?_
    intro v'' h'' B'' k1 k2 k3 k4 k5
    conv => whnf
    refine ⟨k1, B'', ?_, k3⟩
    unfold OwnI givenL
    rw [if_pos h3]
    simpa using k2
  · refine ldp_ints h2 ?_
    conv => whnf
    refine app_own (h0 := h) (xs := []) (ys := m.args.map int1) (B := []) ⟨by simp, .inl ⟨rfl, rfl, rfl⟩⟩ (by simp) (Heap.le_refl h) (flat_int1 _).symm (by simp) (by simp [int1]) (cellsOk_int _) rfl (by simp; omega) (by simp; omega) ?_
    intro v'' h'' B'' k1 k2 k3 k4 k5
    conv => whnf
    refine ⟨k1, B'', ?_, k3⟩
    unfold OwnI givenL
    rw [if_neg h3]
    simpa using k2
def HeadT (n : Nat) (m : Mth) : Prop :=
  ((m.cls = -1 ∧ m.sel = 0) ∨ (0 < m.cls ∧ m.cls < n ∧ 0 ≤ m.sel ∧ m.sel < 3)) ∧ m.args.length ≤ 2 ∧ FieldT n m.out ∧ FieldsT n m.args ∧ m.locals ≤ 3 ∧ (givenL m).length ≤ m.locals
theorem headOk_c (us vs : List Value) (u : Unt) (m : Mth) (h : Heap) (hu : UntR h us u) (hm : MthR h vs m) : Pure Tryz.prog 104 [.agg ⟨us⟩, .agg ⟨vs⟩] h (tf (HeadT u.classes.length m)) := by
  have hm0 := hm
  obtain ⟨a, c, s, k, rfl, h1, h2, h3, h4, h5, h6, h7, h8⟩ := hm
  obtain ⟨cv, mv, rfl, hcs, hms⟩ := hu
  have hl := hcs.1
  have f := hcs.len
  obtain ⟨p, cc, rfl, _, _⟩ := f
  have f := h5.len
  obtain ⟨p1, c1, rfl, _, _⟩ := f
  have f := hms.len
  obtain ⟨p2, c2, rfl, _, _⟩ := f
  have f := h6.len
  obtain ⟨p3, c3, rfl, _, _⟩ := f
  have f := h7.len
  obtain ⟨p4, c4, rfl, _, _⟩ := f
  have f := h8.len
  obtain ⟨p5, c5, rfl, _, _⟩ := f
  have no : ¬ HeadT u.classes.length m → .bool false = tf (HeadT u.classes.length m) := fun hx => (tf_f hx).symm
  refine purL Tryz.sigOk Tryz.func104 Tryz.F104 Tryz.ok104 rfl ?_
  conv => whnf
  repeat' ((first
    | refine selP (fun _ => ?_) (fun _ => ?_)
    | refine selNP (fun _ => ?_) (fun _ => ?_)
    | refine call_p (isClass_c _ _ _ _ _) ?_) <;> conv => whnf)
  all_goals first
    | (exfalso; omega)
    | exact ⟨no (by intro hx; have hx1 := hx.1; have hx2 := hx.2.1; omega), Heap.le_refl h⟩
    | skip
  all_goals
    refine call_p (fieldType_c _ _ _ (by omega) h3) ?_
    conv => whnf
    refine selNP (fun g1 => ?_) (fun g1 => ?_)
    all_goals conv => whnf
    · exact ⟨no (fun hx => g1 hx.2.2.1), Heap.le_refl h⟩
    refine lps [2, 3, 48, 49, 50] [2, 3] (fun i : Nat => i ≤ m.args.length ∧ ∀ j (hj : j < m.args.length), j < i → FieldT u.classes.length m.args[j]) (fun i => m.args.length - i)
      (fun i => ([.l 2 0, .l 3 0, .v (.slice p1 m.args.length c1), .v (.int .i64 m.args.length), .v (.int .i64 i)],
        [some [.slice p u.classes.length cc, .slice p2 u.methods.length c2], some [.int .i64 m.cls, .int .i64 m.sel, .slice p1 m.args.length c1, .int .i64 m.out, .int .i64 m.locals, .slice p3 m.code.length c3, .slice p4 m.shapes.length c4, .slice p5 m.catches.length c5]], h)) 0 ⟨by omega, fun l hl h => by omega⟩ rfl ?_
    rintro i ⟨hi, hg⟩
    conv => whnf
    refine selP (fun g2 => ?_) (fun g2 => ?_)
    all_goals conv => whnf
    · have hml : i < m.args.length := by omega
      have g := h5.get hml
      obtain ⟨bb, off, vs, hq, e1, e2, e3⟩ := g
      subst e2
      refine ob (by omega) ?_
      conv => whnf
      refine ptr' hq ?_
      conv => whnf
      refine ld (rdn_get e1 (i := 0) rfl) ?_
      conv => whnf
      refine call_p (fieldType_c _ _ _ (by omega) e3) ?_
      conv => whnf
      refine selNP (fun g3 => ?_) (fun g3 => ?_)
      all_goals conv => whnf
      · exact ⟨no (fun hx => g3 (hx.2.2.2.1 _ (List.getElem_mem _))), Heap.le_refl h⟩
      · refine ar_in (by omega) (by omega) ?_
        conv => whnf
        refine lpn (i + 1) ⟨by omega, fun j hj hji => ?_⟩ (by omega) rfl
        rcases Nat.lt_succ_iff_lt_or_eq.1 hji with h10 | rfl
        · exact hg j hj h10
        · exact g3
    · have hA : FieldsT u.classes.length m.args := by
        intro t ht
        obtain ⟨j, hj, rfl⟩ := List.mem_iff_getElem.1 ht
        exact hg j hj (by omega)
      refine selP (fun g3 => ?_) (fun g3 => ?_)
      all_goals conv => whnf
      · refine callX_r (given_c _ m h hm0 (by omega) (by omega)) ?_
        rintro v h' ⟨hle, B, ho, hB⟩
        refine ⟨hle, ?_⟩
        have ff := ho.form
        obtain ⟨p', c', rfl, hc'⟩ := ff
        conv => whnf
        refine ⟨(tf_d ⟨fun hx => ?_, fun hx => ?_⟩).symm, hle⟩
        · have := hx.2.2.2.2.2; simpa using this
        · exact ⟨by omega, by omega, g1, hA, by omega, by simpa using hx⟩
      · exact ⟨no (fun hx => g3 hx.2.2.2.2.1), Heap.le_refl h⟩
end Go.Proofs
namespace Go.Proofs
open Go.Vc
set_option maxRecDepth 100000
set_option maxHeartbeats 4000000
theorem l3Head_c (us vs : List Value) (u : Unt) (m : Mth) (h : Heap) (hu : UntR h us u) (hm : MthR h vs m) : Pure Tryz.prog 128 [.agg ⟨us⟩, .agg ⟨vs⟩] h (tf (HeadT u.classes.length m)) := by
  obtain ⟨a, c, s, k, rfl, h1, h2, h3, h4, h5, h6, h7, h8⟩ := hm
  obtain ⟨cv, mv, rfl, hcs, hms⟩ := hu
  have hl := hcs.1
  have hb5 := h5.1
  have f := hcs.len
  obtain ⟨p, cc, rfl, _, _⟩ := f
  have f := h5.len
  obtain ⟨p1, c1, rfl, _, _⟩ := f
  have f := hms.len
  obtain ⟨p2, c2, rfl, _, _⟩ := f
  have f := h6.len
  obtain ⟨p3, c3, rfl, _, _⟩ := f
  have f := h7.len
  obtain ⟨p4, c4, rfl, _, _⟩ := f
  have f := h8.len
  obtain ⟨p5, c5, rfl, _, _⟩ := f
  have no : ¬ HeadT u.classes.length m → .bool false = tf (HeadT u.classes.length m) := fun hx => (tf_f hx).symm
  have hG : ((givenL m).length : Int) = (if 0 ≤ m.cls then 1 else 0) + m.args.length := by
    unfold givenL
    split <;> simp
    omega
  refine pur Tryz.sigOk Tryz.func128 Tryz.F128 Tryz.ok128 rfl ?_
  conv => whnf
  refine selP (fun d0 => ?_) (fun d0 => ?_)
  all_goals conv => whnf
  all_goals
    simp only [d0, if_true, if_false] at hG
    refine selP (fun d1 => ?_) (fun d1 => ?_)
    all_goals conv => whnf
    · exact ⟨no (by intro hx; have := hx.1; omega), rfl⟩
    refine ar_in (by omega) (by omega) ?_
    conv => whnf
    refine call_p (l6In_c _ _ _ _) ?_
    conv => whnf
    refine selNP (fun d2 => ?_) (fun d2 => ?_)
    all_goals conv => whnf
    · exact ⟨no (by intro hx; have := hx.1; omega), rfl⟩
    refine selP (fun d3 => ?_) (fun d3 => ?_)
    all_goals conv => whnf
    · exact ⟨no (by intro hx; have := hx.2.1; omega), rfl⟩
    refine call_p (l2Field_c _ _ _ _ _ hl) ?_
    conv => whnf
    refine selNP (fun d4 => ?_) (fun d4 => ?_)
    all_goals conv => whnf
    · exact ⟨no (fun hx => d4 hx.2.2.1), rfl⟩
    refine ar_in (by omega) (by omega) ?_
    conv => whnf
    refine call_p (l6In_c _ _ _ _) ?_
    conv => whnf
    refine selNP (fun d5 => ?_) (fun d5 => ?_)
    all_goals conv => whnf
    · exact ⟨no (by intro hx; have := hx.2.2.2.2; omega), rfl⟩
    refine lps [2, 3, 6] [2, 3] (fun i : Nat => i ≤ m.args.length ∧ ∀ j (hj : j < m.args.length), j < i → FieldT u.classes.length m.args[j]) (fun i => m.args.length - i)
      (fun i => ([.l 2 0, .l 3 0, .v (.int .i64 i)],
        [some [.slice p u.classes.length cc, .slice p2 u.methods.length c2], some [.int .i64 m.cls, .int .i64 m.sel, .slice p1 m.args.length c1, .int .i64 m.out, .int .i64 m.locals, .slice p3 m.code.length c3, .slice p4 m.shapes.length c4, .slice p5 m.catches.length c5]], h)) 0 ⟨by omega, fun l hl h => by omega⟩ rfl ?_
    rintro i ⟨hi, hg⟩
    conv => whnf
    refine selP (fun g2 => ?_) (fun g2 => ?_)
    all_goals conv => whnf
    · have hml : i < m.args.length := by omega
      have g := h5.get hml
      obtain ⟨bb, off, vs, hq, e1, e2, e3⟩ := g
      subst e2
      refine ob (by omega) ?_
      conv => whnf
      refine ptr' hq ?_
      conv => whnf
      refine ld (rdn_get e1 (i := 0) rfl) ?_
      conv => whnf
      refine callX_p (l2Field_c _ _ _ _ _ hl) ?_
      conv => whnf
      refine selNP (fun g3 => ?_) (fun g3 => ?_)
      all_goals conv => whnf
      · exact ⟨no (fun hx => g3 (hx.2.2.2.1 _ (List.getElem_mem _))), rfl⟩
      · refine ar_in (by omega) (by omega) ?_
        conv => whnf
        refine lpn (i + 1) ⟨by omega, fun j hj hji => ?_⟩ (by omega) rfl
        rcases Nat.lt_succ_iff_lt_or_eq.1 hji with h10 | rfl
        · exact hg j hj h10
        · exact g3
    · have hA : FieldsT u.classes.length m.args := by
        intro t ht
        obtain ⟨j, hj, rfl⟩ := List.mem_iff_getElem.1 ht
        exact hg j hj (by omega)
      refine selP (fun g3 => ?_) (fun g3 => ?_)
      all_goals conv => whnf
      · first
          | (exfalso; omega)
          | (refine call_p (l6In_c _ _ _ _) ?_
             conv => whnf
             refine selP (fun g4 => ?_) (fun g4 => ?_)
             all_goals conv => whnf
             · exact ⟨(tf_t ⟨by omega, by omega, d4, hA, by omega, by omega⟩).symm, rfl⟩
             · refine selP (fun g5 => ?_) (fun g5 => ?_)
               all_goals conv => whnf
               · exfalso; omega
               · exact ⟨no (by intro hx; have := hx.1; omega), rfl⟩)
      · first
          | (exfalso; omega)
          | (refine selP (fun g5 => ?_) (fun g5 => ?_)
             all_goals conv => whnf
             · refine ⟨(tf_d ⟨fun hx => ?_, fun hx => ?_⟩).symm, rfl⟩
               · have := hx.1; omega
               · exact ⟨by omega, by omega, d4, hA, by omega, by omega⟩
             · exfalso; omega)
end Go.Proofs
namespace Go.Proofs
open Go.Vc
set_option maxRecDepth 100000
set_option maxHeartbeats 4000000
def wantV (a b : Int) : Value := .agg #[.int .i64 a, .int .i64 b]
def wantL : List (Int × Value) := [(1, wantV 1 0), (2, wantV 0 0), (3, wantV 2 0), (4, wantV 2 0), (5, wantV 0 0), (6, wantV 0 0), (7, wantV 3 0), (8, wantV 4 0), (9, wantV 4 0), (10, wantV 4 0), (11, wantV 4 0), (12, wantV 5 0), (13, wantV 6 0), (14, wantV 0 0), (15, wantV 6 0), (16, wantV 6 0), (17, wantV 5 8), (18, wantV 5 8), (19, wantV 5 0), (20, wantV 7 0), (21, wantV 5 9), (22, wantV 0 0), (23, wantV 0 0), (24, wantV 0 0)]
theorem wants_c (h : Heap) : Rets Tryz.prog 103 [] h fun v h' => ∃ b, v = .map (some b) ∧ h b = none ∧ h' = h.set b (mapO wantL) := by
  refine rets Tryz.sigOk Tryz.func103 Tryz.F103 Tryz.ok103 rfl ?_
  conv => whnf
  refine raw_mm (fun b hb => ?_)
  conv => whnf
  repeat' (refine raw_ins rfl rfl rfl (fun w => rfl) (fun w => rfl) rfl ?_; conv => whnf)
  exact ⟨b, rfl, hb, rfl⟩
def noMth : Mth := ⟨0, 0, [], 0, 0, [], [], []⟩
def mth (u : Unt) (n : Int) : Mth := u.methods.getD n.toNat noMth
theorem mth_eq {u : Unt} {n : Int} {i : Nat} (hi : i < u.methods.length) (hn : n = i) : mth u n = u.methods[i] := by
  subst hn; simp [mth, hi]
theorem UntR.form {h : Heap} {us : List Value} {u : Unt} (hu : UntR h us u) : ∃ p c q d, us = [.slice p u.classes.length c, .slice q u.methods.length d] ∧ ClsS h (.slice p u.classes.length c) u.classes ∧ Row 8 MthR h (.slice q u.methods.length d) u.methods ∧
    u.classes.length ≤ 140737488351232 ∧ u.methods.length ≤ 140737488351232 := by
  obtain ⟨cv, mv, rfl, hcs, hms⟩ := hu
  obtain ⟨p, cc, rfl, _, h1⟩ := hcs.len
  obtain ⟨p2, c2, rfl, _, h2⟩ := hms.len
  exact ⟨p, cc, p2, c2, rfl, hcs, hms, h1, h2⟩
theorem MthR.form {h : Heap} {vs : List Value} {m : Mth} (hm : MthR h vs m) : ∃ p1 c1 p2 c2 p3 c3 p4 c4, vs = [.int .i64 m.cls, .int .i64 m.sel, .slice p1 m.args.length c1, .int .i64 m.out, .int .i64 m.locals, .slice p2 m.code.length c2, .slice p3 m.shapes.length c3, .slice p4 m.catches.length c4] ∧
    I64 m.cls ∧ I64 m.sel ∧ I64 m.out ∧ I64 m.locals ∧ Ints h (.slice p1 m.args.length c1) m.args ∧ Row 3 InsR h (.slice p2 m.code.length c2) m.code ∧ Row 3 ShpR h (.slice p3 m.shapes.length c3) m.shapes ∧ Row 4 CtcR h (.slice p4 m.catches.length c4) m.catches ∧
    m.args.length ≤ 140737488351232 ∧ m.code.length ≤ 140737488351232 ∧ m.shapes.length ≤ 140737488351232 ∧ m.catches.length ≤ 140737488351232 := by
  obtain ⟨a, c, s, k, rfl, h1, h2, h3, h4, h5, h6, h7, h8⟩ := hm
  obtain ⟨p1, c1, rfl, _, b1⟩ := h5.len
  obtain ⟨p2, c2, rfl, _, b2⟩ := h6.len
  obtain ⟨p3, c3, rfl, _, b3⟩ := h7.len
  obtain ⟨p4, c4, rfl, _, b4⟩ := h8.len
  exact ⟨p1, c1, p2, c2, p3, c3, p4, c4, rfl, h1, h2, h3, h4, h5, h6, h7, h8, b1, b2, b3, b4⟩
def OperT (u : Unt) (m : Mth) (a : Int) (what n : Int) : Prop :=
  if what = 1 then isWord n = true
  else if what = 2 then 0 ≤ n ∧ n < m.locals
  else if what = 3 then 1 ≤ n ∧ n ≤ 4
  else if what = 4 then 0 ≤ n ∧ n < m.code.length
  else if what = 5 then 0 ≤ n ∧ n < u.classes.length
  else if what = 6 then n = 0 ∨ n = 1
  else if what = 7 then (0 ≤ n ∧ n < u.methods.length) ∧ (mth u n).cls = -1
  else if what = 8 then 0 ≤ n ∧ n < (flds u.classes a).length
  else if what = 9 then 0 ≤ n ∧ n < 3
  else n = 0
theorem operandOk_c (us ms : List Value) (u : Unt) (m : Mth) (k a b what n : Int) (h : Heap) (hu : UntR h us u) (hm : MthR h ms m) (ok : CsOk u.classes) (ha : what = 8 → 0 ≤ a ∧ a < u.classes.length) :
    Pure Tryz.prog 181 [.agg ⟨us⟩, .agg ⟨ms⟩, .agg #[.int .i64 k, .int .i64 a, .int .i64 b], .int .i64 what, .int .i64 n] h (tf (OperT u m a what n)) := by
  obtain ⟨p, cc, q, d, rfl, hcs, hms, hl1, hl2⟩ := hu.form
  obtain ⟨p1, c1, p2, c2, p3, c3, p4, c4, rfl, h1, h2, h3, h4, h5, h6, h7, h8, b1, b2, b3, b4⟩ := hm.form
  refine purL Tryz.sigOk Tryz.func181 Tryz.F181 Tryz.ok181 rfl ?_
  conv => whnf
  refine selP (fun w1 => ?_) (fun w1 => ?_)
  all_goals conv => whnf
  · refine call_p (isWord_c _ _) ?_
    conv => whnf
    exact ⟨by simp [OperT, w1, tf], Heap.le_refl h⟩
  refine selP (fun w2 => ?_) (fun w2 => ?_)
  all_goals conv => whnf
  · repeat' ((first | refine selPt (by omega) ?_ | refine selPf (by omega) ?_ | refine selNPt (by omega) ?_ | refine selNPf (by omega) ?_ | refine selP (fun _ => ?_) (fun _ => ?_) | refine selNP (fun _ => ?_) (fun _ => ?_) | refine selB (fun _ => ?_) (fun _ => ?_) | refine selNB (fun _ => ?_) (fun _ => ?_) | refine ob (by omega) ?_ | refine ar_in (by omega) (by omega) ?_ | refine ptr ?_) <;> conv => whnf)
    all_goals first | (exfalso; omega) | exact ⟨leafD (by (try simp only [OperT, w2, if_true, if_false]) <;> first | omega | (simp; omega) | simp), Heap.le_refl h⟩ | exact ⟨leafT (by (try simp only [OperT, w2, if_true, if_false]) <;> first | omega | (simp; omega) | simp), Heap.le_refl h⟩ | exact ⟨leafF (by (try simp only [OperT, w2, if_true, if_false]) <;> first | omega | (simp; omega) | simp), Heap.le_refl h⟩
  refine selP (fun w3 => ?_) (fun w3 => ?_)
  all_goals conv => whnf
  · repeat' ((first | refine selPt (by omega) ?_ | refine selPf (by omega) ?_ | refine selNPt (by omega) ?_ | refine selNPf (by omega) ?_ | refine selP (fun _ => ?_) (fun _ => ?_) | refine selNP (fun _ => ?_) (fun _ => ?_) | refine selB (fun _ => ?_) (fun _ => ?_) | refine selNB (fun _ => ?_) (fun _ => ?_) | refine ob (by omega) ?_ | refine ar_in (by omega) (by omega) ?_ | refine ptr ?_) <;> conv => whnf)
    all_goals first | (exfalso; omega) | exact ⟨leafD (by (try simp only [OperT, w3, if_true, if_false]) <;> first | omega | (simp; omega) | simp), Heap.le_refl h⟩ | exact ⟨leafT (by (try simp only [OperT, w3, if_true, if_false]) <;> first | omega | (simp; omega) | simp), Heap.le_refl h⟩ | exact ⟨leafF (by (try simp only [OperT, w3, if_true, if_false]) <;> first | omega | (simp; omega) | simp), Heap.le_refl h⟩
  refine selP (fun w4 => ?_) (fun w4 => ?_)
  all_goals conv => whnf
  · repeat' ((first | refine selPt (by omega) ?_ | refine selPf (by omega) ?_ | refine selNPt (by omega) ?_ | refine selNPf (by omega) ?_ | refine selP (fun _ => ?_) (fun _ => ?_) | refine selNP (fun _ => ?_) (fun _ => ?_) | refine selB (fun _ => ?_) (fun _ => ?_) | refine selNB (fun _ => ?_) (fun _ => ?_) | refine ob (by omega) ?_ | refine ar_in (by omega) (by omega) ?_ | refine ptr ?_) <;> conv => whnf)
    all_goals first | (exfalso; omega) | exact ⟨leafD (by (try simp only [OperT, w4, if_true, if_false]) <;> first | omega | (simp; omega) | simp), Heap.le_refl h⟩ | exact ⟨leafT (by (try simp only [OperT, w4, if_true, if_false]) <;> first | omega | (simp; omega) | simp), Heap.le_refl h⟩ | exact ⟨leafF (by (try simp only [OperT, w4, if_true, if_false]) <;> first | omega | (simp; omega) | simp), Heap.le_refl h⟩
  refine selP (fun w5 => ?_) (fun w5 => ?_)
  all_goals conv => whnf
  · refine call_p (isClass_c _ _ _ _ _) ?_
    conv => whnf
    exact ⟨by simp [OperT, w5], Heap.le_refl h⟩
  refine selP (fun w6 => ?_) (fun w6 => ?_)
  all_goals conv => whnf
  · repeat' ((first | refine selPt (by omega) ?_ | refine selPf (by omega) ?_ | refine selNPt (by omega) ?_ | refine selNPf (by omega) ?_ | refine selP (fun _ => ?_) (fun _ => ?_) | refine selNP (fun _ => ?_) (fun _ => ?_) | refine selB (fun _ => ?_) (fun _ => ?_) | refine selNB (fun _ => ?_) (fun _ => ?_) | refine ob (by omega) ?_ | refine ar_in (by omega) (by omega) ?_ | refine ptr ?_) <;> conv => whnf)
    all_goals first | (exfalso; omega) | exact ⟨leafD (by (try simp only [OperT, w6, if_true, if_false]) <;> first | omega | (simp; omega) | simp), Heap.le_refl h⟩ | exact ⟨leafT (by (try simp only [OperT, w6, if_true, if_false]) <;> first | omega | (simp; omega) | simp), Heap.le_refl h⟩ | exact ⟨leafF (by (try simp only [OperT, w6, if_true, if_false]) <;> first | omega | (simp; omega) | simp), Heap.le_refl h⟩
  refine selP (fun w7 => ?_) (fun w7 => ?_)
  all_goals conv => whnf
  · refine selP (fun g1 => ?_) (fun g1 => ?_)
    all_goals conv => whnf
    · refine selP (fun g2 => ?_) (fun g2 => ?_)
      all_goals conv => whnf
      · have hi : n.toNat < u.methods.length := by omega
        have e := hms.get hi
        obtain ⟨bb, off, vs, hq, e1, e2⟩ := e
        obtain ⟨_, _, _, _, e3, _⟩ := e2
        subst e3
        refine ob (by omega) ?_
        conv => whnf
        refine ptr' hq ?_
        conv => whnf
        refine ld (rdn_get e1 (i := 0) rfl) ?_
        conv => whnf
        have hme : mth u n = u.methods[n.toNat] := mth_eq hi (by omega)
        first | (exfalso; omega) | exact ⟨leafD (by (try simp only [OperT, w7, if_true, if_false, hme]) <;> first | omega | (simp; omega) | simp), Heap.le_refl h⟩ | exact ⟨leafT (by (try simp only [OperT, w7, if_true, if_false, hme]) <;> first | omega | (simp; omega) | simp), Heap.le_refl h⟩ | exact ⟨leafF (by (try simp only [OperT, w7, if_true, if_false, hme]) <;> first | omega | (simp; omega) | simp), Heap.le_refl h⟩
      · first | (exfalso; omega) | exact ⟨leafD (by (try simp only [OperT, w7, if_true, if_false]) <;> first | omega | (simp; omega) | simp), Heap.le_refl h⟩ | exact ⟨leafT (by (try simp only [OperT, w7, if_true, if_false]) <;> first | omega | (simp; omega) | simp), Heap.le_refl h⟩ | exact ⟨leafF (by (try simp only [OperT, w7, if_true, if_false]) <;> first | omega | (simp; omega) | simp), Heap.le_refl h⟩
    · first | (exfalso; omega) | exact ⟨leafD (by (try simp only [OperT, w7, if_true, if_false]) <;> first | omega | (simp; omega) | simp), Heap.le_refl h⟩ | exact ⟨leafT (by (try simp only [OperT, w7, if_true, if_false]) <;> first | omega | (simp; omega) | simp), Heap.le_refl h⟩ | exact ⟨leafF (by (try simp only [OperT, w7, if_true, if_false]) <;> first | omega | (simp; omega) | simp), Heap.le_refl h⟩
  refine selP (fun w8 => ?_) (fun w8 => ?_)
  all_goals conv => whnf
  · refine selP (fun g1 => ?_) (fun g1 => ?_)
    all_goals conv => whnf
    · refine call_r (classFields_c _ _ _ _ _ _ _ hcs ok (ha w8).1 (ha w8).2 (Nat.lt_succ_self _)) ?_
      rintro v h' ⟨hle, B, ho, _⟩
      have ff := ho.form
      obtain ⟨p', c', rfl, hc'⟩ := ff
      conv => whnf
      exact ⟨leafD (by simp only [OperT, w8, if_true, if_false]; simp; omega), hle⟩
    · first | (exfalso; omega) | exact ⟨leafD (by (try simp only [OperT, w8, if_true, if_false]) <;> first | omega | (simp; omega) | simp), Heap.le_refl h⟩ | exact ⟨leafT (by (try simp only [OperT, w8, if_true, if_false]) <;> first | omega | (simp; omega) | simp), Heap.le_refl h⟩ | exact ⟨leafF (by (try simp only [OperT, w8, if_true, if_false]) <;> first | omega | (simp; omega) | simp), Heap.le_refl h⟩
  refine selP (fun w9 => ?_) (fun w9 => ?_)
  all_goals conv => whnf
  · repeat' ((first | refine selPt (by omega) ?_ | refine selPf (by omega) ?_ | refine selNPt (by omega) ?_ | refine selNPf (by omega) ?_ | refine selP (fun _ => ?_) (fun _ => ?_) | refine selNP (fun _ => ?_) (fun _ => ?_) | refine selB (fun _ => ?_) (fun _ => ?_) | refine selNB (fun _ => ?_) (fun _ => ?_) | refine ob (by omega) ?_ | refine ar_in (by omega) (by omega) ?_ | refine ptr ?_) <;> conv => whnf)
    all_goals first | (exfalso; omega) | exact ⟨leafD (by (try simp only [OperT, w9, if_true, if_false]) <;> first | omega | (simp; omega) | simp), Heap.le_refl h⟩ | exact ⟨leafT (by (try simp only [OperT, w9, if_true, if_false]) <;> first | omega | (simp; omega) | simp), Heap.le_refl h⟩ | exact ⟨leafF (by (try simp only [OperT, w9, if_true, if_false]) <;> first | omega | (simp; omega) | simp), Heap.le_refl h⟩
  first | (exfalso; omega) | exact ⟨leafD (by (try simp only [OperT, w1, w2, w3, w4, w5, w6, w7, w8, w9, if_true, if_false]) <;> first | omega | (simp; omega) | simp), Heap.le_refl h⟩ | exact ⟨leafT (by (try simp only [OperT, w1, w2, w3, w4, w5, w6, w7, w8, w9, if_true, if_false]) <;> first | omega | (simp; omega) | simp), Heap.le_refl h⟩ | exact ⟨leafF (by (try simp only [OperT, w1, w2, w3, w4, w5, w6, w7, w8, w9, if_true, if_false]) <;> first | omega | (simp; omega) | simp), Heap.le_refl h⟩
end Go.Proofs
namespace Go.Proofs
open Go.Vc
set_option maxRecDepth 100000
set_option maxHeartbeats 4000000
theorem findI_mem (k : Int) (v : Value) : ∀ {l : List (Int × Value)} {i j : Nat}, findI k l i = some (j, v) → (k, v) ∈ l
  | [], _, _, h => by cases h
  | (m, x) :: l, i, j, h => by
    rw [findI] at h
    split at h
    · rename_i hk; subst hk; cases h; exact List.mem_cons_self
    · exact List.mem_cons_of_mem _ (findI_mem k v h)
def wantK (k : Int) : Option (Int × Int) := match findI k wantL 0 with
  | some (_, .agg ⟨[.int _ a, .int _ b]⟩) => some (a, b)
  | _ => none
theorem find_w (k : Int) : (findI k wantL 0 = none ∧ wantK k = none) ∨ ∃ i a b, findI k wantL 0 = some (i, wantV a b) ∧ wantK k = some (a, b) ∧ (b = 0 ∨ a = 5) ∧ a ≠ 8 := by
  have key : findI k wantL 0 = none ∨ ∃ i a b, findI k wantL 0 = some (i, wantV a b) ∧ (b = 0 ∨ a = 5) ∧ a ≠ 8 := by
    cases hf : findI k wantL 0 with
    | none => exact .inl rfl
    | some q =>
      obtain ⟨i, v⟩ := q
      have hm := findI_mem k v hf
      simp only [wantL, List.mem_cons, List.not_mem_nil, or_false, Prod.mk.injEq] at hm
      rcases hm with ⟨_, rfl⟩ | ⟨_, rfl⟩ | ⟨_, rfl⟩ | ⟨_, rfl⟩ | ⟨_, rfl⟩ | ⟨_, rfl⟩ | ⟨_, rfl⟩ | ⟨_, rfl⟩ | ⟨_, rfl⟩ | ⟨_, rfl⟩ | ⟨_, rfl⟩ | ⟨_, rfl⟩ | ⟨_, rfl⟩ | ⟨_, rfl⟩ | ⟨_, rfl⟩ | ⟨_, rfl⟩ | ⟨_, rfl⟩ | ⟨_, rfl⟩ | ⟨_, rfl⟩ | ⟨_, rfl⟩ | ⟨_, rfl⟩ | ⟨_, rfl⟩ | ⟨_, rfl⟩ | ⟨_, rfl⟩
      all_goals refine .inr ⟨_, _, _, rfl, ?_, ?_⟩ <;> decide
  rcases key with h | ⟨i, a, b, h, h2⟩
  · exact .inl ⟨h, by simp [wantK, h]⟩
  · exact .inr ⟨i, a, b, h, by simp [wantK, h, wantV], h2⟩
def InsT (u : Unt) (m : Mth) (x : Ins) : Prop := ∃ a b, wantK x.kind = some (a, b) ∧ OperT u m x.a a x.a ∧ OperT u m x.a b x.b
def CodeT (u : Unt) (m : Mth) : Prop := 1 ≤ m.code.length ∧ m.code.length ≤ 12 ∧ m.shapes.length = m.code.length ∧ (∀ x ∈ m.code, InsT u m x) ∧ ∀ s ∈ m.shapes, ShapeT u.classes.length m.locals s
theorem codeOk_c (us ms : List Value) (u : Unt) (m : Mth) (b : Nat) (h : Heap) (hu : UntR h us u) (hm : MthR h ms m) (ok : CsOk u.classes) (hb : h b = some (mapO wantL)) :
    Pure Tryz.prog 105 [.agg ⟨us⟩, .agg ⟨ms⟩, .map (some b)] h (tf (CodeT u m)) := by
  have hu0 := hu
  have hm0 := hm
  obtain ⟨p, cc, q, d, rfl, hcs, hms, hl1, hl2⟩ := hu.form
  obtain ⟨p1, c1, p2, c2, p3, c3, p4, c4, rfl, h1, h2, h3, h4, h5, h6, h7, h8, b1, b2, b3, b4⟩ := hm.form
  have no : ¬ CodeT u m → .bool false = tf (CodeT u m) := fun hx => (tf_f hx).symm
  refine pur Tryz.sigOk Tryz.func105 Tryz.F105 Tryz.ok105 rfl ?_
  conv => whnf
  repeat' ((first | refine selPt (by omega) ?_ | refine selPf (by omega) ?_ | refine selNPt (by omega) ?_ | refine selNPf (by omega) ?_ | refine selP (fun _ => ?_) (fun _ => ?_) | refine selNP (fun _ => ?_) (fun _ => ?_) | refine selB (fun _ => ?_) (fun _ => ?_) | refine selNB (fun _ => ?_) (fun _ => ?_) | refine ob (by omega) ?_ | refine ar_in (by omega) (by omega) ?_ | refine ptr ?_) <;> conv => whnf)
  all_goals first | exact ⟨no (by intro hx; have := hx.1; have := hx.2.1; have := hx.2.2.1; omega), rfl⟩ | skip
  refine lps [2, 3, 4, 33, 34, 35] [3, 4] (fun i : Nat => i ≤ m.code.length ∧ ∀ j (hj : j < m.code.length), j < i → InsT u m m.code[j]) (fun i => m.code.length - i)
    (fun i => ([.v (.map (some b)), .l 3 0, .l 4 0, .v (.slice p2 m.code.length c2), .v (.int .i64 m.code.length), .v (.int .i64 i)],
      [some [.slice p u.classes.length cc, .slice q u.methods.length d], some [.int .i64 m.cls, .int .i64 m.sel, .slice p1 m.args.length c1, .int .i64 m.out, .int .i64 m.locals, .slice p2 m.code.length c2, .slice p3 m.shapes.length c3, .slice p4 m.catches.length c4]], h)) 0 ⟨by omega, fun l hl h => by omega⟩ rfl ?_
  rintro i ⟨hi, hg⟩
  conv => whnf
  refine selP (fun g2 => ?_) (fun g2 => ?_)
  all_goals conv => whnf
  · have hml : i < m.code.length := by omega
    have e := h6.get hml
    obtain ⟨bb, off, vs, hq, e1, e2, e3, e4, e5⟩ := e
    subst e2
    have bad : ¬ InsT u m m.code[i] → Value.bool false = tf (CodeT u m) := fun hx => no (fun hy => hx (hy.2.2.2.1 _ (List.getElem_mem _)))
    refine ob (by omega) ?_
    conv => whnf
    refine ptr' hq ?_
    conv => whnf
    refine ldn e1 ?_
    conv => whnf
    rcases find_w m.code[i].kind with ⟨hf, hw⟩ | ⟨j, a, w, hf, hw, hab, ha8⟩
    · refine raw_lk0 (z := wantV 0 0) rfl rfl (fun w => rfl) (fun w => rfl) (fun w => rfl) hb hf ?_
      conv => whnf
      exact ⟨bad (by rintro ⟨_, _, hx, _⟩; rw [hw] at hx; cases hx), rfl⟩
    · refine raw_lk1 (z := wantV 0 0) rfl rfl (fun w => rfl) (fun w => rfl) (fun w => rfl) hb hf ?_
      conv => whnf
      refine call_p (operandOk_c _ _ u m _ _ _ _ _ h hu0 hm0 ok (fun hx => absurd hx ha8)) ?_
      conv => whnf
      refine selNP (fun g3 => ?_) (fun g3 => ?_)
      all_goals conv => whnf
      · exact ⟨bad (by rintro ⟨_, _, hx, hy, _⟩; rw [hw] at hx; cases hx; exact g3 hy), rfl⟩
      · refine call_p (operandOk_c _ _ u m _ _ _ _ _ h hu0 hm0 ok ?_) ?_
        · intro hx
          have ha : a = 5 := by omega
          subst ha
          simpa [OperT] using g3
        conv => whnf
        refine selNP (fun g4 => ?_) (fun g4 => ?_)
        all_goals conv => whnf
        · exact ⟨bad (by rintro ⟨_, _, hx, _, hy⟩; rw [hw] at hx; cases hx; exact g4 hy), rfl⟩
        · refine ar_in (by omega) (by omega) ?_
          conv => whnf
          refine lpn (i + 1) ⟨by omega, fun j hj hji => ?_⟩ (by omega) rfl
          rcases Nat.lt_succ_iff_lt_or_eq.1 hji with h10 | rfl
          · exact hg j hj h10
          · exact ⟨a, w, hw, g3, g4⟩
  · have hA : ∀ x ∈ m.code, InsT u m x := by
      intro t ht
      obtain ⟨j, hj, rfl⟩ := List.mem_iff_getElem.1 ht
      exact hg j hj (by omega)
    refine lps [3, 4, 72, 73, 74] [3, 4] (fun i : Nat => i ≤ m.shapes.length ∧ ∀ j (hj : j < m.shapes.length), j < i → ShapeT u.classes.length m.locals m.shapes[j]) (fun i => m.shapes.length - i)
      (fun i => ([.l 3 0, .l 4 0, .v (.slice p3 m.shapes.length c3), .v (.int .i64 m.shapes.length), .v (.int .i64 i)],
        [some [.slice p u.classes.length cc, .slice q u.methods.length d], some [.int .i64 m.cls, .int .i64 m.sel, .slice p1 m.args.length c1, .int .i64 m.out, .int .i64 m.locals, .slice p2 m.code.length c2, .slice p3 m.shapes.length c3, .slice p4 m.catches.length c4]], h)) 0 ⟨by omega, fun l hl h => by omega⟩ rfl ?_
    rintro i ⟨hi, hg⟩
    conv => whnf
    refine selP (fun g2 => ?_) (fun g2 => ?_)
    all_goals conv => whnf
    · have hml : i < m.shapes.length := by omega
      have e := h7.get hml
      obtain ⟨bb, off, vs, hq, e1, l, k, e2, e3, e4⟩ := e
      subst e2
      obtain ⟨p5, c5, rfl, _, _⟩ := e3.len
      obtain ⟨p6, c6, rfl, _, _⟩ := e4.len
      refine ob (by omega) ?_
      conv => whnf
      refine ptr' hq ?_
      conv => whnf
      refine ldn e1 ?_
      conv => whnf
      refine call_p (shapeOk_c _ _ _ _ _ _ _ h hl1 e3 e4) ?_
      conv => whnf
      refine selNP (fun g3 => ?_) (fun g3 => ?_)
      all_goals conv => whnf
      · exact ⟨no (fun hx => g3 (hx.2.2.2.2 _ (List.getElem_mem _))), rfl⟩
      · refine ar_in (by omega) (by omega) ?_
        conv => whnf
        refine lpn (i + 1) ⟨by omega, fun j hj hji => ?_⟩ (by omega) rfl
        rcases Nat.lt_succ_iff_lt_or_eq.1 hji with h10 | rfl
        · exact hg j hj h10
        · exact g3
    · refine ⟨(tf_t ⟨by omega, by omega, by omega, hA, ?_⟩).symm, rfl⟩
      intro t ht
      obtain ⟨j, hj, rfl⟩ := List.mem_iff_getElem.1 ht
      exact hg j hj (by omega)
def CatchT (u : Unt) (m : Mth) (c : Ctc) : Prop := (0 ≤ c.lo ∧ c.lo < m.code.length ∧ 0 ≤ c.to ∧ c.to < m.code.length) ∧ (c.lo < c.hi ∧ c.hi ≤ m.code.length) ∧ (0 ≤ c.cls ∧ c.cls < u.classes.length) ∧ up u.classes c.cls 1 = true
def CatchesT (u : Unt) (m : Mth) : Prop := m.catches.length ≤ 2 ∧ ∀ c ∈ m.catches, CatchT u m c
theorem catchesOk_c (us ms : List Value) (u : Unt) (m : Mth) (h : Heap) (hu : UntR h us u) (hm : MthR h ms m) (ok : CsOk u.classes) :
    Pure Tryz.prog 106 [.agg ⟨us⟩, .agg ⟨ms⟩] h (tf (CatchesT u m)) := by
  obtain ⟨p, cc, q, d, rfl, hcs, hms, hl1, hl2⟩ := hu.form
  obtain ⟨p1, c1, p2, c2, p3, c3, p4, c4, rfl, h1, h2, h3, h4, h5, h6, h7, h8, b1, b2, b3, b4⟩ := hm.form
  have no : ¬ CatchesT u m → .bool false = tf (CatchesT u m) := fun hx => (tf_f hx).symm
  refine pur Tryz.sigOk Tryz.func106 Tryz.F106 Tryz.ok106 rfl ?_
  conv => whnf
  refine selP (fun g1 => ?_) (fun g1 => ?_)
  all_goals conv => whnf
  · exact ⟨no (fun hx => by have := hx.1; omega), rfl⟩
  refine lps [2, 3, 12, 13, 14] [2, 3] (fun i : Nat => i ≤ m.catches.length ∧ ∀ j (hj : j < m.catches.length), j < i → CatchT u m m.catches[j]) (fun i => m.catches.length - i)
    (fun i => ([.l 2 0, .l 3 0, .v (.slice p4 m.catches.length c4), .v (.int .i64 m.catches.length), .v (.int .i64 i)],
      [some [.slice p u.classes.length cc, .slice q u.methods.length d], some [.int .i64 m.cls, .int .i64 m.sel, .slice p1 m.args.length c1, .int .i64 m.out, .int .i64 m.locals, .slice p2 m.code.length c2, .slice p3 m.shapes.length c3, .slice p4 m.catches.length c4]], h)) 0 ⟨by omega, fun l hl h => by omega⟩ rfl ?_
  rintro i ⟨hi, hg⟩
  conv => whnf
  refine selP (fun g2 => ?_) (fun g2 => ?_)
  all_goals conv => whnf
  · have hml : i < m.catches.length := by omega
    have e := h8.get hml
    obtain ⟨bb, off, vs, hq, e1, e2, e3, e4, e5, e6⟩ := e
    subst e2
    have bad : ¬ CatchT u m m.catches[i] → Value.bool false = tf (CatchesT u m) := fun hx => no (fun hy => hx (hy.2 _ (List.getElem_mem _)))
    refine ob (by omega) ?_
    conv => whnf
    refine ptr' hq ?_
    conv => whnf
    refine ldn e1 ?_
    conv => whnf
    repeat' ((first | refine selPt (by omega) ?_ | refine selPf (by omega) ?_ | refine selNPt (by omega) ?_ | refine selNPf (by omega) ?_ | refine selP (fun _ => ?_) (fun _ => ?_) | refine selNP (fun _ => ?_) (fun _ => ?_) | refine selB (fun _ => ?_) (fun _ => ?_) | refine selNB (fun _ => ?_) (fun _ => ?_) | refine ob (by omega) ?_ | refine ar_in (by omega) (by omega) ?_ | refine ptr ?_) <;> conv => whnf)
    all_goals first | (exfalso; omega) | exact ⟨bad (by intro hx; have := hx.1; have := hx.2.1; omega), rfl⟩ | skip
    refine call_p (isClass_c _ _ _ _ _) ?_
    conv => whnf
    refine selNP (fun g3 => ?_) (fun g3 => ?_)
    all_goals conv => whnf
    · exact ⟨bad (fun hx => g3 hx.2.2.1), rfl⟩
    refine call_p (classUp_c _ _ _ _ _ _ _ hcs ok (by omega) (by omega)) ?_
    conv => whnf
    refine selNB (fun g4 => ?_) (fun g4 => ?_)
    all_goals conv => whnf
    · exact ⟨bad (fun hx => by rw [hx.2.2.2] at g4; cases g4), rfl⟩
    · refine ar_in (by omega) (by omega) ?_
      conv => whnf
      refine lpn (i + 1) ⟨by omega, fun j hj hji => ?_⟩ (by omega) rfl
      rcases Nat.lt_succ_iff_lt_or_eq.1 hji with h10 | rfl
      · exact hg j hj h10
      · exact ⟨by omega, by omega, g3, g4⟩
  · refine ⟨(tf_t ⟨by omega, ?_⟩).symm, rfl⟩
    intro t ht
    obtain ⟨j, hj, rfl⟩ := List.mem_iff_getElem.1 ht
    exact hg j hj (by omega)
end Go.Proofs
namespace Go.Proofs
open Go.Vc
set_option maxRecDepth 100000
set_option maxHeartbeats 4000000
theorem sliceEqual_c (p q : Option Addr) (c d n k : Nat) (l r : List Int) (h : Heap) (h1 : Ints h (.slice p n c) l) (h2 : Ints h (.slice q k d) r) :
    Pure Tryz.prog 183 [.slice p n c, .slice q k d] h (tf (l = r)) := by
  obtain ⟨_, _, he, _, hl⟩ := h1.len
  injection he with _ he _
  subst he
  obtain ⟨_, _, he, _, hr⟩ := h2.len
  injection he with _ he _
  subst he
  refine pur Tryz.sigOk Tryz.func183 Tryz.F183 Tryz.ok183 rfl ?_
  conv => whnf
  refine selNP (fun g1 => ?_) (fun g1 => ?_)
  all_goals conv => whnf
  · exact ⟨leafF (fun hx => by subst hx; exact g1 rfl), rfl⟩
  have hlen : l.length = r.length := by omega
  refine lps [0, 1, 12, 13] [] (fun i : Nat => i ≤ l.length ∧ ∀ j (hj : j < l.length), j < i → l[j] = r[j]) (fun i => l.length - i)
    (fun i => ([.v (.slice p l.length c), .v (.slice q r.length d), .v (.int .i64 l.length), .v (.int .i64 i)], [], h)) 0 ⟨by omega, fun l hl h => by omega⟩ rfl ?_
  rintro i ⟨hi, hg⟩
  conv => whnf
  refine selP (fun g2 => ?_) (fun g2 => ?_)
  all_goals conv => whnf
  · have hil : i < l.length := by omega
    have hir : i < r.length := by omega
    have e1 := h1.get hil
    have e2 := h2.get hir
    obtain ⟨b1, o1, vs1, q1, a1, a2, a3⟩ := e1
    obtain ⟨b2, o2, vs2, q2, c1, c2, c3⟩ := e2
    subst a2 c2
    have r1 := rdn_get a1 (i := 0) rfl
    have r2 := rdn_get c1 (i := 0) rfl
    repeat' ((first | refine ob (by omega) ?_ | refine ptr' q1 ?_ | refine ptr' q2 ?_ | refine ld r1 ?_ | refine ld r2 ?_) <;> conv => whnf)
    refine selNP (fun g3 => ?_) (fun g3 => ?_)
    all_goals conv => whnf
    · exact ⟨leafF (fun hx => by subst hx; exact g3 rfl), rfl⟩
    · refine ar_in (by omega) (by omega) ?_
      conv => whnf
      refine lpn (i + 1) ⟨by omega, fun j hj hji => ?_⟩ (by omega) rfl
      rcases Nat.lt_succ_iff_lt_or_eq.1 hji with h10 | rfl
      · exact hg j hj h10
      · exact g3
  · refine ⟨leafT ?_, rfl⟩
    exact List.ext_getElem hlen (fun j hj _ => hg j hj (by omega))
def PairT (u : Unt) (m n : Mth) : Prop := 0 ≤ m.cls → 0 ≤ n.cls → m.sel = n.sel → m.cls ≠ n.cls ∧ (up u.classes m.cls n.cls = true → m.out = n.out ∧ m.args = n.args)
def AgreeT (u : Unt) : Prop := ∀ i j (hi : i < u.methods.length) (hj : j < u.methods.length), i ≠ j → PairT u u.methods[i] u.methods[j]
theorem agree_c (us : List Value) (u : Unt) (h : Heap) (hu : UntR h us u) (ok : CsOk u.classes) (hc : ∀ m ∈ u.methods, -1 ≤ m.cls ∧ m.cls < u.classes.length) :
    Pure Tryz.prog 107 [.agg ⟨us⟩] h (tf (AgreeT u)) := by
  obtain ⟨p, cc, q, d, rfl, hcs, hms, hl1, hl2⟩ := hu.form
  have no : ¬ AgreeT u → .bool false = tf (AgreeT u) := fun hx => (tf_f hx).symm
  refine pur Tryz.sigOk Tryz.func107 Tryz.F107 Tryz.ok107 rfl ?_
  conv => whnf
  refine lps [1, 8, 9, 10] [1] (fun i : Nat => i ≤ u.methods.length ∧ ∀ i' j (hi : i' < u.methods.length) (hj : j < u.methods.length), i' < i → i' ≠ j → PairT u u.methods[i'] u.methods[j]) (fun i => u.methods.length - i)
    (fun i => ([.l 1 0, .v (.slice q u.methods.length d), .v (.int .i64 u.methods.length), .v (.int .i64 i)], [some [.slice p u.classes.length cc, .slice q u.methods.length d]], h)) 0 ⟨by omega, fun _ _ _ _ hx => by omega⟩ rfl ?_
  rintro i ⟨hi, hg⟩
  conv => whnf
  refine selP (fun g2 => ?_) (fun g2 => ?_)
  all_goals conv => whnf
  · have hml : i < u.methods.length := by omega
    have e := hms.get hml
    obtain ⟨bb, off, vs, hq, e1, e2⟩ := e
    have hi1 := hc _ (List.getElem_mem hml)
    obtain ⟨p1, c1, p2, c2, p3, c3, p4, c4, e3, h1, h2, h3, h4, h5, h6, h7, h8, b1, b2, b3, b4⟩ := e2.form
    subst e3
    refine ob (by omega) ?_
    conv => whnf
    refine ptr' hq ?_
    conv => whnf
    refine ldn e1 ?_
    conv => whnf
    refine lps [1, 3, 4, 8, 9, 10, 16, 17, 18] [1, 4] (fun j : Nat => j ≤ u.methods.length ∧ ∀ j' (hj : j' < u.methods.length), j' < j → i ≠ j' → PairT u u.methods[i] u.methods[j']) (fun j => u.methods.length - j)
      (fun j => ([.l 1 0, .v (.int .i64 i), .l 4 0, .v (.slice q u.methods.length d), .v (.int .i64 u.methods.length), .v (.int .i64 i), .v (.slice q u.methods.length d), .v (.int .i64 u.methods.length), .v (.int .i64 j)],
        [some [.slice p u.classes.length cc, .slice q u.methods.length d], some [.int .i64 u.methods[i].cls, .int .i64 u.methods[i].sel, .slice p1 u.methods[i].args.length c1, .int .i64 u.methods[i].out, .int .i64 u.methods[i].locals, .slice p2 u.methods[i].code.length c2, .slice p3 u.methods[i].shapes.length c3, .slice p4 u.methods[i].catches.length c4]], h)) 0 ⟨by omega, fun _ _ hx => by omega⟩ rfl ?_
    rintro j ⟨hj, hgj⟩
    conv => whnf
    refine selP (fun g3 => ?_) (fun g3 => ?_)
    all_goals conv => whnf
    · have hjl : j < u.methods.length := by omega
      have e := hms.get hjl
      obtain ⟨bb', off', vs', hq', f1, f2⟩ := e
      have hj1 := hc _ (List.getElem_mem hjl)
      obtain ⟨p1', c1', p2', c2', p3', c3', p4', c4', f3, k1, k2, k3, k4, k5, k6, k7, k8, d1, d2, d3, d4⟩ := f2.form
      subst f3
      have bad : i ≠ j → ¬ PairT u u.methods[i] u.methods[j] → Value.bool false = tf (AgreeT u) := fun hne hx => no (fun hy => hx (hy i j hml hjl hne))
      have go : (i ≠ j → PairT u u.methods[i] u.methods[j]) → ∀ j' (hj : j' < u.methods.length), j' < j + 1 → i ≠ j' → PairT u u.methods[i] u.methods[j'] := by
        intro hx j' hj' hji hne
        rcases Nat.lt_succ_iff_lt_or_eq.1 hji with h10 | rfl
        · exact hgj j' hj' h10 hne
        · exact hx hne
      refine ob (by omega) ?_
      conv => whnf
      refine ptr' hq' ?_
      conv => whnf
      refine ldn f1 ?_
      conv => whnf
      by_cases hskip : (i : Int) = j ∨ u.methods[i].cls < 0 ∨ u.methods[j].cls < 0 ∨ u.methods[i].sel ≠ u.methods[j].sel
      · repeat' ((first | refine selPt (by omega) ?_ | refine selPf (by omega) ?_ | refine selNPt (by omega) ?_ | refine selNPf (by omega) ?_ | refine selP (fun _ => ?_) (fun _ => ?_) | refine selNP (fun _ => ?_) (fun _ => ?_) | refine selB (fun _ => ?_) (fun _ => ?_) | refine selNB (fun _ => ?_) (fun _ => ?_) | refine ob (by omega) ?_ | refine ar_in (by omega) (by omega) ?_ | refine ptr ?_) <;> conv => whnf)
        all_goals first
          | (exfalso; omega)
          | (refine lpn (j + 1) ⟨by omega, go (fun hne k1 k2 k3 => by omega)⟩ (by omega) rfl)
      · repeat' ((first | refine selPt (by omega) ?_ | refine selPf (by omega) ?_ | refine selNPt (by omega) ?_ | refine selNPf (by omega) ?_ | refine selP (fun _ => ?_) (fun _ => ?_) | refine selNP (fun _ => ?_) (fun _ => ?_) | refine selB (fun _ => ?_) (fun _ => ?_) | refine selNB (fun _ => ?_) (fun _ => ?_) | refine ob (by omega) ?_ | refine ar_in (by omega) (by omega) ?_ | refine ptr ?_) <;> conv => whnf)
        all_goals first
          | (exfalso; omega)
          | exact ⟨bad (by omega) (fun hx => (hx (by omega) (by omega) (by omega)).1 (by omega)), rfl⟩
          | skip
        refine call_p (classUp_c _ _ _ _ _ _ _ hcs ok (by omega) (by omega)) ?_
        conv => whnf
        refine selB (fun g4 => ?_) (fun g4 => ?_)
        all_goals conv => whnf
        · refine selNP (fun g5 => ?_) (fun g5 => ?_)
          all_goals conv => whnf
          · exact ⟨bad (by omega) (fun hx => g5 ((hx (by omega) (by omega) (by omega)).2 g4).1), rfl⟩
          · refine call_p (sliceEqual_c _ _ _ _ _ _ _ _ h h5 k5) ?_
            conv => whnf
            refine selNP (fun g6 => ?_) (fun g6 => ?_)
            all_goals conv => whnf
            · exact ⟨bad (by omega) (fun hx => g6 ((hx (by omega) (by omega) (by omega)).2 g4).2), rfl⟩
            · refine ar_in (by omega) (by omega) ?_
              conv => whnf
              refine lpn (j + 1) ⟨by omega, go (fun hne k1 k2 k3 => ⟨by omega, fun _ => ⟨by omega, g6⟩⟩)⟩ (by omega) rfl
        · refine ar_in (by omega) (by omega) ?_
          conv => whnf
          refine lpn (j + 1) ⟨by omega, go (fun hne k1 k2 k3 => ⟨by omega, fun k4 => by rw [g4] at k4; cases k4⟩)⟩ (by omega) rfl
    · refine ar_in (by omega) (by omega) ?_
      conv => whnf
      refine lpn (i + 1) ⟨by omega, fun i' j hi' hj hii hne => ?_⟩ (by omega) rfl
      rcases Nat.lt_succ_iff_lt_or_eq.1 hii with h10 | rfl
      · exact hg i' j hi' hj h10 hne
      · exact hgj j hj (by omega) hne
  · exact ⟨leafT (fun i' j hi' hj hne => hg i' j hi' hj (by omega) hne), rfl⟩
end Go.Proofs
namespace Go.Proofs
open Go.Vc
set_option maxRecDepth 100000
set_option maxHeartbeats 4000000
theorem InsT_iff {u : Unt} {m : Mth} {k a b p q : Int} (hw : wantK k = some (p, q)) : InsT u m ⟨k, a, b⟩ ↔ OperT u m a p a ∧ OperT u m a q b := by
  constructor
  · rintro ⟨p', q', h1, h2⟩
    simp only [hw, Option.some.injEq, Prod.mk.injEq] at h1
    obtain ⟨rfl, rfl⟩ := h1
    exact h2
  · rintro h
    exact ⟨p, q, hw, h⟩
theorem wantK_mem {k p q : Int} (hw : wantK k = some (p, q)) : (k, wantV p q) ∈ wantL := by
  rcases find_w k with ⟨_, h⟩ | ⟨i, a, b, h, h2, _⟩
  · rw [hw] at h; cases h
  · rw [hw] at h2; cases h2; exact findI_mem _ _ h
theorem flds_len' {cs : List Cls} (ok : CsOk cs) {c : Int} (hl : c < cs.length) : (flds cs c).length ≤ 8 := by
  have := flds_len ok 4 c hl (by have := ok.2.1; omega)
  omega
theorem l3Ins_c (us ms : List Value) (u : Unt) (m : Mth) (x : Ins) (h : Heap) (hu : UntR h us u) (hm : MthR h ms m) (ok : CsOk u.classes) (hx : I64 x.a ∧ I64 x.b) (hml : 0 ≤ m.locals) :
    Pure Tryz.prog 126 [.agg ⟨us⟩, .agg ⟨ms⟩, .agg #[.int .i64 x.kind, .int .i64 x.a, .int .i64 x.b]] h (tf (InsT u m x)) := by
  obtain ⟨p, cc, q, d, rfl, hcs, hms, hl1, hl2⟩ := hu.form
  obtain ⟨p1, c1, p2, c2, p3, c3, p4, c4, rfl, h1, h2, h3, h4, h5, h6, h7, h8, b1, b2, b3, b4⟩ := hm.form
  obtain ⟨kind, a, b⟩ := x
  simp only at hx ⊢
  obtain ⟨h40, h41⟩ := h4
  refine purL Tryz.sigOk Tryz.func126 Tryz.F126 Tryz.ok126 rfl ?_
  conv => whnf
  refine ar_in (by omega) (by omega) ?_
  conv => whnf
  refine call_p (l6In_c _ _ _ _) ?_
  conv => whnf
  have rf : ∀ (K : Value → Heap → Prop) (E : List PanicEntry → Heap → Prop), (0 ≤ a ∧ a < u.classes.length) → (∀ p' c' h', h.le h' → h.le h' ∧ K (.slice p' (flds u.classes a).length c') h') → CallX Tryz.prog 135 [.slice p u.classes.length cc, .int .i64 a] h K E := by
    intro K E ha hk
    refine callX_r (l2Fields_c _ _ _ _ _ _ _ hcs ok ha.1 ha.2 (Nat.lt_succ_self _)) ?_
    rintro v h' ⟨hle, B, ho, _⟩
    have ff := ho.form
    obtain ⟨p', c', rfl, hc'⟩ := ff
    have := hk p' c' h' hle
    simpa using this
  have hcall : (0 ≤ a ∧ a < u.methods.length) → ∃ bb off, q = some ⟨bb, off, none⟩ ∧ rd h bb (off + a.toNat * 8) = some (.int .i64 (mth u a).cls) := by
    intro hb
    have hi : a.toNat < u.methods.length := by omega
    have e := hms.get hi
    obtain ⟨bb, off, vs, hq, e1, e2⟩ := e
    obtain ⟨_, _, _, _, e3, _⟩ := e2
    subst e3
    have hme : mth u a = u.methods[a.toNat] := mth_eq hi (by omega)
    exact ⟨bb, off, hq, by rw [hme]; exact rdn_get e1 (i := 0) rfl⟩
  have hfl : a < u.classes.length → (flds u.classes a).length ≤ 8 := fun hx => flds_len' ok hx
  cases hw : wantK kind with
  | none =>
    have hk : kind ≠ 1 ∧ kind ≠ 2 ∧ kind ≠ 3 ∧ kind ≠ 4 ∧ kind ≠ 5 ∧ kind ≠ 6 ∧ kind ≠ 7 ∧ kind ≠ 8 ∧ kind ≠ 9 ∧ kind ≠ 10 ∧ kind ≠ 11 ∧ kind ≠ 12 ∧ kind ≠ 13 ∧ kind ≠ 14 ∧ kind ≠ 15 ∧ kind ≠ 16 ∧ kind ≠ 17 ∧ kind ≠ 18 ∧ kind ≠ 19 ∧ kind ≠ 20 ∧ kind ≠ 21 ∧ kind ≠ 22 ∧ kind ≠ 23 ∧ kind ≠ 24 := by
      refine ⟨?_, ?_, ?_, ?_, ?_, ?_, ?_, ?_, ?_, ?_, ?_, ?_, ?_, ?_, ?_, ?_, ?_, ?_, ?_, ?_, ?_, ?_, ?_, ?_⟩ <;> (rintro rfl; cases hw)
    repeat' ((first | refine selPt (by omega) ?_ | refine selPf (by omega) ?_ | refine selNPt (by omega) ?_ | refine selNPf (by omega) ?_ | refine selP (fun _ => ?_) (fun _ => ?_) | refine selNP (fun _ => ?_) (fun _ => ?_) | refine selB (fun _ => ?_) (fun _ => ?_) | refine selNB (fun _ => ?_) (fun _ => ?_) | refine ob (by omega) ?_ | refine ar_in (by omega) (by omega) ?_ | refine ptr ?_) <;> conv => whnf)
    exact ⟨leafF (by rintro ⟨_, _, hx, _⟩; rw [hw] at hx; cases hx), Heap.le_refl h⟩
  | some w =>
    obtain ⟨wa, wb⟩ := w
    have hi := InsT_iff (u := u) (m := m) (a := a) (b := b) hw
    have hmem := wantK_mem hw
    simp only [wantL, wantV, List.mem_cons, List.not_mem_nil, or_false, Prod.mk.injEq, Value.agg.injEq, Array.mk.injEq, List.cons.injEq, Value.int.injEq, true_and, and_true] at hmem
    rcases hmem with ⟨rfl, rfl, rfl⟩ | ⟨rfl, rfl, rfl⟩ | ⟨rfl, rfl, rfl⟩ | ⟨rfl, rfl, rfl⟩ | ⟨rfl, rfl, rfl⟩ | ⟨rfl, rfl, rfl⟩ | ⟨rfl, rfl, rfl⟩ | ⟨rfl, rfl, rfl⟩ | ⟨rfl, rfl, rfl⟩ | ⟨rfl, rfl, rfl⟩ | ⟨rfl, rfl, rfl⟩ | ⟨rfl, rfl, rfl⟩ | ⟨rfl, rfl, rfl⟩ | ⟨rfl, rfl, rfl⟩ | ⟨rfl, rfl, rfl⟩ | ⟨rfl, rfl, rfl⟩ | ⟨rfl, rfl, rfl⟩ | ⟨rfl, rfl, rfl⟩ | ⟨rfl, rfl, rfl⟩ | ⟨rfl, rfl, rfl⟩ | ⟨rfl, rfl, rfl⟩ | ⟨rfl, rfl, rfl⟩ | ⟨rfl, rfl, rfl⟩ | ⟨rfl, rfl, rfl⟩
    all_goals conv => whnf
    rotate_left 19
    · refine ar_in (by omega) (by omega) ?_
      conv => whnf
      refine call_p (l6In_c _ _ _ _) ?_
      conv => whnf
      refine selP (fun hb => ?_) (fun hb => ?_)
      all_goals conv => whnf
      · have hb' : 0 ≤ a ∧ a < u.methods.length := by omega
        have e := hcall hb'
        obtain ⟨bb, off, hq, hr⟩ := e
        repeat' ((first | refine selP (fun _ => ?_) (fun _ => ?_) | refine selNP (fun _ => ?_) (fun _ => ?_) | refine selB (fun _ => ?_) (fun _ => ?_) | refine selNB (fun _ => ?_) (fun _ => ?_) | refine ptr' hq ?_ | refine ld hr ?_ | refine ob (by omega) ?_ | refine ar_in (by omega) (by omega) ?_ | refine ptr ?_) <;> conv => whnf)
        all_goals first
          | exact ⟨leafD (by rw [hi]; simp [OperT, isWord]; omega), Heap.le_refl _⟩
          | exact ⟨leafF (by rw [hi]; simp [OperT, isWord]; omega), Heap.le_refl _⟩
          | exact ⟨leafT (by rw [hi]; simp [OperT, isWord]; omega), Heap.le_refl _⟩
          | skip
      · exact ⟨leafF (by rw [hi]; simp [OperT, isWord]; omega), Heap.le_refl _⟩
    all_goals
      repeat' ((first | refine selP (fun _ => ?_) (fun _ => ?_) | refine selNP (fun _ => ?_) (fun _ => ?_) | refine selB (fun _ => ?_) (fun _ => ?_) | refine selNB (fun _ => ?_) (fun _ => ?_) | refine call_p (l6In_c _ _ _ _) ?_ | refine call_p (l1Word_c _ _) ?_ | refine callX_p (l6In_c _ _ _ _) ?_ | refine rf _ _ (by omega) (fun p' c' h' hle => ⟨hle, ?_⟩) | refine ob (by omega) ?_ | refine ar_in (by omega) (by omega) ?_ | refine ptr ?_) <;> conv => whnf)
      all_goals first
        | exact ⟨leafD (by rw [hi]; simp [OperT, isWord]; omega), by first | exact Heap.le_refl _ | assumption⟩
        | exact ⟨leafF (by rw [hi]; simp [OperT, isWord]; omega), by first | exact Heap.le_refl _ | assumption⟩
        | exact ⟨leafT (by rw [hi]; simp [OperT, isWord]; omega), by first | exact Heap.le_refl _ | assumption⟩
        | skip
end Go.Proofs

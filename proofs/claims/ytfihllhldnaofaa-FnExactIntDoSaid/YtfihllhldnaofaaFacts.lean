/- What the calculus asks of the program: its types, and of each function its local boxes and the plans of its drawn regions. -/
import Derived.Test.YtfihllhldnaofaaVcDraw
import Derived.Test.YtfihllhldnaofaaProg
namespace Go.Proofs
open Go.Vc
def Try.sig : Go.Vc.Sig := ⟨.node (.node (.node (.node (.node (.node (.leaf) 1 ⟨1, 8, [.nilFunc], false, .oth⟩ (.leaf)) 2 ⟨1, 8, [.int .i64 0], false, .num .i64⟩ (.node (.leaf) 3 ⟨1, 8, [.int .i64 0], false, .num .i64⟩ (.leaf))) 4 ⟨1, 1, [.bool false], false, .bas⟩ (.node (.node (.leaf) 5 ⟨1, 1, [.int .u8 0], false, .num .u8⟩ (.leaf)) 6 ⟨1, 1, [.int .u8 0], false, .num .u8⟩ (.leaf))) 7 ⟨4, 24, [.int .i64 0, .int .i64 0, .bool false, .int .u8 0], true, .str [(0, 2), (1, 3), (2, 4), (3, 6)]⟩ (.node (.node (.node (.leaf) 8 ⟨4, 24, [.int .i64 0, .int .i64 0, .bool false, .int .u8 0], true, .str [(0, 2), (1, 3), (2, 4), (3, 6)]⟩ (.leaf)) 9 ⟨1, 16, [.string ⟨#[]⟩], false, .txt⟩ (.node (.leaf) 10 ⟨1, 16, [.string ⟨#[]⟩], false, .txt⟩ (.leaf))) 11 ⟨1, 16, [.string ⟨#[]⟩], false, .txt⟩ (.node (.node (.leaf) 12 ⟨1, 8, [.int .u64 0], false, .num .u64⟩ (.leaf)) 13 ⟨2, 24, [.string ⟨#[]⟩, .int .u64 0], true, .str [(0, 9), (1, 12)]⟩ (.leaf)))) 14 ⟨2, 24, [.string ⟨#[]⟩, .int .u64 0], true, .str [(0, 9), (1, 12)]⟩ (.node (.node (.node (.node (.leaf) 15 ⟨1, 8, [.pointer none], false, .ptr 45⟩ (.leaf)) 16 ⟨1, 8, [.pointer none], false, .ptr 48⟩ (.node (.leaf) 17 ⟨1, 8, [.pointer none], false, .ptr 58⟩ (.leaf))) 18 ⟨1, 8, [.pointer none], true, .str [(0, 17)]⟩ (.node (.node (.leaf) 19 ⟨1, 8, [.pointer none], true, .str [(0, 17)]⟩ (.leaf)) 20 ⟨1, 16, [.nilIface], false, .ifc⟩ (.leaf))) 21 ⟨1, 4, [.int .i32 0], false, .num .i32⟩ (.node (.node (.node (.leaf) 23 ⟨1, 8, [.nilFunc], false, .oth⟩ (.leaf)) 24 ⟨1, 8, [.nilFunc], false, .oth⟩ (.node (.leaf) 25 ⟨1, 24, [.slice none 0 0], false, .sl 5⟩ (.leaf))) 27 ⟨1, 8, [.nilFunc], false, .oth⟩ (.node (.node (.leaf) 28 ⟨1, 8, [.nilFunc], false, .oth⟩ (.leaf)) 29 ⟨1, 8, [.nilFunc], false, .oth⟩ (.leaf))))) 30 ⟨1, 8, [.nilFunc], false, .oth⟩ (.node (.node (.node (.node (.node (.leaf) 31 ⟨1, 8, [.nilFunc], false, .oth⟩ (.leaf)) 32 ⟨1, 8, [.nilFunc], false, .oth⟩ (.node (.leaf) 33 ⟨1, 8, [.nilFunc], false, .oth⟩ (.leaf))) 34 ⟨1, 1, [.int .i8 0], false, .num .i8⟩ (.node (.node (.leaf) 35 ⟨1, 1, [.int .i8 0], false, .num .i8⟩ (.leaf)) 36 ⟨5, 40, [.nilFunc, .nilFunc, .nilFunc, .nilFunc, .nilFunc], true, .arr 5 32⟩ (.leaf))) 37 ⟨1, 8, [.pointer none], false, .ptr 41⟩ (.node (.node (.node (.leaf) 38 ⟨1, 8, [.nilFunc], false, .oth⟩ (.leaf)) 39 ⟨1, 8, [.nilFunc], false, .oth⟩ (.node (.leaf) 40 ⟨2, 32, [.slice none 0 0, .int .i64 0], true, .str [(0, 25), (1, 3)]⟩ (.leaf))) 41 ⟨2, 32, [.slice none 0 0, .int .i64 0], true, .str [(0, 25), (1, 3)]⟩ (.node (.node (.leaf) 42 ⟨1, 24, [.slice none 0 0], false, .sl 3⟩ (.leaf)) 43 ⟨1, 8, [.nilFunc], false, .oth⟩ (.leaf)))) 44 ⟨4, 40, [.pointer none, .pointer none, .pointer none, .string ⟨#[]⟩], true, .str [(0, 17), (1, 17), (2, 17), (3, 9)]⟩ (.node (.node (.node (.node (.leaf) 45 ⟨4, 40, [.pointer none, .pointer none, .pointer none, .string ⟨#[]⟩], true, .str [(0, 17), (1, 17), (2, 17), (3, 9)]⟩ (.leaf)) 46 ⟨0, 0, [], true, .arr 0 16⟩ (.node (.leaf) 49 ⟨1, 8, [.nilFunc], false, .oth⟩ (.leaf))) 50 ⟨1, 4, [.int .u32 0], false, .num .u32⟩ (.node (.node (.leaf) 51 ⟨1, 1, [.int .u8 0], false, .num .u8⟩ (.leaf)) 52 ⟨1, 1, [.int .u8 0], false, .num .u8⟩ (.leaf))) 53 ⟨1, 8, [.nilFunc], false, .oth⟩ (.node (.node (.node (.leaf) 54 ⟨1, 8, [.pointer none], false, .ptr 5⟩ (.leaf)) 55 ⟨1, 4, [.int .i32 0], false, .num .i32⟩ (.node (.leaf) 56 ⟨1, 4, [.int .i32 0], false, .num .i32⟩ (.leaf))) 57 ⟨11, 48, [.int .u64 0, .int .u64 0, .int .u32 0, .int .u8 0, .int .u8 0, .int .u8 0, .int .u8 0, .nilFunc, .pointer none, .int .i32 0, .int .i32 0], true, .str [(0, 12), (1, 12), (2, 50), (3, 51), (4, 5), (5, 5), (6, 52), (7, 53), (8, 54), (9, 55), (10, 56)]⟩ (.node (.node (.leaf) 58 ⟨11, 48, [.int .u64 0, .int .u64 0, .int .u32 0, .int .u8 0, .int .u8 0, .int .u8 0, .int .u8 0, .nilFunc, .pointer none, .int .i32 0, .int .i32 0], true, .str [(0, 12), (1, 12), (2, 50), (3, 51), (4, 5), (5, 5), (6, 52), (7, 53), (8, 54), (9, 55), (10, 56)]⟩ (.leaf)) 59 ⟨1, 8, [.pointer none], false, .oth⟩ (.leaf))))), 3, 21⟩
theorem Try.sigOk : SigOk Try.prog Try.sig := SigOk.mk' (by kernel_rfl) (by kernel_rfl) (by kernel_rfl) (by kernel_rfl)
/- laws.FnExactIntDo -/
def Try.F3 : Fs := {}
theorem Try.ok3 : fnOk Try.F3 Try.f3 3 = true := by kernel_rfl
/- laws.FnIntDiv -/
def Try.F4 : Fs := {}
theorem Try.ok4 : fnOk Try.F4 Try.f4 1 = true := by kernel_rfl
/- laws.FnIntRing -/
def Try.F5 : Fs := {}
theorem Try.ok5 : fnOk Try.F5 Try.f5 2 = true := by kernel_rfl
/- spec.IntDo -/
def Try.F6 : Fs := {}
theorem Try.ok6 : fnOk Try.F6 Try.f6 3 = true := by kernel_rfl
/- impl.IntDo -/
def Try.F7 : Fs := { L := [8] }
theorem Try.ok7 : fnOk Try.F7 Try.f7 3 = true := by kernel_rfl
/- spec.DrawIntDo -/
def Try.F8 : Fs := {}
theorem Try.ok8 : fnOk Try.F8 Try.f8 1 = true := by kernel_rfl
/- impl.IntWrap -/
def Try.F9 : Fs := {}
theorem Try.ok9 : fnOk Try.F9 Try.f9 1 = true := by kernel_rfl
/- spec.l1Word -/
def Try.F10 : Fs := {}
theorem Try.ok10 : fnOk Try.F10 Try.f10 1 = true := by kernel_rfl
/- spec.IntWrap -/
def Try.F11 : Fs := {}
theorem Try.ok11 : fnOk Try.F11 Try.f11 1 = true := by kernel_rfl
/- impl.isWord -/
def Try.F12 : Fs := {}
theorem Try.ok12 : fnOk Try.F12 Try.f12 1 = true := by kernel_rfl
/- impl.word).add -/
def Try.F13 : Fs := {}
theorem Try.ok13 : fnOk Try.F13 Try.f13 2 = true := by kernel_rfl
/- impl.word).sub -/
def Try.F14 : Fs := {}
theorem Try.ok14 : fnOk Try.F14 Try.f14 2 = true := by kernel_rfl
/- impl.word).mul -/
def Try.F15 : Fs := {}
theorem Try.ok15 : fnOk Try.F15 Try.f15 2 = true := by kernel_rfl
/- impl.word).div -/
def Try.F16 : Fs := {}
theorem Try.ok16 : fnOk Try.F16 Try.f16 2 = true := by kernel_rfl
/- spec.l6Open -/
def Try.F17 : Fs := {}
theorem Try.ok17 : fnOk Try.F17 Try.f17 1 = true := by kernel_rfl
/- spec.l6Rd).pick -/
def Try.F18 : Fs := { plans := [(7, [0, 1, 2, 4, 5, 6, 7, 15, 16, 17, 19, 20, 21, 22, 23, 24, 33, 34, 36, 37, 38, 39, 3, 8, 9, 10, 11, 12, 13, 14, 18, 25, 26, 27, 28, 29, 30, 31, 32, 35, 40, 41, 42, 43, 44, 45])] }
theorem Try.ok18 : fnOk Try.F18 Try.f18 2 = true := by kernel_rfl
/- spec.l71Word -/
def Try.F19 : Fs := { L := [6] }
theorem Try.ok19 : fnOk Try.F19 Try.f19 1 = true := by kernel_rfl
/- spec.l6In -/
def Try.F20 : Fs := {}
theorem Try.ok20 : fnOk Try.F20 Try.f20 3 = true := by kernel_rfl
end Go.Proofs

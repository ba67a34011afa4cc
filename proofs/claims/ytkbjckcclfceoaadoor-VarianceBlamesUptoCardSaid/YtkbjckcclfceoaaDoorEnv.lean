/-
  Own work, printed by awgen.py. The table of types of this seat in the form that the program logic asks.
-/
import Derived.Test.YtkbjckcclfceoaaDoorRows
import Derived.Test.YtkbjckcclfceoaaDoorAw9
namespace Go.Proofs.YtkbjckcclfceoaaDoor
open Go

def tab : Aw.Tab := [(1, ⟨.other, 1, 8, [Value.nilFunc]⟩),
  (2, ⟨.int .i64, 1, 8, [Value.int .i64 0]⟩),
  (3, ⟨.int .i64, 1, 8, [Value.int .i64 0]⟩),
  (4, ⟨.bool, 1, 1, [Value.bool false]⟩),
  (5, ⟨.int .u8, 1, 1, [Value.int .u8 0]⟩),
  (6, ⟨.int .u8, 1, 1, [Value.int .u8 0]⟩),
  (7, ⟨.struct [(0, 2, 1, false), (1, 3, 1, false), (2, 4, 1, false), (3, 6, 1, false)], 4, 24, [Value.int .i64 0, Value.int .i64 0, Value.bool false, Value.int .u8 0]⟩),
  (8, ⟨.struct [(0, 2, 1, false), (1, 3, 1, false), (2, 4, 1, false), (3, 6, 1, false)], 4, 24, [Value.int .i64 0, Value.int .i64 0, Value.bool false, Value.int .u8 0]⟩),
  (9, ⟨.str, 1, 16, [Value.string ByteArray.empty]⟩),
  (10, ⟨.str, 1, 16, [Value.string ByteArray.empty]⟩),
  (11, ⟨.str, 1, 16, [Value.string ByteArray.empty]⟩),
  (12, ⟨.int .u64, 1, 8, [Value.int .u64 0]⟩),
  (13, ⟨.struct [(0, 9, 1, false), (1, 12, 1, false)], 2, 24, [Value.string ByteArray.empty, Value.int .u64 0]⟩),
  (14, ⟨.struct [(0, 9, 1, false), (1, 12, 1, false)], 2, 24, [Value.string ByteArray.empty, Value.int .u64 0]⟩),
  (15, ⟨.other, 1, 8, [Value.pointer none]⟩),
  (16, ⟨.other, 1, 8, [Value.pointer none]⟩),
  (17, ⟨.other, 1, 8, [Value.pointer none]⟩),
  (18, ⟨.struct [(0, 17, 1, false)], 1, 8, [Value.pointer none]⟩),
  (19, ⟨.struct [(0, 17, 1, false)], 1, 8, [Value.pointer none]⟩),
  (20, ⟨.iface, 1, 16, [Value.nilIface]⟩),
  (21, ⟨.int .i32, 1, 4, [Value.int .i32 0]⟩),
  (22, ⟨.other, 1, 8, [Value.nilFunc]⟩),
  (23, ⟨.other, 1, 8, [Value.nilFunc]⟩),
  (24, ⟨.other, 1, 8, [Value.nilFunc]⟩),
  (25, ⟨.other, 1, 8, [Value.nilFunc]⟩),
  (26, ⟨.other, 1, 8, [Value.nilFunc]⟩),
  (27, ⟨.slice 9 1, 1, 24, [Value.slice none 0 0]⟩),
  (28, ⟨.slice 31 6, 1, 24, [Value.slice none 0 0]⟩),
  (29, ⟨.slice 75 2, 1, 24, [Value.slice none 0 0]⟩),
  (30, ⟨.struct [(0, 3, 1, false), (1, 2, 1, false), (2, 2, 1, false), (3, 27, 1, false), (4, 28, 1, false), (5, 29, 1, false)], 6, 96, [Value.int .i64 0, Value.int .i64 0, Value.int .i64 0, Value.slice none 0 0, Value.slice none 0 0, Value.slice none 0 0]⟩),
  (31, ⟨.struct [(0, 3, 1, false), (1, 2, 1, false), (2, 2, 1, false), (3, 27, 1, false), (4, 28, 1, false), (5, 29, 1, false)], 6, 96, [Value.int .i64 0, Value.int .i64 0, Value.int .i64 0, Value.slice none 0 0, Value.slice none 0 0, Value.slice none 0 0]⟩),
  (32, ⟨.struct [(0, 3, 1, false), (1, 31, 6, true)], 7, 104, [Value.int .i64 0, Value.int .i64 0, Value.int .i64 0, Value.int .i64 0, Value.slice none 0 0, Value.slice none 0 0, Value.slice none 0 0]⟩),
  (33, ⟨.struct [(0, 3, 1, false), (1, 31, 6, true)], 7, 104, [Value.int .i64 0, Value.int .i64 0, Value.int .i64 0, Value.int .i64 0, Value.slice none 0 0, Value.slice none 0 0, Value.slice none 0 0]⟩),
  (34, ⟨.slice 36 12, 1, 24, [Value.slice none 0 0]⟩),
  (35, ⟨.struct [(0, 3, 1, false), (1, 33, 7, true), (8, 2, 1, false), (9, 9, 1, false), (10, 3, 1, false), (11, 34, 1, false)], 12, 168, [Value.int .i64 0, Value.int .i64 0, Value.int .i64 0, Value.int .i64 0, Value.int .i64 0, Value.slice none 0 0, Value.slice none 0 0, Value.slice none 0 0, Value.int .i64 0, Value.string ByteArray.empty, Value.int .i64 0, Value.slice none 0 0]⟩),
  (36, ⟨.struct [(0, 3, 1, false), (1, 33, 7, true), (8, 2, 1, false), (9, 9, 1, false), (10, 3, 1, false), (11, 34, 1, false)], 12, 168, [Value.int .i64 0, Value.int .i64 0, Value.int .i64 0, Value.int .i64 0, Value.int .i64 0, Value.slice none 0 0, Value.slice none 0 0, Value.slice none 0 0, Value.int .i64 0, Value.string ByteArray.empty, Value.int .i64 0, Value.slice none 0 0]⟩),
  (37, ⟨.other, 1, 8, [Value.nilFunc]⟩),
  (38, ⟨.other, 1, 8, [Value.nilFunc]⟩),
  (39, ⟨.slice 3 1, 1, 24, [Value.slice none 0 0]⟩),
  (40, ⟨.other, 1, 8, [Value.nilFunc]⟩),
  (41, ⟨.slice 77 2, 1, 24, [Value.slice none 0 0]⟩),
  (42, ⟨.struct [(0, 9, 1, false), (1, 9, 1, false), (2, 41, 1, false), (3, 3, 1, false), (4, 36, 12, true)], 16, 232, [Value.string ByteArray.empty, Value.string ByteArray.empty, Value.slice none 0 0, Value.int .i64 0, Value.int .i64 0, Value.int .i64 0, Value.int .i64 0, Value.int .i64 0, Value.int .i64 0, Value.slice none 0 0, Value.slice none 0 0, Value.slice none 0 0, Value.int .i64 0, Value.string ByteArray.empty, Value.int .i64 0, Value.slice none 0 0]⟩),
  (43, ⟨.struct [(0, 9, 1, false), (1, 9, 1, false), (2, 41, 1, false), (3, 3, 1, false), (4, 36, 12, true)], 16, 232, [Value.string ByteArray.empty, Value.string ByteArray.empty, Value.slice none 0 0, Value.int .i64 0, Value.int .i64 0, Value.int .i64 0, Value.int .i64 0, Value.int .i64 0, Value.int .i64 0, Value.slice none 0 0, Value.slice none 0 0, Value.slice none 0 0, Value.int .i64 0, Value.string ByteArray.empty, Value.int .i64 0, Value.slice none 0 0]⟩),
  (44, ⟨.other, 1, 8, [Value.nilFunc]⟩),
  (45, ⟨.other, 1, 8, [Value.nilFunc]⟩),
  (46, ⟨.other, 1, 8, [Value.nilFunc]⟩),
  (47, ⟨.other, 1, 8, [Value.nilFunc]⟩),
  (48, ⟨.other, 1, 8, [Value.nilFunc]⟩),
  (49, ⟨.other, 1, 8, [Value.nilFunc]⟩),
  (50, ⟨.other, 1, 8, [Value.nilFunc]⟩),
  (52, ⟨.other, 1, 8, [Value.nilFunc]⟩),
  (53, ⟨.array 38 3 1 false, 38, 304, [Value.int .i64 0, Value.int .i64 0, Value.int .i64 0, Value.int .i64 0, Value.int .i64 0, Value.int .i64 0, Value.int .i64 0, Value.int .i64 0, Value.int .i64 0, Value.int .i64 0, Value.int .i64 0, Value.int .i64 0, Value.int .i64 0, Value.int .i64 0, Value.int .i64 0, Value.int .i64 0, Value.int .i64 0, Value.int .i64 0, Value.int .i64 0, Value.int .i64 0, Value.int .i64 0, Value.int .i64 0, Value.int .i64 0, Value.int .i64 0, Value.int .i64 0, Value.int .i64 0, Value.int .i64 0, Value.int .i64 0, Value.int .i64 0, Value.int .i64 0, Value.int .i64 0, Value.int .i64 0, Value.int .i64 0, Value.int .i64 0, Value.int .i64 0, Value.int .i64 0, Value.int .i64 0, Value.int .i64 0]⟩),
  (54, ⟨.other, 1, 8, [Value.nilFunc]⟩),
  (55, ⟨.other, 1, 8, [Value.nilFunc]⟩),
  (56, ⟨.other, 1, 8, [Value.nilFunc]⟩),
  (57, ⟨.other, 1, 8, [Value.nilFunc]⟩),
  (58, ⟨.other, 1, 8, [Value.nilFunc]⟩),
  (59, ⟨.struct [(0, 17, 1, false), (1, 17, 1, false), (2, 17, 1, false), (3, 9, 1, false)], 4, 40, [Value.pointer none, Value.pointer none, Value.pointer none, Value.string ByteArray.empty]⟩),
  (60, ⟨.struct [(0, 17, 1, false), (1, 17, 1, false), (2, 17, 1, false), (3, 9, 1, false)], 4, 40, [Value.pointer none, Value.pointer none, Value.pointer none, Value.string ByteArray.empty]⟩),
  (64, ⟨.other, 1, 8, [Value.nilFunc]⟩),
  (65, ⟨.int .u32, 1, 4, [Value.int .u32 0]⟩),
  (66, ⟨.int .u8, 1, 1, [Value.int .u8 0]⟩),
  (67, ⟨.int .u8, 1, 1, [Value.int .u8 0]⟩),
  (68, ⟨.other, 1, 8, [Value.nilFunc]⟩),
  (69, ⟨.other, 1, 8, [Value.pointer none]⟩),
  (70, ⟨.int .i32, 1, 4, [Value.int .i32 0]⟩),
  (71, ⟨.int .i32, 1, 4, [Value.int .i32 0]⟩),
  (72, ⟨.struct [(0, 12, 1, false), (1, 12, 1, false), (2, 65, 1, false), (3, 66, 1, false), (4, 5, 1, false), (5, 5, 1, false), (6, 67, 1, false), (7, 68, 1, false), (8, 69, 1, false), (9, 70, 1, false), (10, 71, 1, false)], 11, 48, [Value.int .u64 0, Value.int .u64 0, Value.int .u32 0, Value.int .u8 0, Value.int .u8 0, Value.int .u8 0, Value.int .u8 0, Value.nilFunc, Value.pointer none, Value.int .i32 0, Value.int .i32 0]⟩),
  (73, ⟨.struct [(0, 12, 1, false), (1, 12, 1, false), (2, 65, 1, false), (3, 66, 1, false), (4, 5, 1, false), (5, 5, 1, false), (6, 67, 1, false), (7, 68, 1, false), (8, 69, 1, false), (9, 70, 1, false), (10, 71, 1, false)], 11, 48, [Value.int .u64 0, Value.int .u64 0, Value.int .u32 0, Value.int .u8 0, Value.int .u8 0, Value.int .u8 0, Value.int .u8 0, Value.nilFunc, Value.pointer none, Value.int .i32 0, Value.int .i32 0]⟩),
  (74, ⟨.struct [(0, 27, 1, false), (1, 9, 1, false)], 2, 40, [Value.slice none 0 0, Value.string ByteArray.empty]⟩),
  (75, ⟨.struct [(0, 27, 1, false), (1, 9, 1, false)], 2, 40, [Value.slice none 0 0, Value.string ByteArray.empty]⟩),
  (76, ⟨.struct [(0, 9, 1, false), (1, 3, 1, false)], 2, 24, [Value.string ByteArray.empty, Value.int .i64 0]⟩),
  (77, ⟨.struct [(0, 9, 1, false), (1, 3, 1, false)], 2, 24, [Value.string ByteArray.empty, Value.int .i64 0]⟩)]

def glob : Aw.Gl := [(0, [Value.int .i64 0, Value.int .i64 0, Value.int .i64 0, Value.int .i64 0, Value.int .i64 0, Value.int .i64 0, Value.int .i64 0, Value.int .i64 3, Value.int .i64 2, Value.int .i64 2, Value.int .i64 1, Value.int .i64 2, Value.int .i64 2, Value.int .i64 2, Value.int .i64 2, Value.int .i64 2, Value.int .i64 2, Value.int .i64 2, Value.int .i64 2, Value.int .i64 1, Value.int .i64 2, Value.int .i64 1, Value.int .i64 1, Value.int .i64 (-1), Value.int .i64 (-2), Value.int .i64 (-1), Value.int .i64 2, Value.int .i64 1, Value.int .i64 3, Value.int .i64 1, Value.int .i64 1, Value.int .i64 1, Value.int .i64 1, Value.int .i64 1, Value.int .i64 1, Value.int .i64 1, Value.int .i64 1, Value.int .i64 1])]

set_option maxRecDepth 100000 in
theorem tab_ok : Aw.TabOk Tryd.prog tab := Aw.tabOk_of (by kernel_rfl)

noncomputable def env : Aw.Env := { P := Tryd.prog, G := glob, T := tab, tok := tab_ok }

theorem mixed : env.toCx.P.follows .mixedOrders = true := by kernel_rfl

end Go.Proofs.YtkbjckcclfceoaaDoor

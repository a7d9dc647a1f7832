/- Texts merged by program, in build order. -/
import Derived.Test.YtkdfinfdocdpoaaGreatDoorMA
import Derived.Test.YtkdfinfdocdpoaaGreatDoorProg
import Derived.KernelRfl
section
/- The types of this seat, by program (gen_ty.py). -/
namespace Go.Proofs.YtkdfinfdocdpoaaGreatDoor
open Go Go.AM
/- int64 -/
def ty2 : TyI := ⟨.int .i64, 1, 8, [.v (.int .i64 0)]⟩
theorem ty2_ok : TyOK Tryz.prog 2 ty2 := TyOK.mk' (z := .int .i64 0) (by kernel_rfl) Tryz.underlying2 rfl rfl ⟨z_v _ rfl, trivial⟩
/- int -/
def ty3 : TyI := ⟨.int .i64, 1, 8, [.v (.int .i64 0)]⟩
theorem ty3_ok : TyOK Tryz.prog 3 ty3 := TyOK.mk' (z := .int .i64 0) (by kernel_rfl) Tryz.underlying3 rfl rfl ⟨z_v _ rfl, trivial⟩
/- bool -/
def ty4 : TyI := ⟨.bool, 1, 1, [.v (.bool false)]⟩
theorem ty4_ok : TyOK Tryz.prog 4 ty4 := TyOK.mk' (z := .bool false) (by kernel_rfl) Tryz.underlying4 trivial rfl ⟨z_v _ rfl, trivial⟩
/- uint8 -/
def ty5 : TyI := ⟨.int .u8, 1, 1, [.v (.int .u8 0)]⟩
theorem ty5_ok : TyOK Tryz.prog 5 ty5 := TyOK.mk' (z := .int .u8 0) (by kernel_rfl) Tryz.underlying5 rfl rfl ⟨z_v _ rfl, trivial⟩
/- string -/
def ty9 : TyI := ⟨.str, 1, 16, [.v (.string ⟨#[]⟩)]⟩
theorem ty9_ok : TyOK Tryz.prog 9 ty9 := TyOK.mk' (z := .string ⟨#[]⟩) (by kernel_rfl) Tryz.underlying9 trivial rfl ⟨z_v _ rfl, trivial⟩
/- uintptr -/
def ty12 : TyI := ⟨.int .u64, 1, 8, [.v (.int .u64 0)]⟩
theorem ty12_ok : TyOK Tryz.prog 12 ty12 := TyOK.mk' (z := .int .u64 0) (by kernel_rfl) Tryz.underlying12 rfl rfl ⟨z_v _ rfl, trivial⟩
/- int32 -/
def ty21 : TyI := ⟨.int .i32, 1, 4, [.v (.int .i32 0)]⟩
theorem ty21_ok : TyOK Tryz.prog 21 ty21 := TyOK.mk' (z := .int .i32 0) (by kernel_rfl) Tryz.underlying21 rfl rfl ⟨z_v _ rfl, trivial⟩
/- uint16 -/
def ty22 : TyI := ⟨.int .u16, 1, 2, [.v (.int .u16 0)]⟩
theorem ty22_ok : TyOK Tryz.prog 22 ty22 := TyOK.mk' (z := .int .u16 0) (by kernel_rfl) Tryz.underlying22 rfl rfl ⟨z_v _ rfl, trivial⟩
/- []uint32 -/
def ty23 : TyI := ⟨.sl 94, 1, 24, [.sl 0 []]⟩
theorem ty23_ok : TyOK Tryz.prog 23 ty23 := TyOK.mk' (z := .slice none 0 0) (by kernel_rfl) Tryz.underlying23 rfl rfl ⟨z_sl, trivial⟩
/- struct { Neg bool; L []uint32 } -/
def ty24 : TyI := ⟨.st [(0, 4), (1, 23)], 2, 32, [.v (.bool false), .sl 0 []]⟩
theorem ty24_ok : TyOK Tryz.prog 24 ty24 := TyOK.mk' (z := .agg #[.bool false, .slice none 0 0]) (by kernel_rfl) Tryz.underlying24 rfl rfl ⟨z_v _ rfl, z_sl, trivial⟩
/- algoristref01.Raw -/
def ty25 : TyI := ⟨.st [(0, 4), (1, 23)], 2, 32, [.v (.bool false), .sl 0 []]⟩
theorem ty25_ok : TyOK Tryz.prog 25 ty25 := TyOK.mk' (z := .agg #[.bool false, .slice none 0 0]) (by kernel_rfl) Tryz.underlying25 rfl rfl ⟨z_v _ rfl, z_sl, trivial⟩
/- struct { Neg bool; Mag []uint32 } -/
def ty27 : TyI := ⟨.st [(0, 4), (1, 23)], 2, 32, [.v (.bool false), .sl 0 []]⟩
theorem ty27_ok : TyOK Tryz.prog 27 ty27 := TyOK.mk' (z := .agg #[.bool false, .slice none 0 0]) (by kernel_rfl) Tryz.underlying27 rfl rfl ⟨z_v _ rfl, z_sl, trivial⟩
/- api.Int -/
def ty28 : TyI := ⟨.st [(0, 4), (1, 23)], 2, 32, [zn 0, zm 0]⟩
theorem ty28_ok : TyOK Tryz.prog 28 ty28 := TyOK.mk' (z := .agg #[.bool false, .slice none 0 0]) (by kernel_rfl) Tryz.underlying28 rfl rfl ⟨z_zn, z_zm, trivial⟩
/- []api.Int -/
def ty31 : TyI := ⟨.sl 28, 1, 24, [.sl 0 []]⟩
theorem ty31_ok : TyOK Tryz.prog 31 ty31 := TyOK.mk' (z := .slice none 0 0) (by kernel_rfl) Tryz.underlying31 rfl rfl ⟨z_sl, trivial⟩
/- []api.Form -/
def ty33 : TyI := ⟨.sl 49, 1, 24, [.sl 0 []]⟩
theorem ty33_ok : TyOK Tryz.prog 33 ty33 := TyOK.mk' (z := .slice none 0 0) (by kernel_rfl) Tryz.underlying33 rfl rfl ⟨z_sl, trivial⟩
/- api.Errno -/
def ty34 : TyI := ⟨.int .i64, 1, 8, [.v (.int .i64 0)]⟩
theorem ty34_ok : TyOK Tryz.prog 34 ty34 := TyOK.mk' (z := .int .i64 0) (by kernel_rfl) Tryz.underlying34 rfl rfl ⟨z_v _ rfl, trivial⟩
/- struct { A api.Int; B api.Int; C api.Int } -/
def ty48 : TyI := ⟨.st [(0, 28), (2, 28), (4, 28)], 6, 96, [zn 0, zm 0, zn 0, zm 0, zn 0, zm 0]⟩
theorem ty48_ok : TyOK Tryz.prog 48 ty48 := TyOK.mk' (z := .agg #[.bool false, .slice none 0 0, .bool false, .slice none 0 0, .bool false, .slice none 0 0]) (by kernel_rfl) Tryz.underlying48 rfl rfl ⟨z_zn, z_zm, z_zn, z_zm, z_zn, z_zm, trivial⟩
/- api.Form -/
def ty49 : TyI := ⟨.st [(0, 28), (2, 28), (4, 28)], 6, 96, [zn 0, zm 0, zn 0, zm 0, zn 0, zm 0]⟩
theorem ty49_ok : TyOK Tryz.prog 49 ty49 := TyOK.mk' (z := .agg #[.bool false, .slice none 0 0, .bool false, .slice none 0 0, .bool false, .slice none 0 0]) (by kernel_rfl) Tryz.underlying49 rfl rfl ⟨z_zn, z_zm, z_zn, z_zm, z_zn, z_zm, trivial⟩
/- [4]uint16 -/
def ty54 : TyI := ⟨.ar 4 22, 4, 8, [.v (.int .u16 0), .v (.int .u16 0), .v (.int .u16 0), .v (.int .u16 0)]⟩
theorem ty54_ok : TyOK Tryz.prog 54 ty54 := TyOK.mk' (z := .agg #[.int .u16 0, .int .u16 0, .int .u16 0, .int .u16 0]) (by kernel_rfl) Tryz.underlying54 ⟨rfl, rfl⟩ rfl ⟨z_v _ rfl, z_v _ rfl, z_v _ rfl, z_v _ rfl, trivial⟩
/- [4]uint8 -/
def ty55 : TyI := ⟨.ar 4 5, 4, 4, [.v (.int .u8 0), .v (.int .u8 0), .v (.int .u8 0), .v (.int .u8 0)]⟩
theorem ty55_ok : TyOK Tryz.prog 55 ty55 := TyOK.mk' (z := .agg #[.int .u8 0, .int .u8 0, .int .u8 0, .int .u8 0]) (by kernel_rfl) Tryz.underlying55 ⟨rfl, rfl⟩ rfl ⟨z_v _ rfl, z_v _ rfl, z_v _ rfl, z_v _ rfl, trivial⟩
/- struct { D uint16; I [4]uint16; M [4]uint8 } -/
def ty56 : TyI := ⟨.st [(0, 22), (1, 54), (5, 55)], 9, 14, [.v (.int .u16 0), .v (.int .u16 0), .v (.int .u16 0), .v (.int .u16 0), .v (.int .u16 0), .v (.int .u8 0), .v (.int .u8 0), .v (.int .u8 0), .v (.int .u8 0)]⟩
theorem ty56_ok : TyOK Tryz.prog 56 ty56 := TyOK.mk' (z := .agg #[.int .u16 0, .int .u16 0, .int .u16 0, .int .u16 0, .int .u16 0, .int .u8 0, .int .u8 0, .int .u8 0, .int .u8 0]) (by kernel_rfl) Tryz.underlying56 rfl rfl ⟨z_v _ rfl, z_v _ rfl, z_v _ rfl, z_v _ rfl, z_v _ rfl, z_v _ rfl, z_v _ rfl, z_v _ rfl, z_v _ rfl, trivial⟩
/- algoristref08.Raw -/
def ty57 : TyI := ⟨.st [(0, 22), (1, 54), (5, 55)], 9, 14, [.v (.int .u16 0), .v (.int .u16 0), .v (.int .u16 0), .v (.int .u16 0), .v (.int .u16 0), .v (.int .u8 0), .v (.int .u8 0), .v (.int .u8 0), .v (.int .u8 0)]⟩
theorem ty57_ok : TyOK Tryz.prog 57 ty57 := TyOK.mk' (z := .agg #[.int .u16 0, .int .u16 0, .int .u16 0, .int .u16 0, .int .u16 0, .int .u8 0, .int .u8 0, .int .u8 0, .int .u8 0]) (by kernel_rfl) Tryz.underlying57 rfl rfl ⟨z_v _ rfl, z_v _ rfl, z_v _ rfl, z_v _ rfl, z_v _ rfl, z_v _ rfl, z_v _ rfl, z_v _ rfl, z_v _ rfl, trivial⟩
/- struct { A api.Int; B api.Int; C api.Int; D api.Int } -/
def ty61 : TyI := ⟨.st [(0, 28), (2, 28), (4, 28), (6, 28)], 8, 128, [zn 0, zm 0, zn 0, zm 0, zn 0, zm 0, zn 0, zm 0]⟩
theorem ty61_ok : TyOK Tryz.prog 61 ty61 := TyOK.mk' (z := .agg #[.bool false, .slice none 0 0, .bool false, .slice none 0 0, .bool false, .slice none 0 0, .bool false, .slice none 0 0]) (by kernel_rfl) Tryz.underlying61 rfl rfl ⟨z_zn, z_zm, z_zn, z_zm, z_zn, z_zm, z_zn, z_zm, trivial⟩
/- api.Mat -/
def ty62 : TyI := ⟨.st [(0, 28), (2, 28), (4, 28), (6, 28)], 8, 128, [zn 0, zm 0, zn 0, zm 0, zn 0, zm 0, zn 0, zm 0]⟩
theorem ty62_ok : TyOK Tryz.prog 62 ty62 := TyOK.mk' (z := .agg #[.bool false, .slice none 0 0, .bool false, .slice none 0 0, .bool false, .slice none 0 0, .bool false, .slice none 0 0]) (by kernel_rfl) Tryz.underlying62 rfl rfl ⟨z_zn, z_zm, z_zn, z_zm, z_zn, z_zm, z_zn, z_zm, trivial⟩
/- struct { a int64; b int64; c int64 } -/
def ty83 : TyI := ⟨.st [(0, 2), (1, 2), (2, 2)], 3, 24, [.v (.int .i64 0), .v (.int .i64 0), .v (.int .i64 0)]⟩
theorem ty83_ok : TyOK Tryz.prog 83 ty83 := TyOK.mk' (z := .agg #[.int .i64 0, .int .i64 0, .int .i64 0]) (by kernel_rfl) Tryz.underlying83 rfl rfl ⟨z_v _ rfl, z_v _ rfl, z_v _ rfl, trivial⟩
/- count.triple -/
def ty84 : TyI := ⟨.st [(0, 2), (1, 2), (2, 2)], 3, 24, [.v (.int .i64 0), .v (.int .i64 0), .v (.int .i64 0)]⟩
theorem ty84_ok : TyOK Tryz.prog 84 ty84 := TyOK.mk' (z := .agg #[.int .i64 0, .int .i64 0, .int .i64 0]) (by kernel_rfl) Tryz.underlying84 rfl rfl ⟨z_v _ rfl, z_v _ rfl, z_v _ rfl, trivial⟩
/- uint64 -/
def ty93 : TyI := ⟨.int .u64, 1, 8, [.v (.int .u64 0)]⟩
theorem ty93_ok : TyOK Tryz.prog 93 ty93 := TyOK.mk' (z := .int .u64 0) (by kernel_rfl) Tryz.underlying93 rfl rfl ⟨z_v _ rfl, trivial⟩
/- uint32 -/
def ty94 : TyI := ⟨.int .u32, 1, 4, [.v (.int .u32 0)]⟩
theorem ty94_ok : TyOK Tryz.prog 94 ty94 := TyOK.mk' (z := .int .u32 0) (by kernel_rfl) Tryz.underlying94 rfl rfl ⟨z_v _ rfl, trivial⟩
/- uint -/
def ty95 : TyI := ⟨.int .u64, 1, 8, [.v (.int .u64 0)]⟩
theorem ty95_ok : TyOK Tryz.prog 95 ty95 := TyOK.mk' (z := .int .u64 0) (by kernel_rfl) Tryz.underlying95 rfl rfl ⟨z_v _ rfl, trivial⟩
/- *quadratic.reduction -/
def ty96 : TyI := ⟨.pt 98, 1, 8, [.v (.pointer none)]⟩
theorem ty96_ok : TyOK Tryz.prog 96 ty96 := TyOK.mk' (z := .pointer none) (by kernel_rfl) Tryz.underlying96 rfl rfl ⟨z_v _ rfl, trivial⟩
/- struct { api.Form; m api.Mat } -/
def ty97 : TyI := ⟨.st [(0, 49), (6, 62)], 14, 224, [zn 0, zm 0, zn 0, zm 0, zn 0, zm 0, zn 0, zm 0, zn 0, zm 0, zn 0, zm 0, zn 0, zm 0]⟩
theorem ty97_ok : TyOK Tryz.prog 97 ty97 := TyOK.mk' (z := .agg #[.bool false, .slice none 0 0, .bool false, .slice none 0 0, .bool false, .slice none 0 0, .bool false, .slice none 0 0, .bool false, .slice none 0 0, .bool false, .slice none 0 0, .bool false, .slice none 0 0]) (by kernel_rfl) Tryz.underlying97 rfl rfl ⟨z_zn, z_zm, z_zn, z_zm, z_zn, z_zm, z_zn, z_zm, z_zn, z_zm, z_zn, z_zm, z_zn, z_zm, trivial⟩
/- quadratic.reduction -/
def ty98 : TyI := ⟨.st [(0, 49), (6, 62)], 14, 224, [zn 0, zm 0, zn 0, zm 0, zn 0, zm 0, zn 0, zm 0, zn 0, zm 0, zn 0, zm 0, zn 0, zm 0]⟩
theorem ty98_ok : TyOK Tryz.prog 98 ty98 := TyOK.mk' (z := .agg #[.bool false, .slice none 0 0, .bool false, .slice none 0 0, .bool false, .slice none 0 0, .bool false, .slice none 0 0, .bool false, .slice none 0 0, .bool false, .slice none 0 0, .bool false, .slice none 0 0]) (by kernel_rfl) Tryz.underlying98 rfl rfl ⟨z_zn, z_zm, z_zn, z_zm, z_zn, z_zm, z_zn, z_zm, z_zn, z_zm, z_zn, z_zm, z_zn, z_zm, trivial⟩
/- [3]api.Int -/
def ty111 : TyI := ⟨.ar 3 28, 6, 96, [zn 0, zm 0, zn 0, zm 0, zn 0, zm 0]⟩
theorem ty111_ok : TyOK Tryz.prog 111 ty111 := TyOK.mk' (z := .agg #[.bool false, .slice none 0 0, .bool false, .slice none 0 0, .bool false, .slice none 0 0]) (by kernel_rfl) Tryz.underlying111 ⟨rfl, rfl⟩ rfl ⟨z_zn, z_zm, z_zn, z_zm, z_zn, z_zm, trivial⟩
/- integer.nat -/
def ty113 : TyI := ⟨.sl 94, 1, 24, [.sl 0 []]⟩
theorem ty113_ok : TyOK Tryz.prog 113 ty113 := TyOK.mk' (z := .slice none 0 0) (by kernel_rfl) Tryz.underlying113 rfl rfl ⟨z_sl, trivial⟩
/- [8]int -/
def ty126 : TyI := ⟨.ar 8 3, 8, 64, [.v (.int .i64 0), .v (.int .i64 0), .v (.int .i64 0), .v (.int .i64 0), .v (.int .i64 0), .v (.int .i64 0), .v (.int .i64 0), .v (.int .i64 0)]⟩
theorem ty126_ok : TyOK Tryz.prog 126 ty126 := TyOK.mk' (z := .agg #[.int .i64 0, .int .i64 0, .int .i64 0, .int .i64 0, .int .i64 0, .int .i64 0, .int .i64 0, .int .i64 0]) (by kernel_rfl) Tryz.underlying126 ⟨rfl, rfl⟩ rfl ⟨z_v _ rfl, z_v _ rfl, z_v _ rfl, z_v _ rfl, z_v _ rfl, z_v _ rfl, z_v _ rfl, z_v _ rfl, trivial⟩
/- []int -/
def ty131 : TyI := ⟨.sl 3, 1, 24, [.sl 0 []]⟩
theorem ty131_ok : TyOK Tryz.prog 131 ty131 := TyOK.mk' (z := .slice none 0 0) (by kernel_rfl) Tryz.underlying131 rfl rfl ⟨z_sl, trivial⟩
/- [2]api.Int -/
def ty140 : TyI := ⟨.ar 2 28, 4, 64, [zn 0, zm 0, zn 0, zm 0]⟩
theorem ty140_ok : TyOK Tryz.prog 140 ty140 := TyOK.mk' (z := .agg #[.bool false, .slice none 0 0, .bool false, .slice none 0 0]) (by kernel_rfl) Tryz.underlying140 ⟨rfl, rfl⟩ rfl ⟨z_zn, z_zm, z_zn, z_zm, trivial⟩
/- [2][2]api.Int -/
def ty141 : TyI := ⟨.ar 2 140, 8, 128, [zn 0, zm 0, zn 0, zm 0, zn 0, zm 0, zn 0, zm 0]⟩
theorem ty141_ok : TyOK Tryz.prog 141 ty141 := TyOK.mk' (z := .agg #[.bool false, .slice none 0 0, .bool false, .slice none 0 0, .bool false, .slice none 0 0, .bool false, .slice none 0 0]) (by kernel_rfl) Tryz.underlying141 ⟨rfl, rfl⟩ rfl ⟨z_zn, z_zm, z_zn, z_zm, z_zn, z_zm, z_zn, z_zm, trivial⟩
/- struct { Q []uint32; R []uint32 } -/
def ty143 : TyI := ⟨.st [(0, 23), (1, 23)], 2, 48, [.sl 0 [], .sl 0 []]⟩
theorem ty143_ok : TyOK Tryz.prog 143 ty143 := TyOK.mk' (z := .agg #[.slice none 0 0, .slice none 0 0]) (by kernel_rfl) Tryz.underlying143 rfl rfl ⟨z_sl, z_sl, trivial⟩
/- algoristref01.quotient -/
def ty144 : TyI := ⟨.st [(0, 23), (1, 23)], 2, 48, [.sl 0 [], .sl 0 []]⟩
theorem ty144_ok : TyOK Tryz.prog 144 ty144 := TyOK.mk' (z := .agg #[.slice none 0 0, .slice none 0 0]) (by kernel_rfl) Tryz.underlying144 rfl rfl ⟨z_sl, z_sl, trivial⟩
/- *uint8 -/
def ty166 : TyI := ⟨.pt 5, 1, 8, [.v (.pointer none)]⟩
theorem ty166_ok : TyOK Tryz.prog 166 ty166 := TyOK.mk' (z := .pointer none) (by kernel_rfl) Tryz.underlying166 rfl rfl ⟨z_v _ rfl, trivial⟩
/- struct { s string } -/
def ty171 : TyI := ⟨.st [(0, 9)], 1, 16, [.v (.string ⟨#[]⟩)]⟩
theorem ty171_ok : TyOK Tryz.prog 171 ty171 := TyOK.mk' (z := .agg #[.string ⟨#[]⟩]) (by kernel_rfl) Tryz.underlying171 rfl rfl ⟨z_v _ rfl, trivial⟩
/- func(api.Form) bool -/
def ty47 : TyI := ⟨.ot, 1, 8, [.v (.nilFunc)]⟩
theorem ty47_ok : TyOK Tryz.prog 47 ty47 := TyOK.mk' (z := .nilFunc) (by kernel_rfl) Tryz.underlying47 trivial rfl ⟨z_v _ rfl, trivial⟩
def tt : TT := findT [(2, ty2), (3, ty3), (4, ty4), (5, ty5), (9, ty9), (12, ty12), (21, ty21), (22, ty22), (23, ty23), (24, ty24), (25, ty25), (27, ty27), (28, ty28), (31, ty31), (33, ty33), (34, ty34), (48, ty48), (49, ty49), (54, ty54), (55, ty55), (56, ty56), (57, ty57), (61, ty61), (62, ty62), (83, ty83), (84, ty84), (93, ty93), (94, ty94), (95, ty95), (96, ty96), (97, ty97), (98, ty98), (111, ty111), (113, ty113), (126, ty126), (131, ty131), (140, ty140), (141, ty141), (143, ty143), (144, ty144), (166, ty166), (171, ty171), (47, ty47)]
theorem hT : TTok Tryz.prog tt := AllT.ok ⟨ty2_ok, ty3_ok, ty4_ok, ty5_ok, ty9_ok, ty12_ok, ty21_ok, ty22_ok, ty23_ok, ty24_ok, ty25_ok, ty27_ok, ty28_ok, ty31_ok, ty33_ok, ty34_ok, ty48_ok, ty49_ok, ty54_ok, ty55_ok, ty56_ok, ty57_ok, ty61_ok, ty62_ok, ty83_ok, ty84_ok, ty93_ok, ty94_ok, ty95_ok, ty96_ok, ty97_ok, ty98_ok, ty111_ok, ty113_ok, ty126_ok, ty131_ok, ty140_ok, ty141_ok, ty143_ok, ty144_ok, ty166_ok, ty171_ok, ty47_ok, trivial⟩
theorem hP : Tryz.prog.follows .mixedOrders = true := by kernel_rfl
end Go.Proofs.YtkdfinfdocdpoaaGreatDoor
end

/- Texts merged by program, in build order. -/
import Derived.Test.YtkdfinfdocdpoaaDoorMA
import Derived.Test.YtkdfinfdocdpoaaDoorProg
import Derived.KernelRfl
section
/- The types of this seat, by program (gen_ty.py). -/
namespace Go.Proofs.YtkdfinfdocdpoaaDoor
open Go Go.AM
/- int64 -/
def ty2 : TyI := ⟨.int .i64, 1, 8, [.v (.int .i64 0)]⟩
theorem ty2_ok : TyOK Tryd.prog 2 ty2 := TyOK.mk' (z := .int .i64 0) (by kernel_rfl) Tryd.underlying2 rfl rfl ⟨z_v _ rfl, trivial⟩
/- int -/
def ty3 : TyI := ⟨.int .i64, 1, 8, [.v (.int .i64 0)]⟩
theorem ty3_ok : TyOK Tryd.prog 3 ty3 := TyOK.mk' (z := .int .i64 0) (by kernel_rfl) Tryd.underlying3 rfl rfl ⟨z_v _ rfl, trivial⟩
/- bool -/
def ty4 : TyI := ⟨.bool, 1, 1, [.v (.bool false)]⟩
theorem ty4_ok : TyOK Tryd.prog 4 ty4 := TyOK.mk' (z := .bool false) (by kernel_rfl) Tryd.underlying4 trivial rfl ⟨z_v _ rfl, trivial⟩
/- uint8 -/
def ty5 : TyI := ⟨.int .u8, 1, 1, [.v (.int .u8 0)]⟩
theorem ty5_ok : TyOK Tryd.prog 5 ty5 := TyOK.mk' (z := .int .u8 0) (by kernel_rfl) Tryd.underlying5 rfl rfl ⟨z_v _ rfl, trivial⟩
/- string -/
def ty9 : TyI := ⟨.str, 1, 16, [.v (.string ⟨#[]⟩)]⟩
theorem ty9_ok : TyOK Tryd.prog 9 ty9 := TyOK.mk' (z := .string ⟨#[]⟩) (by kernel_rfl) Tryd.underlying9 trivial rfl ⟨z_v _ rfl, trivial⟩
/- uintptr -/
def ty12 : TyI := ⟨.int .u64, 1, 8, [.v (.int .u64 0)]⟩
theorem ty12_ok : TyOK Tryd.prog 12 ty12 := TyOK.mk' (z := .int .u64 0) (by kernel_rfl) Tryd.underlying12 rfl rfl ⟨z_v _ rfl, trivial⟩
/- int32 -/
def ty21 : TyI := ⟨.int .i32, 1, 4, [.v (.int .i32 0)]⟩
theorem ty21_ok : TyOK Tryd.prog 21 ty21 := TyOK.mk' (z := .int .i32 0) (by kernel_rfl) Tryd.underlying21 rfl rfl ⟨z_v _ rfl, trivial⟩
/- uint16 -/
def ty22 : TyI := ⟨.int .u16, 1, 2, [.v (.int .u16 0)]⟩
theorem ty22_ok : TyOK Tryd.prog 22 ty22 := TyOK.mk' (z := .int .u16 0) (by kernel_rfl) Tryd.underlying22 rfl rfl ⟨z_v _ rfl, trivial⟩
/- [4]uint16 -/
def ty25 : TyI := ⟨.ar 4 22, 4, 8, [.v (.int .u16 0), .v (.int .u16 0), .v (.int .u16 0), .v (.int .u16 0)]⟩
theorem ty25_ok : TyOK Tryd.prog 25 ty25 := TyOK.mk' (z := .agg #[.int .u16 0, .int .u16 0, .int .u16 0, .int .u16 0]) (by kernel_rfl) Tryd.underlying25 ⟨rfl, rfl⟩ rfl ⟨z_v _ rfl, z_v _ rfl, z_v _ rfl, z_v _ rfl, trivial⟩
/- [4]uint8 -/
def ty26 : TyI := ⟨.ar 4 5, 4, 4, [.v (.int .u8 0), .v (.int .u8 0), .v (.int .u8 0), .v (.int .u8 0)]⟩
theorem ty26_ok : TyOK Tryd.prog 26 ty26 := TyOK.mk' (z := .agg #[.int .u8 0, .int .u8 0, .int .u8 0, .int .u8 0]) (by kernel_rfl) Tryd.underlying26 ⟨rfl, rfl⟩ rfl ⟨z_v _ rfl, z_v _ rfl, z_v _ rfl, z_v _ rfl, trivial⟩
/- struct { D uint16; I [4]uint16; M [4]uint8 } -/
def ty27 : TyI := ⟨.st [(0, 22), (1, 25), (5, 26)], 9, 14, [.v (.int .u16 0), .v (.int .u16 0), .v (.int .u16 0), .v (.int .u16 0), .v (.int .u16 0), .v (.int .u8 0), .v (.int .u8 0), .v (.int .u8 0), .v (.int .u8 0)]⟩
theorem ty27_ok : TyOK Tryd.prog 27 ty27 := TyOK.mk' (z := .agg #[.int .u16 0, .int .u16 0, .int .u16 0, .int .u16 0, .int .u16 0, .int .u8 0, .int .u8 0, .int .u8 0, .int .u8 0]) (by kernel_rfl) Tryd.underlying27 rfl rfl ⟨z_v _ rfl, z_v _ rfl, z_v _ rfl, z_v _ rfl, z_v _ rfl, z_v _ rfl, z_v _ rfl, z_v _ rfl, z_v _ rfl, trivial⟩
/- algoristref08.Raw -/
def ty28 : TyI := ⟨.st [(0, 22), (1, 25), (5, 26)], 9, 14, [.v (.int .u16 0), .v (.int .u16 0), .v (.int .u16 0), .v (.int .u16 0), .v (.int .u16 0), .v (.int .u8 0), .v (.int .u8 0), .v (.int .u8 0), .v (.int .u8 0)]⟩
theorem ty28_ok : TyOK Tryd.prog 28 ty28 := TyOK.mk' (z := .agg #[.int .u16 0, .int .u16 0, .int .u16 0, .int .u16 0, .int .u16 0, .int .u8 0, .int .u8 0, .int .u8 0, .int .u8 0]) (by kernel_rfl) Tryd.underlying28 rfl rfl ⟨z_v _ rfl, z_v _ rfl, z_v _ rfl, z_v _ rfl, z_v _ rfl, z_v _ rfl, z_v _ rfl, z_v _ rfl, z_v _ rfl, trivial⟩
/- []api.Form -/
def ty29 : TyI := ⟨.sl 41, 1, 24, [.sl 0 []]⟩
theorem ty29_ok : TyOK Tryd.prog 29 ty29 := TyOK.mk' (z := .slice none 0 0) (by kernel_rfl) Tryd.underlying29 rfl rfl ⟨z_sl, trivial⟩
/- api.Errno -/
def ty30 : TyI := ⟨.int .i64, 1, 8, [.v (.int .i64 0)]⟩
theorem ty30_ok : TyOK Tryd.prog 30 ty30 := TyOK.mk' (z := .int .i64 0) (by kernel_rfl) Tryd.underlying30 rfl rfl ⟨z_v _ rfl, trivial⟩
/- []uint32 -/
def ty33 : TyI := ⟨.sl 70, 1, 24, [.sl 0 []]⟩
theorem ty33_ok : TyOK Tryd.prog 33 ty33 := TyOK.mk' (z := .slice none 0 0) (by kernel_rfl) Tryd.underlying33 rfl rfl ⟨z_sl, trivial⟩
/- struct { Neg bool; Mag []uint32 } -/
def ty34 : TyI := ⟨.st [(0, 4), (1, 33)], 2, 32, [.v (.bool false), .sl 0 []]⟩
theorem ty34_ok : TyOK Tryd.prog 34 ty34 := TyOK.mk' (z := .agg #[.bool false, .slice none 0 0]) (by kernel_rfl) Tryd.underlying34 rfl rfl ⟨z_v _ rfl, z_sl, trivial⟩
/- api.Int -/
def ty35 : TyI := ⟨.st [(0, 4), (1, 33)], 2, 32, [zn 0, zm 0]⟩
theorem ty35_ok : TyOK Tryd.prog 35 ty35 := TyOK.mk' (z := .agg #[.bool false, .slice none 0 0]) (by kernel_rfl) Tryd.underlying35 rfl rfl ⟨z_zn, z_zm, trivial⟩
/- struct { A api.Int; B api.Int; C api.Int } -/
def ty40 : TyI := ⟨.st [(0, 35), (2, 35), (4, 35)], 6, 96, [zn 0, zm 0, zn 0, zm 0, zn 0, zm 0]⟩
theorem ty40_ok : TyOK Tryd.prog 40 ty40 := TyOK.mk' (z := .agg #[.bool false, .slice none 0 0, .bool false, .slice none 0 0, .bool false, .slice none 0 0]) (by kernel_rfl) Tryd.underlying40 rfl rfl ⟨z_zn, z_zm, z_zn, z_zm, z_zn, z_zm, trivial⟩
/- api.Form -/
def ty41 : TyI := ⟨.st [(0, 35), (2, 35), (4, 35)], 6, 96, [zn 0, zm 0, zn 0, zm 0, zn 0, zm 0]⟩
theorem ty41_ok : TyOK Tryd.prog 41 ty41 := TyOK.mk' (z := .agg #[.bool false, .slice none 0 0, .bool false, .slice none 0 0, .bool false, .slice none 0 0]) (by kernel_rfl) Tryd.underlying41 rfl rfl ⟨z_zn, z_zm, z_zn, z_zm, z_zn, z_zm, trivial⟩
/- []int64 -/
def ty43 : TyI := ⟨.sl 2, 1, 24, [.sl 0 []]⟩
theorem ty43_ok : TyOK Tryd.prog 43 ty43 := TyOK.mk' (z := .slice none 0 0) (by kernel_rfl) Tryd.underlying43 rfl rfl ⟨z_sl, trivial⟩
/- struct { Neg bool; L []uint32 } -/
def ty59 : TyI := ⟨.st [(0, 4), (1, 33)], 2, 32, [.v (.bool false), .sl 0 []]⟩
theorem ty59_ok : TyOK Tryd.prog 59 ty59 := TyOK.mk' (z := .agg #[.bool false, .slice none 0 0]) (by kernel_rfl) Tryd.underlying59 rfl rfl ⟨z_v _ rfl, z_sl, trivial⟩
/- algoristref01.Raw -/
def ty60 : TyI := ⟨.st [(0, 4), (1, 33)], 2, 32, [.v (.bool false), .sl 0 []]⟩
theorem ty60_ok : TyOK Tryd.prog 60 ty60 := TyOK.mk' (z := .agg #[.bool false, .slice none 0 0]) (by kernel_rfl) Tryd.underlying60 rfl rfl ⟨z_v _ rfl, z_sl, trivial⟩
/- uint64 -/
def ty68 : TyI := ⟨.int .u64, 1, 8, [.v (.int .u64 0)]⟩
theorem ty68_ok : TyOK Tryd.prog 68 ty68 := TyOK.mk' (z := .int .u64 0) (by kernel_rfl) Tryd.underlying68 rfl rfl ⟨z_v _ rfl, trivial⟩
/- uint32 -/
def ty70 : TyI := ⟨.int .u32, 1, 4, [.v (.int .u32 0)]⟩
theorem ty70_ok : TyOK Tryd.prog 70 ty70 := TyOK.mk' (z := .int .u32 0) (by kernel_rfl) Tryd.underlying70 rfl rfl ⟨z_v _ rfl, trivial⟩
/- uint -/
def ty71 : TyI := ⟨.int .u64, 1, 8, [.v (.int .u64 0)]⟩
theorem ty71_ok : TyOK Tryd.prog 71 ty71 := TyOK.mk' (z := .int .u64 0) (by kernel_rfl) Tryd.underlying71 rfl rfl ⟨z_v _ rfl, trivial⟩
/- struct { a int64; b int64; c int64 } -/
def ty81 : TyI := ⟨.st [(0, 2), (1, 2), (2, 2)], 3, 24, [.v (.int .i64 0), .v (.int .i64 0), .v (.int .i64 0)]⟩
theorem ty81_ok : TyOK Tryd.prog 81 ty81 := TyOK.mk' (z := .agg #[.int .i64 0, .int .i64 0, .int .i64 0]) (by kernel_rfl) Tryd.underlying81 rfl rfl ⟨z_v _ rfl, z_v _ rfl, z_v _ rfl, trivial⟩
/- count.triple -/
def ty82 : TyI := ⟨.st [(0, 2), (1, 2), (2, 2)], 3, 24, [.v (.int .i64 0), .v (.int .i64 0), .v (.int .i64 0)]⟩
theorem ty82_ok : TyOK Tryd.prog 82 ty82 := TyOK.mk' (z := .agg #[.int .i64 0, .int .i64 0, .int .i64 0]) (by kernel_rfl) Tryd.underlying82 rfl rfl ⟨z_v _ rfl, z_v _ rfl, z_v _ rfl, trivial⟩
/- [8]int -/
def ty88 : TyI := ⟨.ar 8 3, 8, 64, [.v (.int .i64 0), .v (.int .i64 0), .v (.int .i64 0), .v (.int .i64 0), .v (.int .i64 0), .v (.int .i64 0), .v (.int .i64 0), .v (.int .i64 0)]⟩
theorem ty88_ok : TyOK Tryd.prog 88 ty88 := TyOK.mk' (z := .agg #[.int .i64 0, .int .i64 0, .int .i64 0, .int .i64 0, .int .i64 0, .int .i64 0, .int .i64 0, .int .i64 0]) (by kernel_rfl) Tryd.underlying88 ⟨rfl, rfl⟩ rfl ⟨z_v _ rfl, z_v _ rfl, z_v _ rfl, z_v _ rfl, z_v _ rfl, z_v _ rfl, z_v _ rfl, z_v _ rfl, trivial⟩
/- integer.nat -/
def ty94 : TyI := ⟨.sl 70, 1, 24, [.sl 0 []]⟩
theorem ty94_ok : TyOK Tryd.prog 94 ty94 := TyOK.mk' (z := .slice none 0 0) (by kernel_rfl) Tryd.underlying94 rfl rfl ⟨z_sl, trivial⟩
/- struct { Q []uint32; R []uint32 } -/
def ty101 : TyI := ⟨.st [(0, 33), (1, 33)], 2, 48, [.sl 0 [], .sl 0 []]⟩
theorem ty101_ok : TyOK Tryd.prog 101 ty101 := TyOK.mk' (z := .agg #[.slice none 0 0, .slice none 0 0]) (by kernel_rfl) Tryd.underlying101 rfl rfl ⟨z_sl, z_sl, trivial⟩
/- algoristref01.quotient -/
def ty102 : TyI := ⟨.st [(0, 33), (1, 33)], 2, 48, [.sl 0 [], .sl 0 []]⟩
theorem ty102_ok : TyOK Tryd.prog 102 ty102 := TyOK.mk' (z := .agg #[.slice none 0 0, .slice none 0 0]) (by kernel_rfl) Tryd.underlying102 rfl rfl ⟨z_sl, z_sl, trivial⟩
/- []int -/
def ty117 : TyI := ⟨.sl 3, 1, 24, [.sl 0 []]⟩
theorem ty117_ok : TyOK Tryd.prog 117 ty117 := TyOK.mk' (z := .slice none 0 0) (by kernel_rfl) Tryd.underlying117 rfl rfl ⟨z_sl, trivial⟩
/- *uint8 -/
def ty138 : TyI := ⟨.pt 5, 1, 8, [.v (.pointer none)]⟩
theorem ty138_ok : TyOK Tryd.prog 138 ty138 := TyOK.mk' (z := .pointer none) (by kernel_rfl) Tryd.underlying138 rfl rfl ⟨z_v _ rfl, trivial⟩
/- struct { s string } -/
def ty143 : TyI := ⟨.st [(0, 9)], 1, 16, [.v (.string ⟨#[]⟩)]⟩
theorem ty143_ok : TyOK Tryd.prog 143 ty143 := TyOK.mk' (z := .agg #[.string ⟨#[]⟩]) (by kernel_rfl) Tryd.underlying143 rfl rfl ⟨z_v _ rfl, trivial⟩
/- func(api.Form) bool -/
def ty67 : TyI := ⟨.ot, 1, 8, [.v (.nilFunc)]⟩
theorem ty67_ok : TyOK Tryd.prog 67 ty67 := TyOK.mk' (z := .nilFunc) (by kernel_rfl) Tryd.underlying67 trivial rfl ⟨z_v _ rfl, trivial⟩
def tt : TT := findT [(2, ty2), (3, ty3), (4, ty4), (5, ty5), (9, ty9), (12, ty12), (21, ty21), (22, ty22), (25, ty25), (26, ty26), (27, ty27), (28, ty28), (29, ty29), (30, ty30), (33, ty33), (34, ty34), (35, ty35), (40, ty40), (41, ty41), (43, ty43), (59, ty59), (60, ty60), (68, ty68), (70, ty70), (71, ty71), (81, ty81), (82, ty82), (88, ty88), (94, ty94), (101, ty101), (102, ty102), (117, ty117), (138, ty138), (143, ty143), (67, ty67)]
theorem hT : TTok Tryd.prog tt := AllT.ok ⟨ty2_ok, ty3_ok, ty4_ok, ty5_ok, ty9_ok, ty12_ok, ty21_ok, ty22_ok, ty25_ok, ty26_ok, ty27_ok, ty28_ok, ty29_ok, ty30_ok, ty33_ok, ty34_ok, ty35_ok, ty40_ok, ty41_ok, ty43_ok, ty59_ok, ty60_ok, ty68_ok, ty70_ok, ty71_ok, ty81_ok, ty82_ok, ty88_ok, ty94_ok, ty101_ok, ty102_ok, ty117_ok, ty138_ok, ty143_ok, ty67_ok, trivial⟩
theorem hP : Tryd.prog.follows .mixedOrders = true := by kernel_rfl
end Go.Proofs.YtkdfinfdocdpoaaDoor
end

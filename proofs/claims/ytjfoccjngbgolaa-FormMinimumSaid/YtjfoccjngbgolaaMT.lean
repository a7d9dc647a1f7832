/- Texts merged by program, in build order. -/
import Derived.Test.YtjfoccjngbgolaaMA
import Derived.Test.YtjfoccjngbgolaaProg
import Derived.KernelRfl
section
/- The types of this seat, by program (gen_ty.py). -/
namespace Go.Proofs.Ytjfoccjngbgolaa
open Go Go.AM
/- int64 -/
def ty2 : TyI := ⟨.int .i64, 1, 8, [.v (.int .i64 0)]⟩
theorem ty2_ok : TyOK Try.prog 2 ty2 := TyOK.mk' (z := .int .i64 0) (by kernel_rfl) Try.underlying2 rfl rfl ⟨z_v _ rfl, trivial⟩
/- int -/
def ty3 : TyI := ⟨.int .i64, 1, 8, [.v (.int .i64 0)]⟩
theorem ty3_ok : TyOK Try.prog 3 ty3 := TyOK.mk' (z := .int .i64 0) (by kernel_rfl) Try.underlying3 rfl rfl ⟨z_v _ rfl, trivial⟩
/- bool -/
def ty4 : TyI := ⟨.bool, 1, 1, [.v (.bool false)]⟩
theorem ty4_ok : TyOK Try.prog 4 ty4 := TyOK.mk' (z := .bool false) (by kernel_rfl) Try.underlying4 trivial rfl ⟨z_v _ rfl, trivial⟩
/- uint8 -/
def ty5 : TyI := ⟨.int .u8, 1, 1, [.v (.int .u8 0)]⟩
theorem ty5_ok : TyOK Try.prog 5 ty5 := TyOK.mk' (z := .int .u8 0) (by kernel_rfl) Try.underlying5 rfl rfl ⟨z_v _ rfl, trivial⟩
/- string -/
def ty9 : TyI := ⟨.str, 1, 16, [.v (.string ⟨#[]⟩)]⟩
theorem ty9_ok : TyOK Try.prog 9 ty9 := TyOK.mk' (z := .string ⟨#[]⟩) (by kernel_rfl) Try.underlying9 trivial rfl ⟨z_v _ rfl, trivial⟩
/- uintptr -/
def ty12 : TyI := ⟨.int .u64, 1, 8, [.v (.int .u64 0)]⟩
theorem ty12_ok : TyOK Try.prog 12 ty12 := TyOK.mk' (z := .int .u64 0) (by kernel_rfl) Try.underlying12 rfl rfl ⟨z_v _ rfl, trivial⟩
/- int32 -/
def ty21 : TyI := ⟨.int .i32, 1, 4, [.v (.int .i32 0)]⟩
theorem ty21_ok : TyOK Try.prog 21 ty21 := TyOK.mk' (z := .int .i32 0) (by kernel_rfl) Try.underlying21 rfl rfl ⟨z_v _ rfl, trivial⟩
/- []uint32 -/
def ty22 : TyI := ⟨.sl 94, 1, 24, [.sl 0 []]⟩
theorem ty22_ok : TyOK Try.prog 22 ty22 := TyOK.mk' (z := .slice none 0 0) (by kernel_rfl) Try.underlying22 rfl rfl ⟨z_sl, trivial⟩
/- struct { Neg bool; L []uint32 } -/
def ty23 : TyI := ⟨.st [(0, 4), (1, 22)], 2, 32, [.v (.bool false), .sl 0 []]⟩
theorem ty23_ok : TyOK Try.prog 23 ty23 := TyOK.mk' (z := .agg #[.bool false, .slice none 0 0]) (by kernel_rfl) Try.underlying23 rfl rfl ⟨z_v _ rfl, z_sl, trivial⟩
/- algoristref01.Raw -/
def ty24 : TyI := ⟨.st [(0, 4), (1, 22)], 2, 32, [.v (.bool false), .sl 0 []]⟩
theorem ty24_ok : TyOK Try.prog 24 ty24 := TyOK.mk' (z := .agg #[.bool false, .slice none 0 0]) (by kernel_rfl) Try.underlying24 rfl rfl ⟨z_v _ rfl, z_sl, trivial⟩
/- [3]algoristref01.Raw -/
def ty25 : TyI := ⟨.ar 3 24, 6, 96, [.v (.bool false), .sl 0 [], .v (.bool false), .sl 0 [], .v (.bool false), .sl 0 []]⟩
theorem ty25_ok : TyOK Try.prog 25 ty25 := TyOK.mk' (z := .agg #[.bool false, .slice none 0 0, .bool false, .slice none 0 0, .bool false, .slice none 0 0]) (by kernel_rfl) Try.underlying25 ⟨rfl, rfl⟩ rfl ⟨z_v _ rfl, z_sl, z_v _ rfl, z_sl, z_v _ rfl, z_sl, trivial⟩
/- [4]algoristref01.Raw -/
def ty26 : TyI := ⟨.ar 4 24, 8, 128, [.v (.bool false), .sl 0 [], .v (.bool false), .sl 0 [], .v (.bool false), .sl 0 [], .v (.bool false), .sl 0 []]⟩
theorem ty26_ok : TyOK Try.prog 26 ty26 := TyOK.mk' (z := .agg #[.bool false, .slice none 0 0, .bool false, .slice none 0 0, .bool false, .slice none 0 0, .bool false, .slice none 0 0]) (by kernel_rfl) Try.underlying26 ⟨rfl, rfl⟩ rfl ⟨z_v _ rfl, z_sl, z_v _ rfl, z_sl, z_v _ rfl, z_sl, z_v _ rfl, z_sl, trivial⟩
/- struct { F [3]algoristref01.Raw; M [4]algoristref01.Raw } -/
def ty27 : TyI := ⟨.st [(0, 25), (6, 26)], 14, 224, [.v (.bool false), .sl 0 [], .v (.bool false), .sl 0 [], .v (.bool false), .sl 0 [], .v (.bool false), .sl 0 [], .v (.bool false), .sl 0 [], .v (.bool false), .sl 0 [], .v (.bool false), .sl 0 []]⟩
theorem ty27_ok : TyOK Try.prog 27 ty27 := TyOK.mk' (z := .agg #[.bool false, .slice none 0 0, .bool false, .slice none 0 0, .bool false, .slice none 0 0, .bool false, .slice none 0 0, .bool false, .slice none 0 0, .bool false, .slice none 0 0, .bool false, .slice none 0 0]) (by kernel_rfl) Try.underlying27 rfl rfl ⟨z_v _ rfl, z_sl, z_v _ rfl, z_sl, z_v _ rfl, z_sl, z_v _ rfl, z_sl, z_v _ rfl, z_sl, z_v _ rfl, z_sl, z_v _ rfl, z_sl, trivial⟩
/- algoristref08.Odd -/
def ty28 : TyI := ⟨.st [(0, 25), (6, 26)], 14, 224, [.v (.bool false), .sl 0 [], .v (.bool false), .sl 0 [], .v (.bool false), .sl 0 [], .v (.bool false), .sl 0 [], .v (.bool false), .sl 0 [], .v (.bool false), .sl 0 [], .v (.bool false), .sl 0 []]⟩
theorem ty28_ok : TyOK Try.prog 28 ty28 := TyOK.mk' (z := .agg #[.bool false, .slice none 0 0, .bool false, .slice none 0 0, .bool false, .slice none 0 0, .bool false, .slice none 0 0, .bool false, .slice none 0 0, .bool false, .slice none 0 0, .bool false, .slice none 0 0]) (by kernel_rfl) Try.underlying28 rfl rfl ⟨z_v _ rfl, z_sl, z_v _ rfl, z_sl, z_v _ rfl, z_sl, z_v _ rfl, z_sl, z_v _ rfl, z_sl, z_v _ rfl, z_sl, z_v _ rfl, z_sl, trivial⟩
/- struct { Neg bool; Mag []uint32 } -/
def ty30 : TyI := ⟨.st [(0, 4), (1, 22)], 2, 32, [.v (.bool false), .sl 0 []]⟩
theorem ty30_ok : TyOK Try.prog 30 ty30 := TyOK.mk' (z := .agg #[.bool false, .slice none 0 0]) (by kernel_rfl) Try.underlying30 rfl rfl ⟨z_v _ rfl, z_sl, trivial⟩
/- api.Int -/
def ty31 : TyI := ⟨.st [(0, 4), (1, 22)], 2, 32, [zn 0, zm 0]⟩
theorem ty31_ok : TyOK Try.prog 31 ty31 := TyOK.mk' (z := .agg #[.bool false, .slice none 0 0]) (by kernel_rfl) Try.underlying31 rfl rfl ⟨z_zn, z_zm, trivial⟩
/- struct { A api.Int; B api.Int; C api.Int } -/
def ty32 : TyI := ⟨.st [(0, 31), (2, 31), (4, 31)], 6, 96, [zn 0, zm 0, zn 0, zm 0, zn 0, zm 0]⟩
theorem ty32_ok : TyOK Try.prog 32 ty32 := TyOK.mk' (z := .agg #[.bool false, .slice none 0 0, .bool false, .slice none 0 0, .bool false, .slice none 0 0]) (by kernel_rfl) Try.underlying32 rfl rfl ⟨z_zn, z_zm, z_zn, z_zm, z_zn, z_zm, trivial⟩
/- api.Form -/
def ty33 : TyI := ⟨.st [(0, 31), (2, 31), (4, 31)], 6, 96, [zn 0, zm 0, zn 0, zm 0, zn 0, zm 0]⟩
theorem ty33_ok : TyOK Try.prog 33 ty33 := TyOK.mk' (z := .agg #[.bool false, .slice none 0 0, .bool false, .slice none 0 0, .bool false, .slice none 0 0]) (by kernel_rfl) Try.underlying33 rfl rfl ⟨z_zn, z_zm, z_zn, z_zm, z_zn, z_zm, trivial⟩
/- struct { A api.Int; B api.Int; C api.Int; D api.Int } -/
def ty35 : TyI := ⟨.st [(0, 31), (2, 31), (4, 31), (6, 31)], 8, 128, [zn 0, zm 0, zn 0, zm 0, zn 0, zm 0, zn 0, zm 0]⟩
theorem ty35_ok : TyOK Try.prog 35 ty35 := TyOK.mk' (z := .agg #[.bool false, .slice none 0 0, .bool false, .slice none 0 0, .bool false, .slice none 0 0, .bool false, .slice none 0 0]) (by kernel_rfl) Try.underlying35 rfl rfl ⟨z_zn, z_zm, z_zn, z_zm, z_zn, z_zm, z_zn, z_zm, trivial⟩
/- api.Mat -/
def ty36 : TyI := ⟨.st [(0, 31), (2, 31), (4, 31), (6, 31)], 8, 128, [zn 0, zm 0, zn 0, zm 0, zn 0, zm 0, zn 0, zm 0]⟩
theorem ty36_ok : TyOK Try.prog 36 ty36 := TyOK.mk' (z := .agg #[.bool false, .slice none 0 0, .bool false, .slice none 0 0, .bool false, .slice none 0 0, .bool false, .slice none 0 0]) (by kernel_rfl) Try.underlying36 rfl rfl ⟨z_zn, z_zm, z_zn, z_zm, z_zn, z_zm, z_zn, z_zm, trivial⟩
/- api.Errno -/
def ty37 : TyI := ⟨.int .i64, 1, 8, [.v (.int .i64 0)]⟩
theorem ty37_ok : TyOK Try.prog 37 ty37 := TyOK.mk' (z := .int .i64 0) (by kernel_rfl) Try.underlying37 rfl rfl ⟨z_v _ rfl, trivial⟩
/- uint16 -/
def ty48 : TyI := ⟨.int .u16, 1, 2, [.v (.int .u16 0)]⟩
theorem ty48_ok : TyOK Try.prog 48 ty48 := TyOK.mk' (z := .int .u16 0) (by kernel_rfl) Try.underlying48 rfl rfl ⟨z_v _ rfl, trivial⟩
/- [4]uint16 -/
def ty49 : TyI := ⟨.ar 4 48, 4, 8, [.v (.int .u16 0), .v (.int .u16 0), .v (.int .u16 0), .v (.int .u16 0)]⟩
theorem ty49_ok : TyOK Try.prog 49 ty49 := TyOK.mk' (z := .agg #[.int .u16 0, .int .u16 0, .int .u16 0, .int .u16 0]) (by kernel_rfl) Try.underlying49 ⟨rfl, rfl⟩ rfl ⟨z_v _ rfl, z_v _ rfl, z_v _ rfl, z_v _ rfl, trivial⟩
/- [4]uint8 -/
def ty50 : TyI := ⟨.ar 4 5, 4, 4, [.v (.int .u8 0), .v (.int .u8 0), .v (.int .u8 0), .v (.int .u8 0)]⟩
theorem ty50_ok : TyOK Try.prog 50 ty50 := TyOK.mk' (z := .agg #[.int .u8 0, .int .u8 0, .int .u8 0, .int .u8 0]) (by kernel_rfl) Try.underlying50 ⟨rfl, rfl⟩ rfl ⟨z_v _ rfl, z_v _ rfl, z_v _ rfl, z_v _ rfl, trivial⟩
/- struct { D uint16; I [4]uint16; M [4]uint8 } -/
def ty51 : TyI := ⟨.st [(0, 48), (1, 49), (5, 50)], 9, 14, [.v (.int .u16 0), .v (.int .u16 0), .v (.int .u16 0), .v (.int .u16 0), .v (.int .u16 0), .v (.int .u8 0), .v (.int .u8 0), .v (.int .u8 0), .v (.int .u8 0)]⟩
theorem ty51_ok : TyOK Try.prog 51 ty51 := TyOK.mk' (z := .agg #[.int .u16 0, .int .u16 0, .int .u16 0, .int .u16 0, .int .u16 0, .int .u8 0, .int .u8 0, .int .u8 0, .int .u8 0]) (by kernel_rfl) Try.underlying51 rfl rfl ⟨z_v _ rfl, z_v _ rfl, z_v _ rfl, z_v _ rfl, z_v _ rfl, z_v _ rfl, z_v _ rfl, z_v _ rfl, z_v _ rfl, trivial⟩
/- algoristref08.Raw -/
def ty52 : TyI := ⟨.st [(0, 48), (1, 49), (5, 50)], 9, 14, [.v (.int .u16 0), .v (.int .u16 0), .v (.int .u16 0), .v (.int .u16 0), .v (.int .u16 0), .v (.int .u8 0), .v (.int .u8 0), .v (.int .u8 0), .v (.int .u8 0)]⟩
theorem ty52_ok : TyOK Try.prog 52 ty52 := TyOK.mk' (z := .agg #[.int .u16 0, .int .u16 0, .int .u16 0, .int .u16 0, .int .u16 0, .int .u8 0, .int .u8 0, .int .u8 0, .int .u8 0]) (by kernel_rfl) Try.underlying52 rfl rfl ⟨z_v _ rfl, z_v _ rfl, z_v _ rfl, z_v _ rfl, z_v _ rfl, z_v _ rfl, z_v _ rfl, z_v _ rfl, z_v _ rfl, trivial⟩
/- int16 -/
def ty53 : TyI := ⟨.int .i16, 1, 2, [.v (.int .i16 0)]⟩
theorem ty53_ok : TyOK Try.prog 53 ty53 := TyOK.mk' (z := .int .i16 0) (by kernel_rfl) Try.underlying53 rfl rfl ⟨z_v _ rfl, trivial⟩
/- [2]int16 -/
def ty54 : TyI := ⟨.ar 2 53, 2, 4, [.v (.int .i16 0), .v (.int .i16 0)]⟩
theorem ty54_ok : TyOK Try.prog 54 ty54 := TyOK.mk' (z := .agg #[.int .i16 0, .int .i16 0]) (by kernel_rfl) Try.underlying54 ⟨rfl, rfl⟩ rfl ⟨z_v _ rfl, z_v _ rfl, trivial⟩
/- []api.Form -/
def ty67 : TyI := ⟨.sl 33, 1, 24, [.sl 0 []]⟩
theorem ty67_ok : TyOK Try.prog 67 ty67 := TyOK.mk' (z := .slice none 0 0) (by kernel_rfl) Try.underlying67 rfl rfl ⟨z_sl, trivial⟩
/- []api.Errno -/
def ty68 : TyI := ⟨.sl 37, 1, 24, [.sl 0 []]⟩
theorem ty68_ok : TyOK Try.prog 68 ty68 := TyOK.mk' (z := .slice none 0 0) (by kernel_rfl) Try.underlying68 rfl rfl ⟨z_sl, trivial⟩
/- [2]uint8 -/
def ty75 : TyI := ⟨.ar 2 5, 2, 2, [.v (.int .u8 0), .v (.int .u8 0)]⟩
theorem ty75_ok : TyOK Try.prog 75 ty75 := TyOK.mk' (z := .agg #[.int .u8 0, .int .u8 0]) (by kernel_rfl) Try.underlying75 ⟨rfl, rfl⟩ rfl ⟨z_v _ rfl, z_v _ rfl, trivial⟩
/- *quadratic.reduction -/
def ty83 : TyI := ⟨.pt 85, 1, 8, [.v (.pointer none)]⟩
theorem ty83_ok : TyOK Try.prog 83 ty83 := TyOK.mk' (z := .pointer none) (by kernel_rfl) Try.underlying83 rfl rfl ⟨z_v _ rfl, trivial⟩
/- struct { api.Form; m api.Mat } -/
def ty84 : TyI := ⟨.st [(0, 33), (6, 36)], 14, 224, [zn 0, zm 0, zn 0, zm 0, zn 0, zm 0, zn 0, zm 0, zn 0, zm 0, zn 0, zm 0, zn 0, zm 0]⟩
theorem ty84_ok : TyOK Try.prog 84 ty84 := TyOK.mk' (z := .agg #[.bool false, .slice none 0 0, .bool false, .slice none 0 0, .bool false, .slice none 0 0, .bool false, .slice none 0 0, .bool false, .slice none 0 0, .bool false, .slice none 0 0, .bool false, .slice none 0 0]) (by kernel_rfl) Try.underlying84 rfl rfl ⟨z_zn, z_zm, z_zn, z_zm, z_zn, z_zm, z_zn, z_zm, z_zn, z_zm, z_zn, z_zm, z_zn, z_zm, trivial⟩
/- quadratic.reduction -/
def ty85 : TyI := ⟨.st [(0, 33), (6, 36)], 14, 224, [zn 0, zm 0, zn 0, zm 0, zn 0, zm 0, zn 0, zm 0, zn 0, zm 0, zn 0, zm 0, zn 0, zm 0]⟩
theorem ty85_ok : TyOK Try.prog 85 ty85 := TyOK.mk' (z := .agg #[.bool false, .slice none 0 0, .bool false, .slice none 0 0, .bool false, .slice none 0 0, .bool false, .slice none 0 0, .bool false, .slice none 0 0, .bool false, .slice none 0 0, .bool false, .slice none 0 0]) (by kernel_rfl) Try.underlying85 rfl rfl ⟨z_zn, z_zm, z_zn, z_zm, z_zn, z_zm, z_zn, z_zm, z_zn, z_zm, z_zn, z_zm, z_zn, z_zm, trivial⟩
/- uint64 -/
def ty92 : TyI := ⟨.int .u64, 1, 8, [.v (.int .u64 0)]⟩
theorem ty92_ok : TyOK Try.prog 92 ty92 := TyOK.mk' (z := .int .u64 0) (by kernel_rfl) Try.underlying92 rfl rfl ⟨z_v _ rfl, trivial⟩
/- uint32 -/
def ty94 : TyI := ⟨.int .u32, 1, 4, [.v (.int .u32 0)]⟩
theorem ty94_ok : TyOK Try.prog 94 ty94 := TyOK.mk' (z := .int .u32 0) (by kernel_rfl) Try.underlying94 rfl rfl ⟨z_v _ rfl, trivial⟩
/- uint -/
def ty95 : TyI := ⟨.int .u64, 1, 8, [.v (.int .u64 0)]⟩
theorem ty95_ok : TyOK Try.prog 95 ty95 := TyOK.mk' (z := .int .u64 0) (by kernel_rfl) Try.underlying95 rfl rfl ⟨z_v _ rfl, trivial⟩
/- [2]api.Int -/
def ty98 : TyI := ⟨.ar 2 31, 4, 64, [zn 0, zm 0, zn 0, zm 0]⟩
theorem ty98_ok : TyOK Try.prog 98 ty98 := TyOK.mk' (z := .agg #[.bool false, .slice none 0 0, .bool false, .slice none 0 0]) (by kernel_rfl) Try.underlying98 ⟨rfl, rfl⟩ rfl ⟨z_zn, z_zm, z_zn, z_zm, trivial⟩
/- [2][2]api.Int -/
def ty99 : TyI := ⟨.ar 2 98, 8, 128, [zn 0, zm 0, zn 0, zm 0, zn 0, zm 0, zn 0, zm 0]⟩
theorem ty99_ok : TyOK Try.prog 99 ty99 := TyOK.mk' (z := .agg #[.bool false, .slice none 0 0, .bool false, .slice none 0 0, .bool false, .slice none 0 0, .bool false, .slice none 0 0]) (by kernel_rfl) Try.underlying99 ⟨rfl, rfl⟩ rfl ⟨z_zn, z_zm, z_zn, z_zm, z_zn, z_zm, z_zn, z_zm, trivial⟩
/- [3]api.Int -/
def ty102 : TyI := ⟨.ar 3 31, 6, 96, [zn 0, zm 0, zn 0, zm 0, zn 0, zm 0]⟩
theorem ty102_ok : TyOK Try.prog 102 ty102 := TyOK.mk' (z := .agg #[.bool false, .slice none 0 0, .bool false, .slice none 0 0, .bool false, .slice none 0 0]) (by kernel_rfl) Try.underlying102 ⟨rfl, rfl⟩ rfl ⟨z_zn, z_zm, z_zn, z_zm, z_zn, z_zm, trivial⟩
/- integer.nat -/
def ty106 : TyI := ⟨.sl 94, 1, 24, [.sl 0 []]⟩
theorem ty106_ok : TyOK Try.prog 106 ty106 := TyOK.mk' (z := .slice none 0 0) (by kernel_rfl) Try.underlying106 rfl rfl ⟨z_sl, trivial⟩
/- []api.Int -/
def ty110 : TyI := ⟨.sl 31, 1, 24, [.sl 0 []]⟩
theorem ty110_ok : TyOK Try.prog 110 ty110 := TyOK.mk' (z := .slice none 0 0) (by kernel_rfl) Try.underlying110 rfl rfl ⟨z_sl, trivial⟩
/- struct { Q []uint32; R []uint32 } -/
def ty120 : TyI := ⟨.st [(0, 22), (1, 22)], 2, 48, [.sl 0 [], .sl 0 []]⟩
theorem ty120_ok : TyOK Try.prog 120 ty120 := TyOK.mk' (z := .agg #[.slice none 0 0, .slice none 0 0]) (by kernel_rfl) Try.underlying120 rfl rfl ⟨z_sl, z_sl, trivial⟩
/- algoristref01.quotient -/
def ty121 : TyI := ⟨.st [(0, 22), (1, 22)], 2, 48, [.sl 0 [], .sl 0 []]⟩
theorem ty121_ok : TyOK Try.prog 121 ty121 := TyOK.mk' (z := .agg #[.slice none 0 0, .slice none 0 0]) (by kernel_rfl) Try.underlying121 rfl rfl ⟨z_sl, z_sl, trivial⟩
/- []int -/
def ty133 : TyI := ⟨.sl 3, 1, 24, [.sl 0 []]⟩
theorem ty133_ok : TyOK Try.prog 133 ty133 := TyOK.mk' (z := .slice none 0 0) (by kernel_rfl) Try.underlying133 rfl rfl ⟨z_sl, trivial⟩
/- *uint8 -/
def ty155 : TyI := ⟨.pt 5, 1, 8, [.v (.pointer none)]⟩
theorem ty155_ok : TyOK Try.prog 155 ty155 := TyOK.mk' (z := .pointer none) (by kernel_rfl) Try.underlying155 rfl rfl ⟨z_v _ rfl, trivial⟩
/- struct { s string } -/
def ty160 : TyI := ⟨.st [(0, 9)], 1, 16, [.v (.string ⟨#[]⟩)]⟩
theorem ty160_ok : TyOK Try.prog 160 ty160 := TyOK.mk' (z := .agg #[.string ⟨#[]⟩]) (by kernel_rfl) Try.underlying160 rfl rfl ⟨z_v _ rfl, trivial⟩
def tt : TT := findT [(2, ty2), (3, ty3), (4, ty4), (5, ty5), (9, ty9), (12, ty12), (21, ty21), (22, ty22), (23, ty23), (24, ty24), (25, ty25), (26, ty26), (27, ty27), (28, ty28), (30, ty30), (31, ty31), (32, ty32), (33, ty33), (35, ty35), (36, ty36), (37, ty37), (48, ty48), (49, ty49), (50, ty50), (51, ty51), (52, ty52), (53, ty53), (54, ty54), (67, ty67), (68, ty68), (75, ty75), (83, ty83), (84, ty84), (85, ty85), (92, ty92), (94, ty94), (95, ty95), (98, ty98), (99, ty99), (102, ty102), (106, ty106), (110, ty110), (120, ty120), (121, ty121), (133, ty133), (155, ty155), (160, ty160)]
theorem hT : TTok Try.prog tt := AllT.ok ⟨ty2_ok, ty3_ok, ty4_ok, ty5_ok, ty9_ok, ty12_ok, ty21_ok, ty22_ok, ty23_ok, ty24_ok, ty25_ok, ty26_ok, ty27_ok, ty28_ok, ty30_ok, ty31_ok, ty32_ok, ty33_ok, ty35_ok, ty36_ok, ty37_ok, ty48_ok, ty49_ok, ty50_ok, ty51_ok, ty52_ok, ty53_ok, ty54_ok, ty67_ok, ty68_ok, ty75_ok, ty83_ok, ty84_ok, ty85_ok, ty92_ok, ty94_ok, ty95_ok, ty98_ok, ty99_ok, ty102_ok, ty106_ok, ty110_ok, ty120_ok, ty121_ok, ty133_ok, ty155_ok, ty160_ok, trivial⟩
theorem hP : Try.prog.follows .mixedOrders = true := by kernel_rfl
end Go.Proofs.Ytjfoccjngbgolaa
end

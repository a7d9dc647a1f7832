/- Texts merged by program, in build order. -/
import Derived.Test.YtjfoccjngbgolaaGreatMA
import Derived.Test.YtjfoccjngbgolaaGreatProg
import Derived.KernelRfl
section
/- The types of this seat, by program (gen_ty.py). -/
namespace Go.Proofs.YtjfoccjngbgolaaGreat
open Go Go.AM
/- int64 -/
def ty2 : TyI := ⟨.int .i64, 1, 8, [.v (.int .i64 0)]⟩
theorem ty2_ok : TyOK Tryz.prog 2 ty2 := TyOK.mk' (z := .int .i64 0) (by kernel_rfl) Tryz.underlying2 rfl rfl ⟨z_v _ rfl, trivial⟩
/- int -/
def ty3 : TyI := ⟨.int .i64, 1, 8, [.v (.int .i64 0)]⟩
theorem ty3_ok : TyOK Tryz.prog 3 ty3 := TyOK.mk' (z := .int .i64 0) (by kernel_rfl) Tryz.underlying3 rfl rfl ⟨z_v _ rfl, trivial⟩
/- bool -/
def ty4 : TyI := ⟨.bool, 1, 1, [.v (.bool false)]⟩
theorem ty4_ok : TyOK Tryz.prog 4 ty4 := TyOK.mk' (z := .bool false) (by kernel_rfl) Tryz.underlying4 trivial rfl ⟨z_v _ rfl, trivial⟩
/- uint8 -/
def ty5 : TyI := ⟨.int .u8, 1, 1, [.v (.int .u8 0)]⟩
theorem ty5_ok : TyOK Tryz.prog 5 ty5 := TyOK.mk' (z := .int .u8 0) (by kernel_rfl) Tryz.underlying5 rfl rfl ⟨z_v _ rfl, trivial⟩
/- string -/
def ty9 : TyI := ⟨.str, 1, 16, [.v (.string ⟨#[]⟩)]⟩
theorem ty9_ok : TyOK Tryz.prog 9 ty9 := TyOK.mk' (z := .string ⟨#[]⟩) (by kernel_rfl) Tryz.underlying9 trivial rfl ⟨z_v _ rfl, trivial⟩
/- uintptr -/
def ty12 : TyI := ⟨.int .u64, 1, 8, [.v (.int .u64 0)]⟩
theorem ty12_ok : TyOK Tryz.prog 12 ty12 := TyOK.mk' (z := .int .u64 0) (by kernel_rfl) Tryz.underlying12 rfl rfl ⟨z_v _ rfl, trivial⟩
/- int32 -/
def ty21 : TyI := ⟨.int .i32, 1, 4, [.v (.int .i32 0)]⟩
theorem ty21_ok : TyOK Tryz.prog 21 ty21 := TyOK.mk' (z := .int .i32 0) (by kernel_rfl) Tryz.underlying21 rfl rfl ⟨z_v _ rfl, trivial⟩
/- uint16 -/
def ty22 : TyI := ⟨.int .u16, 1, 2, [.v (.int .u16 0)]⟩
theorem ty22_ok : TyOK Tryz.prog 22 ty22 := TyOK.mk' (z := .int .u16 0) (by kernel_rfl) Tryz.underlying22 rfl rfl ⟨z_v _ rfl, trivial⟩
/- [4]uint16 -/
def ty23 : TyI := ⟨.ar 4 22, 4, 8, [.v (.int .u16 0), .v (.int .u16 0), .v (.int .u16 0), .v (.int .u16 0)]⟩
theorem ty23_ok : TyOK Tryz.prog 23 ty23 := TyOK.mk' (z := .agg #[.int .u16 0, .int .u16 0, .int .u16 0, .int .u16 0]) (by kernel_rfl) Tryz.underlying23 ⟨rfl, rfl⟩ rfl ⟨z_v _ rfl, z_v _ rfl, z_v _ rfl, z_v _ rfl, trivial⟩
/- [4]uint8 -/
def ty24 : TyI := ⟨.ar 4 5, 4, 4, [.v (.int .u8 0), .v (.int .u8 0), .v (.int .u8 0), .v (.int .u8 0)]⟩
theorem ty24_ok : TyOK Tryz.prog 24 ty24 := TyOK.mk' (z := .agg #[.int .u8 0, .int .u8 0, .int .u8 0, .int .u8 0]) (by kernel_rfl) Tryz.underlying24 ⟨rfl, rfl⟩ rfl ⟨z_v _ rfl, z_v _ rfl, z_v _ rfl, z_v _ rfl, trivial⟩
/- struct { D uint16; I [4]uint16; M [4]uint8 } -/
def ty25 : TyI := ⟨.st [(0, 22), (1, 23), (5, 24)], 9, 14, [.v (.int .u16 0), .v (.int .u16 0), .v (.int .u16 0), .v (.int .u16 0), .v (.int .u16 0), .v (.int .u8 0), .v (.int .u8 0), .v (.int .u8 0), .v (.int .u8 0)]⟩
theorem ty25_ok : TyOK Tryz.prog 25 ty25 := TyOK.mk' (z := .agg #[.int .u16 0, .int .u16 0, .int .u16 0, .int .u16 0, .int .u16 0, .int .u8 0, .int .u8 0, .int .u8 0, .int .u8 0]) (by kernel_rfl) Tryz.underlying25 rfl rfl ⟨z_v _ rfl, z_v _ rfl, z_v _ rfl, z_v _ rfl, z_v _ rfl, z_v _ rfl, z_v _ rfl, z_v _ rfl, z_v _ rfl, trivial⟩
/- algoristref08.Raw -/
def ty26 : TyI := ⟨.st [(0, 22), (1, 23), (5, 24)], 9, 14, [.v (.int .u16 0), .v (.int .u16 0), .v (.int .u16 0), .v (.int .u16 0), .v (.int .u16 0), .v (.int .u8 0), .v (.int .u8 0), .v (.int .u8 0), .v (.int .u8 0)]⟩
theorem ty26_ok : TyOK Tryz.prog 26 ty26 := TyOK.mk' (z := .agg #[.int .u16 0, .int .u16 0, .int .u16 0, .int .u16 0, .int .u16 0, .int .u8 0, .int .u8 0, .int .u8 0, .int .u8 0]) (by kernel_rfl) Tryz.underlying26 rfl rfl ⟨z_v _ rfl, z_v _ rfl, z_v _ rfl, z_v _ rfl, z_v _ rfl, z_v _ rfl, z_v _ rfl, z_v _ rfl, z_v _ rfl, trivial⟩
/- []uint32 -/
def ty28 : TyI := ⟨.sl 90, 1, 24, [.sl 0 []]⟩
theorem ty28_ok : TyOK Tryz.prog 28 ty28 := TyOK.mk' (z := .slice none 0 0) (by kernel_rfl) Tryz.underlying28 rfl rfl ⟨z_sl, trivial⟩
/- struct { Neg bool; Mag []uint32 } -/
def ty29 : TyI := ⟨.st [(0, 4), (1, 28)], 2, 32, [.v (.bool false), .sl 0 []]⟩
theorem ty29_ok : TyOK Tryz.prog 29 ty29 := TyOK.mk' (z := .agg #[.bool false, .slice none 0 0]) (by kernel_rfl) Tryz.underlying29 rfl rfl ⟨z_v _ rfl, z_sl, trivial⟩
/- api.Int -/
def ty30 : TyI := ⟨.st [(0, 4), (1, 28)], 2, 32, [zn 0, zm 0]⟩
theorem ty30_ok : TyOK Tryz.prog 30 ty30 := TyOK.mk' (z := .agg #[.bool false, .slice none 0 0]) (by kernel_rfl) Tryz.underlying30 rfl rfl ⟨z_zn, z_zm, trivial⟩
/- struct { A api.Int; B api.Int; C api.Int } -/
def ty31 : TyI := ⟨.st [(0, 30), (2, 30), (4, 30)], 6, 96, [zn 0, zm 0, zn 0, zm 0, zn 0, zm 0]⟩
theorem ty31_ok : TyOK Tryz.prog 31 ty31 := TyOK.mk' (z := .agg #[.bool false, .slice none 0 0, .bool false, .slice none 0 0, .bool false, .slice none 0 0]) (by kernel_rfl) Tryz.underlying31 rfl rfl ⟨z_zn, z_zm, z_zn, z_zm, z_zn, z_zm, trivial⟩
/- api.Form -/
def ty32 : TyI := ⟨.st [(0, 30), (2, 30), (4, 30)], 6, 96, [zn 0, zm 0, zn 0, zm 0, zn 0, zm 0]⟩
theorem ty32_ok : TyOK Tryz.prog 32 ty32 := TyOK.mk' (z := .agg #[.bool false, .slice none 0 0, .bool false, .slice none 0 0, .bool false, .slice none 0 0]) (by kernel_rfl) Tryz.underlying32 rfl rfl ⟨z_zn, z_zm, z_zn, z_zm, z_zn, z_zm, trivial⟩
/- struct { A api.Int; B api.Int; C api.Int; D api.Int } -/
def ty34 : TyI := ⟨.st [(0, 30), (2, 30), (4, 30), (6, 30)], 8, 128, [zn 0, zm 0, zn 0, zm 0, zn 0, zm 0, zn 0, zm 0]⟩
theorem ty34_ok : TyOK Tryz.prog 34 ty34 := TyOK.mk' (z := .agg #[.bool false, .slice none 0 0, .bool false, .slice none 0 0, .bool false, .slice none 0 0, .bool false, .slice none 0 0]) (by kernel_rfl) Tryz.underlying34 rfl rfl ⟨z_zn, z_zm, z_zn, z_zm, z_zn, z_zm, z_zn, z_zm, trivial⟩
/- api.Mat -/
def ty35 : TyI := ⟨.st [(0, 30), (2, 30), (4, 30), (6, 30)], 8, 128, [zn 0, zm 0, zn 0, zm 0, zn 0, zm 0, zn 0, zm 0]⟩
theorem ty35_ok : TyOK Tryz.prog 35 ty35 := TyOK.mk' (z := .agg #[.bool false, .slice none 0 0, .bool false, .slice none 0 0, .bool false, .slice none 0 0, .bool false, .slice none 0 0]) (by kernel_rfl) Tryz.underlying35 rfl rfl ⟨z_zn, z_zm, z_zn, z_zm, z_zn, z_zm, z_zn, z_zm, trivial⟩
/- api.Errno -/
def ty36 : TyI := ⟨.int .i64, 1, 8, [.v (.int .i64 0)]⟩
theorem ty36_ok : TyOK Tryz.prog 36 ty36 := TyOK.mk' (z := .int .i64 0) (by kernel_rfl) Tryz.underlying36 rfl rfl ⟨z_v _ rfl, trivial⟩
/- int16 -/
def ty53 : TyI := ⟨.int .i16, 1, 2, [.v (.int .i16 0)]⟩
theorem ty53_ok : TyOK Tryz.prog 53 ty53 := TyOK.mk' (z := .int .i16 0) (by kernel_rfl) Tryz.underlying53 rfl rfl ⟨z_v _ rfl, trivial⟩
/- [2]int16 -/
def ty54 : TyI := ⟨.ar 2 53, 2, 4, [.v (.int .i16 0), .v (.int .i16 0)]⟩
theorem ty54_ok : TyOK Tryz.prog 54 ty54 := TyOK.mk' (z := .agg #[.int .i16 0, .int .i16 0]) (by kernel_rfl) Tryz.underlying54 ⟨rfl, rfl⟩ rfl ⟨z_v _ rfl, z_v _ rfl, trivial⟩
/- struct { Neg bool; L []uint32 } -/
def ty61 : TyI := ⟨.st [(0, 4), (1, 28)], 2, 32, [.v (.bool false), .sl 0 []]⟩
theorem ty61_ok : TyOK Tryz.prog 61 ty61 := TyOK.mk' (z := .agg #[.bool false, .slice none 0 0]) (by kernel_rfl) Tryz.underlying61 rfl rfl ⟨z_v _ rfl, z_sl, trivial⟩
/- algoristref01.Raw -/
def ty62 : TyI := ⟨.st [(0, 4), (1, 28)], 2, 32, [.v (.bool false), .sl 0 []]⟩
theorem ty62_ok : TyOK Tryz.prog 62 ty62 := TyOK.mk' (z := .agg #[.bool false, .slice none 0 0]) (by kernel_rfl) Tryz.underlying62 rfl rfl ⟨z_v _ rfl, z_sl, trivial⟩
/- [3]algoristref01.Raw -/
def ty63 : TyI := ⟨.ar 3 62, 6, 96, [.v (.bool false), .sl 0 [], .v (.bool false), .sl 0 [], .v (.bool false), .sl 0 []]⟩
theorem ty63_ok : TyOK Tryz.prog 63 ty63 := TyOK.mk' (z := .agg #[.bool false, .slice none 0 0, .bool false, .slice none 0 0, .bool false, .slice none 0 0]) (by kernel_rfl) Tryz.underlying63 ⟨rfl, rfl⟩ rfl ⟨z_v _ rfl, z_sl, z_v _ rfl, z_sl, z_v _ rfl, z_sl, trivial⟩
/- [4]algoristref01.Raw -/
def ty64 : TyI := ⟨.ar 4 62, 8, 128, [.v (.bool false), .sl 0 [], .v (.bool false), .sl 0 [], .v (.bool false), .sl 0 [], .v (.bool false), .sl 0 []]⟩
theorem ty64_ok : TyOK Tryz.prog 64 ty64 := TyOK.mk' (z := .agg #[.bool false, .slice none 0 0, .bool false, .slice none 0 0, .bool false, .slice none 0 0, .bool false, .slice none 0 0]) (by kernel_rfl) Tryz.underlying64 ⟨rfl, rfl⟩ rfl ⟨z_v _ rfl, z_sl, z_v _ rfl, z_sl, z_v _ rfl, z_sl, z_v _ rfl, z_sl, trivial⟩
/- struct { F [3]algoristref01.Raw; M [4]algoristref01.Raw } -/
def ty65 : TyI := ⟨.st [(0, 63), (6, 64)], 14, 224, [.v (.bool false), .sl 0 [], .v (.bool false), .sl 0 [], .v (.bool false), .sl 0 [], .v (.bool false), .sl 0 [], .v (.bool false), .sl 0 [], .v (.bool false), .sl 0 [], .v (.bool false), .sl 0 []]⟩
theorem ty65_ok : TyOK Tryz.prog 65 ty65 := TyOK.mk' (z := .agg #[.bool false, .slice none 0 0, .bool false, .slice none 0 0, .bool false, .slice none 0 0, .bool false, .slice none 0 0, .bool false, .slice none 0 0, .bool false, .slice none 0 0, .bool false, .slice none 0 0]) (by kernel_rfl) Tryz.underlying65 rfl rfl ⟨z_v _ rfl, z_sl, z_v _ rfl, z_sl, z_v _ rfl, z_sl, z_v _ rfl, z_sl, z_v _ rfl, z_sl, z_v _ rfl, z_sl, z_v _ rfl, z_sl, trivial⟩
/- algoristref08.Odd -/
def ty66 : TyI := ⟨.st [(0, 63), (6, 64)], 14, 224, [.v (.bool false), .sl 0 [], .v (.bool false), .sl 0 [], .v (.bool false), .sl 0 [], .v (.bool false), .sl 0 [], .v (.bool false), .sl 0 [], .v (.bool false), .sl 0 [], .v (.bool false), .sl 0 []]⟩
theorem ty66_ok : TyOK Tryz.prog 66 ty66 := TyOK.mk' (z := .agg #[.bool false, .slice none 0 0, .bool false, .slice none 0 0, .bool false, .slice none 0 0, .bool false, .slice none 0 0, .bool false, .slice none 0 0, .bool false, .slice none 0 0, .bool false, .slice none 0 0]) (by kernel_rfl) Tryz.underlying66 rfl rfl ⟨z_v _ rfl, z_sl, z_v _ rfl, z_sl, z_v _ rfl, z_sl, z_v _ rfl, z_sl, z_v _ rfl, z_sl, z_v _ rfl, z_sl, z_v _ rfl, z_sl, trivial⟩
/- []api.Form -/
def ty74 : TyI := ⟨.sl 32, 1, 24, [.sl 0 []]⟩
theorem ty74_ok : TyOK Tryz.prog 74 ty74 := TyOK.mk' (z := .slice none 0 0) (by kernel_rfl) Tryz.underlying74 rfl rfl ⟨z_sl, trivial⟩
/- *quadratic.reduction -/
def ty77 : TyI := ⟨.pt 79, 1, 8, [.v (.pointer none)]⟩
theorem ty77_ok : TyOK Tryz.prog 77 ty77 := TyOK.mk' (z := .pointer none) (by kernel_rfl) Tryz.underlying77 rfl rfl ⟨z_v _ rfl, trivial⟩
/- struct { api.Form; m api.Mat } -/
def ty78 : TyI := ⟨.st [(0, 32), (6, 35)], 14, 224, [zn 0, zm 0, zn 0, zm 0, zn 0, zm 0, zn 0, zm 0, zn 0, zm 0, zn 0, zm 0, zn 0, zm 0]⟩
theorem ty78_ok : TyOK Tryz.prog 78 ty78 := TyOK.mk' (z := .agg #[.bool false, .slice none 0 0, .bool false, .slice none 0 0, .bool false, .slice none 0 0, .bool false, .slice none 0 0, .bool false, .slice none 0 0, .bool false, .slice none 0 0, .bool false, .slice none 0 0]) (by kernel_rfl) Tryz.underlying78 rfl rfl ⟨z_zn, z_zm, z_zn, z_zm, z_zn, z_zm, z_zn, z_zm, z_zn, z_zm, z_zn, z_zm, z_zn, z_zm, trivial⟩
/- quadratic.reduction -/
def ty79 : TyI := ⟨.st [(0, 32), (6, 35)], 14, 224, [zn 0, zm 0, zn 0, zm 0, zn 0, zm 0, zn 0, zm 0, zn 0, zm 0, zn 0, zm 0, zn 0, zm 0]⟩
theorem ty79_ok : TyOK Tryz.prog 79 ty79 := TyOK.mk' (z := .agg #[.bool false, .slice none 0 0, .bool false, .slice none 0 0, .bool false, .slice none 0 0, .bool false, .slice none 0 0, .bool false, .slice none 0 0, .bool false, .slice none 0 0, .bool false, .slice none 0 0]) (by kernel_rfl) Tryz.underlying79 rfl rfl ⟨z_zn, z_zm, z_zn, z_zm, z_zn, z_zm, z_zn, z_zm, z_zn, z_zm, z_zn, z_zm, z_zn, z_zm, trivial⟩
/- uint64 -/
def ty88 : TyI := ⟨.int .u64, 1, 8, [.v (.int .u64 0)]⟩
theorem ty88_ok : TyOK Tryz.prog 88 ty88 := TyOK.mk' (z := .int .u64 0) (by kernel_rfl) Tryz.underlying88 rfl rfl ⟨z_v _ rfl, trivial⟩
/- uint32 -/
def ty90 : TyI := ⟨.int .u32, 1, 4, [.v (.int .u32 0)]⟩
theorem ty90_ok : TyOK Tryz.prog 90 ty90 := TyOK.mk' (z := .int .u32 0) (by kernel_rfl) Tryz.underlying90 rfl rfl ⟨z_v _ rfl, trivial⟩
/- uint -/
def ty91 : TyI := ⟨.int .u64, 1, 8, [.v (.int .u64 0)]⟩
theorem ty91_ok : TyOK Tryz.prog 91 ty91 := TyOK.mk' (z := .int .u64 0) (by kernel_rfl) Tryz.underlying91 rfl rfl ⟨z_v _ rfl, trivial⟩
/- [3]api.Int -/
def ty97 : TyI := ⟨.ar 3 30, 6, 96, [zn 0, zm 0, zn 0, zm 0, zn 0, zm 0]⟩
theorem ty97_ok : TyOK Tryz.prog 97 ty97 := TyOK.mk' (z := .agg #[.bool false, .slice none 0 0, .bool false, .slice none 0 0, .bool false, .slice none 0 0]) (by kernel_rfl) Tryz.underlying97 ⟨rfl, rfl⟩ rfl ⟨z_zn, z_zm, z_zn, z_zm, z_zn, z_zm, trivial⟩
/- [2]api.Int -/
def ty98 : TyI := ⟨.ar 2 30, 4, 64, [zn 0, zm 0, zn 0, zm 0]⟩
theorem ty98_ok : TyOK Tryz.prog 98 ty98 := TyOK.mk' (z := .agg #[.bool false, .slice none 0 0, .bool false, .slice none 0 0]) (by kernel_rfl) Tryz.underlying98 ⟨rfl, rfl⟩ rfl ⟨z_zn, z_zm, z_zn, z_zm, trivial⟩
/- [2][2]api.Int -/
def ty99 : TyI := ⟨.ar 2 98, 8, 128, [zn 0, zm 0, zn 0, zm 0, zn 0, zm 0, zn 0, zm 0]⟩
theorem ty99_ok : TyOK Tryz.prog 99 ty99 := TyOK.mk' (z := .agg #[.bool false, .slice none 0 0, .bool false, .slice none 0 0, .bool false, .slice none 0 0, .bool false, .slice none 0 0]) (by kernel_rfl) Tryz.underlying99 ⟨rfl, rfl⟩ rfl ⟨z_zn, z_zm, z_zn, z_zm, z_zn, z_zm, z_zn, z_zm, trivial⟩
/- integer.nat -/
def ty101 : TyI := ⟨.sl 90, 1, 24, [.sl 0 []]⟩
theorem ty101_ok : TyOK Tryz.prog 101 ty101 := TyOK.mk' (z := .slice none 0 0) (by kernel_rfl) Tryz.underlying101 rfl rfl ⟨z_sl, trivial⟩
/- []api.Int -/
def ty105 : TyI := ⟨.sl 30, 1, 24, [.sl 0 []]⟩
theorem ty105_ok : TyOK Tryz.prog 105 ty105 := TyOK.mk' (z := .slice none 0 0) (by kernel_rfl) Tryz.underlying105 rfl rfl ⟨z_sl, trivial⟩
/- []int -/
def ty125 : TyI := ⟨.sl 3, 1, 24, [.sl 0 []]⟩
theorem ty125_ok : TyOK Tryz.prog 125 ty125 := TyOK.mk' (z := .slice none 0 0) (by kernel_rfl) Tryz.underlying125 rfl rfl ⟨z_sl, trivial⟩
/- struct { Q []uint32; R []uint32 } -/
def ty129 : TyI := ⟨.st [(0, 28), (1, 28)], 2, 48, [.sl 0 [], .sl 0 []]⟩
theorem ty129_ok : TyOK Tryz.prog 129 ty129 := TyOK.mk' (z := .agg #[.slice none 0 0, .slice none 0 0]) (by kernel_rfl) Tryz.underlying129 rfl rfl ⟨z_sl, z_sl, trivial⟩
/- algoristref01.quotient -/
def ty130 : TyI := ⟨.st [(0, 28), (1, 28)], 2, 48, [.sl 0 [], .sl 0 []]⟩
theorem ty130_ok : TyOK Tryz.prog 130 ty130 := TyOK.mk' (z := .agg #[.slice none 0 0, .slice none 0 0]) (by kernel_rfl) Tryz.underlying130 rfl rfl ⟨z_sl, z_sl, trivial⟩
/- *uint8 -/
def ty151 : TyI := ⟨.pt 5, 1, 8, [.v (.pointer none)]⟩
theorem ty151_ok : TyOK Tryz.prog 151 ty151 := TyOK.mk' (z := .pointer none) (by kernel_rfl) Tryz.underlying151 rfl rfl ⟨z_v _ rfl, trivial⟩
/- struct { s string } -/
def ty156 : TyI := ⟨.st [(0, 9)], 1, 16, [.v (.string ⟨#[]⟩)]⟩
theorem ty156_ok : TyOK Tryz.prog 156 ty156 := TyOK.mk' (z := .agg #[.string ⟨#[]⟩]) (by kernel_rfl) Tryz.underlying156 rfl rfl ⟨z_v _ rfl, trivial⟩
def tt : TT := findT [(2, ty2), (3, ty3), (4, ty4), (5, ty5), (9, ty9), (12, ty12), (21, ty21), (22, ty22), (23, ty23), (24, ty24), (25, ty25), (26, ty26), (28, ty28), (29, ty29), (30, ty30), (31, ty31), (32, ty32), (34, ty34), (35, ty35), (36, ty36), (53, ty53), (54, ty54), (61, ty61), (62, ty62), (63, ty63), (64, ty64), (65, ty65), (66, ty66), (74, ty74), (77, ty77), (78, ty78), (79, ty79), (88, ty88), (90, ty90), (91, ty91), (97, ty97), (98, ty98), (99, ty99), (101, ty101), (105, ty105), (125, ty125), (129, ty129), (130, ty130), (151, ty151), (156, ty156)]
theorem hT : TTok Tryz.prog tt := AllT.ok ⟨ty2_ok, ty3_ok, ty4_ok, ty5_ok, ty9_ok, ty12_ok, ty21_ok, ty22_ok, ty23_ok, ty24_ok, ty25_ok, ty26_ok, ty28_ok, ty29_ok, ty30_ok, ty31_ok, ty32_ok, ty34_ok, ty35_ok, ty36_ok, ty53_ok, ty54_ok, ty61_ok, ty62_ok, ty63_ok, ty64_ok, ty65_ok, ty66_ok, ty74_ok, ty77_ok, ty78_ok, ty79_ok, ty88_ok, ty90_ok, ty91_ok, ty97_ok, ty98_ok, ty99_ok, ty101_ok, ty105_ok, ty125_ok, ty129_ok, ty130_ok, ty151_ok, ty156_ok, trivial⟩
theorem hP : Tryz.prog.follows .mixedOrders = true := by kernel_rfl
end Go.Proofs.YtjfoccjngbgolaaGreat
end

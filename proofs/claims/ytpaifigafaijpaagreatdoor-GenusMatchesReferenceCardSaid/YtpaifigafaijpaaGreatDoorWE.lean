import Derived.Test.YtpaifigafaijpaaGreatDoorWA
import Derived.Test.YtpaifigafaijpaaGreatDoorWB
import Derived.Test.YtpaifigafaijpaaGreatDoorProg
import Derived.KernelRfl
set_option maxRecDepth 100000
set_option maxHeartbeats 2000000
section
namespace Go.Proofs.YtpaifigafaijpaaGreatDoor
open Go Go.AM
def ty2 : TyI := ⟨.int .i64, 1, 8, [.v (.int .i64 0)]⟩
theorem ty2_ok : TyOK Tryz.prog 2 ty2 := TyOK.mk' (z := .int .i64 0) (by kernel_rfl) Tryz.underlying2 rfl rfl ⟨z_v _ rfl, trivial⟩
def ty3 : TyI := ⟨.int .i64, 1, 8, [.v (.int .i64 0)]⟩
theorem ty3_ok : TyOK Tryz.prog 3 ty3 := TyOK.mk' (z := .int .i64 0) (by kernel_rfl) Tryz.underlying3 rfl rfl ⟨z_v _ rfl, trivial⟩
def ty4 : TyI := ⟨.bool, 1, 1, [.v (.bool false)]⟩
theorem ty4_ok : TyOK Tryz.prog 4 ty4 := TyOK.mk' (z := .bool false) (by kernel_rfl) Tryz.underlying4 trivial rfl ⟨z_v _ rfl, trivial⟩
def ty5 : TyI := ⟨.int .u8, 1, 1, [.v (.int .u8 0)]⟩
theorem ty5_ok : TyOK Tryz.prog 5 ty5 := TyOK.mk' (z := .int .u8 0) (by kernel_rfl) Tryz.underlying5 rfl rfl ⟨z_v _ rfl, trivial⟩
def ty9 : TyI := ⟨.str, 1, 16, [.v (.string ⟨#[]⟩)]⟩
theorem ty9_ok : TyOK Tryz.prog 9 ty9 := TyOK.mk' (z := .string ⟨#[]⟩) (by kernel_rfl) Tryz.underlying9 trivial rfl ⟨z_v _ rfl, trivial⟩
def ty12 : TyI := ⟨.int .u64, 1, 8, [.v (.int .u64 0)]⟩
theorem ty12_ok : TyOK Tryz.prog 12 ty12 := TyOK.mk' (z := .int .u64 0) (by kernel_rfl) Tryz.underlying12 rfl rfl ⟨z_v _ rfl, trivial⟩
def ty21 : TyI := ⟨.int .i32, 1, 4, [.v (.int .i32 0)]⟩
theorem ty21_ok : TyOK Tryz.prog 21 ty21 := TyOK.mk' (z := .int .i32 0) (by kernel_rfl) Tryz.underlying21 rfl rfl ⟨z_v _ rfl, trivial⟩
def ty22 : TyI := ⟨.int .u16, 1, 2, [.v (.int .u16 0)]⟩
theorem ty22_ok : TyOK Tryz.prog 22 ty22 := TyOK.mk' (z := .int .u16 0) (by kernel_rfl) Tryz.underlying22 rfl rfl ⟨z_v _ rfl, trivial⟩
def ty23 : TyI := ⟨.ar 4 22, 4, 8, [.v (.int .u16 0), .v (.int .u16 0), .v (.int .u16 0), .v (.int .u16 0)]⟩
theorem ty23_ok : TyOK Tryz.prog 23 ty23 := TyOK.mk' (z := .agg #[.int .u16 0, .int .u16 0, .int .u16 0, .int .u16 0]) (by kernel_rfl) Tryz.underlying23 ⟨rfl, rfl⟩ rfl ⟨z_v _ rfl, z_v _ rfl, z_v _ rfl, z_v _ rfl, trivial⟩
def ty24 : TyI := ⟨.ar 4 5, 4, 4, [.v (.int .u8 0), .v (.int .u8 0), .v (.int .u8 0), .v (.int .u8 0)]⟩
theorem ty24_ok : TyOK Tryz.prog 24 ty24 := TyOK.mk' (z := .agg #[.int .u8 0, .int .u8 0, .int .u8 0, .int .u8 0]) (by kernel_rfl) Tryz.underlying24 ⟨rfl, rfl⟩ rfl ⟨z_v _ rfl, z_v _ rfl, z_v _ rfl, z_v _ rfl, trivial⟩
def ty25 : TyI := ⟨.st [(0, 22), (1, 23), (5, 24)], 9, 14, [.v (.int .u16 0), .v (.int .u16 0), .v (.int .u16 0), .v (.int .u16 0), .v (.int .u16 0), .v (.int .u8 0), .v (.int .u8 0), .v (.int .u8 0), .v (.int .u8 0)]⟩
theorem ty25_ok : TyOK Tryz.prog 25 ty25 := TyOK.mk' (z := .agg #[.int .u16 0, .int .u16 0, .int .u16 0, .int .u16 0, .int .u16 0, .int .u8 0, .int .u8 0, .int .u8 0, .int .u8 0]) (by kernel_rfl) Tryz.underlying25 rfl rfl ⟨z_v _ rfl, z_v _ rfl, z_v _ rfl, z_v _ rfl, z_v _ rfl, z_v _ rfl, z_v _ rfl, z_v _ rfl, z_v _ rfl, trivial⟩
def ty26 : TyI := ⟨.st [(0, 22), (1, 23), (5, 24)], 9, 14, [.v (.int .u16 0), .v (.int .u16 0), .v (.int .u16 0), .v (.int .u16 0), .v (.int .u16 0), .v (.int .u8 0), .v (.int .u8 0), .v (.int .u8 0), .v (.int .u8 0)]⟩
theorem ty26_ok : TyOK Tryz.prog 26 ty26 := TyOK.mk' (z := .agg #[.int .u16 0, .int .u16 0, .int .u16 0, .int .u16 0, .int .u16 0, .int .u8 0, .int .u8 0, .int .u8 0, .int .u8 0]) (by kernel_rfl) Tryz.underlying26 rfl rfl ⟨z_v _ rfl, z_v _ rfl, z_v _ rfl, z_v _ rfl, z_v _ rfl, z_v _ rfl, z_v _ rfl, z_v _ rfl, z_v _ rfl, trivial⟩
def ty27 : TyI := ⟨.sl 111, 1, 24, [.sl 0 []]⟩
theorem ty27_ok : TyOK Tryz.prog 27 ty27 := TyOK.mk' (z := .slice none 0 0) (by kernel_rfl) Tryz.underlying27 rfl rfl ⟨z_sl, trivial⟩
def ty28 : TyI := ⟨.st [(0, 4), (1, 27)], 2, 32, [.v (.bool false), .sl 0 []]⟩
theorem ty28_ok : TyOK Tryz.prog 28 ty28 := TyOK.mk' (z := .agg #[.bool false, .slice none 0 0]) (by kernel_rfl) Tryz.underlying28 rfl rfl ⟨z_v _ rfl, z_sl, trivial⟩
def ty29 : TyI := ⟨.st [(0, 4), (1, 27)], 2, 32, [.v (.bool false), .sl 0 []]⟩
theorem ty29_ok : TyOK Tryz.prog 29 ty29 := TyOK.mk' (z := .agg #[.bool false, .slice none 0 0]) (by kernel_rfl) Tryz.underlying29 rfl rfl ⟨z_v _ rfl, z_sl, trivial⟩
def ty30 : TyI := ⟨.ar 3 29, 6, 96, [.v (.bool false), .sl 0 [], .v (.bool false), .sl 0 [], .v (.bool false), .sl 0 []]⟩
theorem ty30_ok : TyOK Tryz.prog 30 ty30 := TyOK.mk' (z := .agg #[.bool false, .slice none 0 0, .bool false, .slice none 0 0, .bool false, .slice none 0 0]) (by kernel_rfl) Tryz.underlying30 ⟨rfl, rfl⟩ rfl ⟨z_v _ rfl, z_sl, z_v _ rfl, z_sl, z_v _ rfl, z_sl, trivial⟩
def ty31 : TyI := ⟨.ar 4 29, 8, 128, [.v (.bool false), .sl 0 [], .v (.bool false), .sl 0 [], .v (.bool false), .sl 0 [], .v (.bool false), .sl 0 []]⟩
theorem ty31_ok : TyOK Tryz.prog 31 ty31 := TyOK.mk' (z := .agg #[.bool false, .slice none 0 0, .bool false, .slice none 0 0, .bool false, .slice none 0 0, .bool false, .slice none 0 0]) (by kernel_rfl) Tryz.underlying31 ⟨rfl, rfl⟩ rfl ⟨z_v _ rfl, z_sl, z_v _ rfl, z_sl, z_v _ rfl, z_sl, z_v _ rfl, z_sl, trivial⟩
def ty32 : TyI := ⟨.st [(0, 30), (6, 31)], 14, 224, [.v (.bool false), .sl 0 [], .v (.bool false), .sl 0 [], .v (.bool false), .sl 0 [], .v (.bool false), .sl 0 [], .v (.bool false), .sl 0 [], .v (.bool false), .sl 0 [], .v (.bool false), .sl 0 []]⟩
theorem ty32_ok : TyOK Tryz.prog 32 ty32 := TyOK.mk' (z := .agg #[.bool false, .slice none 0 0, .bool false, .slice none 0 0, .bool false, .slice none 0 0, .bool false, .slice none 0 0, .bool false, .slice none 0 0, .bool false, .slice none 0 0, .bool false, .slice none 0 0]) (by kernel_rfl) Tryz.underlying32 rfl rfl ⟨z_v _ rfl, z_sl, z_v _ rfl, z_sl, z_v _ rfl, z_sl, z_v _ rfl, z_sl, z_v _ rfl, z_sl, z_v _ rfl, z_sl, z_v _ rfl, z_sl, trivial⟩
def ty33 : TyI := ⟨.st [(0, 30), (6, 31)], 14, 224, [.v (.bool false), .sl 0 [], .v (.bool false), .sl 0 [], .v (.bool false), .sl 0 [], .v (.bool false), .sl 0 [], .v (.bool false), .sl 0 [], .v (.bool false), .sl 0 [], .v (.bool false), .sl 0 []]⟩
theorem ty33_ok : TyOK Tryz.prog 33 ty33 := TyOK.mk' (z := .agg #[.bool false, .slice none 0 0, .bool false, .slice none 0 0, .bool false, .slice none 0 0, .bool false, .slice none 0 0, .bool false, .slice none 0 0, .bool false, .slice none 0 0, .bool false, .slice none 0 0]) (by kernel_rfl) Tryz.underlying33 rfl rfl ⟨z_v _ rfl, z_sl, z_v _ rfl, z_sl, z_v _ rfl, z_sl, z_v _ rfl, z_sl, z_v _ rfl, z_sl, z_v _ rfl, z_sl, z_v _ rfl, z_sl, trivial⟩
def ty35 : TyI := ⟨.st [(0, 4), (1, 27)], 2, 32, [.v (.bool false), .sl 0 []]⟩
theorem ty35_ok : TyOK Tryz.prog 35 ty35 := TyOK.mk' (z := .agg #[.bool false, .slice none 0 0]) (by kernel_rfl) Tryz.underlying35 rfl rfl ⟨z_v _ rfl, z_sl, trivial⟩
def ty36 : TyI := ⟨.st [(0, 4), (1, 27)], 2, 32, [zn 0, zm 0]⟩
theorem ty36_ok : TyOK Tryz.prog 36 ty36 := TyOK.mk' (z := .agg #[.bool false, .slice none 0 0]) (by kernel_rfl) Tryz.underlying36 rfl rfl ⟨z_zn, z_zm, trivial⟩
def ty40 : TyI := ⟨.sl 36, 1, 24, [.sl 0 []]⟩
theorem ty40_ok : TyOK Tryz.prog 40 ty40 := TyOK.mk' (z := .slice none 0 0) (by kernel_rfl) Tryz.underlying40 rfl rfl ⟨z_sl, trivial⟩
def ty41 : TyI := ⟨.sl 3, 1, 24, [.sl 0 []]⟩
theorem ty41_ok : TyOK Tryz.prog 41 ty41 := TyOK.mk' (z := .slice none 0 0) (by kernel_rfl) Tryz.underlying41 rfl rfl ⟨z_sl, trivial⟩
def ty42 : TyI := ⟨.int .i64, 1, 8, [.v (.int .i64 0)]⟩
theorem ty42_ok : TyOK Tryz.prog 42 ty42 := TyOK.mk' (z := .int .i64 0) (by kernel_rfl) Tryz.underlying42 rfl rfl ⟨z_v _ rfl, trivial⟩
def ty47 : TyI := ⟨.sl 53, 1, 24, [.sl 0 []]⟩
theorem ty47_ok : TyOK Tryz.prog 47 ty47 := TyOK.mk' (z := .slice none 0 0) (by kernel_rfl) Tryz.underlying47 rfl rfl ⟨z_sl, trivial⟩
def ty52 : TyI := ⟨.st [(0, 36), (2, 36), (4, 36)], 6, 96, [zn 0, zm 0, zn 0, zm 0, zn 0, zm 0]⟩
theorem ty52_ok : TyOK Tryz.prog 52 ty52 := TyOK.mk' (z := .agg #[.bool false, .slice none 0 0, .bool false, .slice none 0 0, .bool false, .slice none 0 0]) (by kernel_rfl) Tryz.underlying52 rfl rfl ⟨z_zn, z_zm, z_zn, z_zm, z_zn, z_zm, trivial⟩
def ty53 : TyI := ⟨.st [(0, 36), (2, 36), (4, 36)], 6, 96, [zn 0, zm 0, zn 0, zm 0, zn 0, zm 0]⟩
theorem ty53_ok : TyOK Tryz.prog 53 ty53 := TyOK.mk' (z := .agg #[.bool false, .slice none 0 0, .bool false, .slice none 0 0, .bool false, .slice none 0 0]) (by kernel_rfl) Tryz.underlying53 rfl rfl ⟨z_zn, z_zm, z_zn, z_zm, z_zn, z_zm, trivial⟩
def ty61 : TyI := ⟨.int .i16, 1, 2, [.v (.int .i16 0)]⟩
theorem ty61_ok : TyOK Tryz.prog 61 ty61 := TyOK.mk' (z := .int .i16 0) (by kernel_rfl) Tryz.underlying61 rfl rfl ⟨z_v _ rfl, trivial⟩
def ty62 : TyI := ⟨.ar 2 61, 2, 4, [.v (.int .i16 0), .v (.int .i16 0)]⟩
theorem ty62_ok : TyOK Tryz.prog 62 ty62 := TyOK.mk' (z := .agg #[.int .i16 0, .int .i16 0]) (by kernel_rfl) Tryz.underlying62 ⟨rfl, rfl⟩ rfl ⟨z_v _ rfl, z_v _ rfl, trivial⟩
def ty63 : TyI := ⟨.st [(0, 36), (2, 36), (4, 36), (6, 36)], 8, 128, [zn 0, zm 0, zn 0, zm 0, zn 0, zm 0, zn 0, zm 0]⟩
theorem ty63_ok : TyOK Tryz.prog 63 ty63 := TyOK.mk' (z := .agg #[.bool false, .slice none 0 0, .bool false, .slice none 0 0, .bool false, .slice none 0 0, .bool false, .slice none 0 0]) (by kernel_rfl) Tryz.underlying63 rfl rfl ⟨z_zn, z_zm, z_zn, z_zm, z_zn, z_zm, z_zn, z_zm, trivial⟩
def ty64 : TyI := ⟨.st [(0, 36), (2, 36), (4, 36), (6, 36)], 8, 128, [zn 0, zm 0, zn 0, zm 0, zn 0, zm 0, zn 0, zm 0]⟩
theorem ty64_ok : TyOK Tryz.prog 64 ty64 := TyOK.mk' (z := .agg #[.bool false, .slice none 0 0, .bool false, .slice none 0 0, .bool false, .slice none 0 0, .bool false, .slice none 0 0]) (by kernel_rfl) Tryz.underlying64 rfl rfl ⟨z_zn, z_zm, z_zn, z_zm, z_zn, z_zm, z_zn, z_zm, trivial⟩
def ty79 : TyI := ⟨.st [(0, 53), (6, 42)], 7, 104, [zn 0, zm 0, zn 0, zm 0, zn 0, zm 0, .v (.int .i64 0)]⟩
theorem ty79_ok : TyOK Tryz.prog 79 ty79 := TyOK.mk' (z := .agg #[.bool false, .slice none 0 0, .bool false, .slice none 0 0, .bool false, .slice none 0 0, .int .i64 0]) (by kernel_rfl) Tryz.underlying79 rfl rfl ⟨z_zn, z_zm, z_zn, z_zm, z_zn, z_zm, z_v _ rfl, trivial⟩
def ty80 : TyI := ⟨.st [(0, 53), (6, 42)], 7, 104, [zn 0, zm 0, zn 0, zm 0, zn 0, zm 0, .v (.int .i64 0)]⟩
theorem ty80_ok : TyOK Tryz.prog 80 ty80 := TyOK.mk' (z := .agg #[.bool false, .slice none 0 0, .bool false, .slice none 0 0, .bool false, .slice none 0 0, .int .i64 0]) (by kernel_rfl) Tryz.underlying80 rfl rfl ⟨z_zn, z_zm, z_zn, z_zm, z_zn, z_zm, z_v _ rfl, trivial⟩
def ty85 : TyI := ⟨.st [(0, 47), (1, 42)], 2, 32, [.sl 0 [], .v (.int .i64 0)]⟩
theorem ty85_ok : TyOK Tryz.prog 85 ty85 := TyOK.mk' (z := .agg #[.slice none 0 0, .int .i64 0]) (by kernel_rfl) Tryz.underlying85 rfl rfl ⟨z_sl, z_v _ rfl, trivial⟩
def ty86 : TyI := ⟨.st [(0, 47), (1, 42)], 2, 32, [.sl 0 [], .v (.int .i64 0)]⟩
theorem ty86_ok : TyOK Tryz.prog 86 ty86 := TyOK.mk' (z := .agg #[.slice none 0 0, .int .i64 0]) (by kernel_rfl) Tryz.underlying86 rfl rfl ⟨z_sl, z_v _ rfl, trivial⟩
def ty88 : TyI := ⟨.int .i8, 1, 1, [.v (.int .i8 0)]⟩
theorem ty88_ok : TyOK Tryz.prog 88 ty88 := TyOK.mk' (z := .int .i8 0) (by kernel_rfl) Tryz.underlying88 rfl rfl ⟨z_v _ rfl, trivial⟩
def ty89 : TyI := ⟨.ar 4 88, 4, 4, [.v (.int .i8 0), .v (.int .i8 0), .v (.int .i8 0), .v (.int .i8 0)]⟩
theorem ty89_ok : TyOK Tryz.prog 89 ty89 := TyOK.mk' (z := .agg #[.int .i8 0, .int .i8 0, .int .i8 0, .int .i8 0]) (by kernel_rfl) Tryz.underlying89 ⟨rfl, rfl⟩ rfl ⟨z_v _ rfl, z_v _ rfl, z_v _ rfl, z_v _ rfl, trivial⟩
def ty110 : TyI := ⟨.int .u64, 1, 8, [.v (.int .u64 0)]⟩
theorem ty110_ok : TyOK Tryz.prog 110 ty110 := TyOK.mk' (z := .int .u64 0) (by kernel_rfl) Tryz.underlying110 rfl rfl ⟨z_v _ rfl, trivial⟩
def ty111 : TyI := ⟨.int .u32, 1, 4, [.v (.int .u32 0)]⟩
theorem ty111_ok : TyOK Tryz.prog 111 ty111 := TyOK.mk' (z := .int .u32 0) (by kernel_rfl) Tryz.underlying111 rfl rfl ⟨z_v _ rfl, trivial⟩
def ty112 : TyI := ⟨.int .u64, 1, 8, [.v (.int .u64 0)]⟩
theorem ty112_ok : TyOK Tryz.prog 112 ty112 := TyOK.mk' (z := .int .u64 0) (by kernel_rfl) Tryz.underlying112 rfl rfl ⟨z_v _ rfl, trivial⟩
def ty115 : TyI := ⟨.sl 119, 1, 24, [.sl 0 []]⟩
theorem ty115_ok : TyOK Tryz.prog 115 ty115 := TyOK.mk' (z := .slice none 0 0) (by kernel_rfl) Tryz.underlying115 rfl rfl ⟨z_sl, trivial⟩
def ty118 : TyI := ⟨.st [(0, 3), (1, 117)], 2, 16, [.v (.int .i64 0), .v (.nilFunc)]⟩
theorem ty118_ok : TyOK Tryz.prog 118 ty118 := TyOK.mk' (z := .agg #[.int .i64 0, .nilFunc]) (by kernel_rfl) Tryz.underlying118 rfl rfl ⟨z_v _ rfl, z_v _ rfl, trivial⟩
def ty119 : TyI := ⟨.st [(0, 3), (1, 117)], 2, 16, [.v (.int .i64 0), .v (.nilFunc)]⟩
theorem ty119_ok : TyOK Tryz.prog 119 ty119 := TyOK.mk' (z := .agg #[.int .i64 0, .nilFunc]) (by kernel_rfl) Tryz.underlying119 rfl rfl ⟨z_v _ rfl, z_v _ rfl, trivial⟩
def ty121 : TyI := ⟨.sl 122, 1, 24, [.sl 0 []]⟩
theorem ty121_ok : TyOK Tryz.prog 121 ty121 := TyOK.mk' (z := .slice none 0 0) (by kernel_rfl) Tryz.underlying121 rfl rfl ⟨z_sl, trivial⟩
def ty122 : TyI := ⟨.ar 3 2, 3, 24, [.v (.int .i64 0), .v (.int .i64 0), .v (.int .i64 0)]⟩
theorem ty122_ok : TyOK Tryz.prog 122 ty122 := TyOK.mk' (z := .agg #[.int .i64 0, .int .i64 0, .int .i64 0]) (by kernel_rfl) Tryz.underlying122 ⟨rfl, rfl⟩ rfl ⟨z_v _ rfl, z_v _ rfl, z_v _ rfl, trivial⟩
def ty124 : TyI := ⟨.sl 123, 1, 24, [.sl 0 []]⟩
theorem ty124_ok : TyOK Tryz.prog 124 ty124 := TyOK.mk' (z := .slice none 0 0) (by kernel_rfl) Tryz.underlying124 rfl rfl ⟨z_sl, trivial⟩
def ty139 : TyI := ⟨.pt 141, 1, 8, [.v (.pointer none)]⟩
theorem ty139_ok : TyOK Tryz.prog 139 ty139 := TyOK.mk' (z := .pointer none) (by kernel_rfl) Tryz.underlying139 rfl rfl ⟨z_v _ rfl, trivial⟩
def ty140 : TyI := ⟨.st [(0, 53), (6, 64)], 14, 224, [zn 0, zm 0, zn 0, zm 0, zn 0, zm 0, zn 0, zm 0, zn 0, zm 0, zn 0, zm 0, zn 0, zm 0]⟩
theorem ty140_ok : TyOK Tryz.prog 140 ty140 := TyOK.mk' (z := .agg #[.bool false, .slice none 0 0, .bool false, .slice none 0 0, .bool false, .slice none 0 0, .bool false, .slice none 0 0, .bool false, .slice none 0 0, .bool false, .slice none 0 0, .bool false, .slice none 0 0]) (by kernel_rfl) Tryz.underlying140 rfl rfl ⟨z_zn, z_zm, z_zn, z_zm, z_zn, z_zm, z_zn, z_zm, z_zn, z_zm, z_zn, z_zm, z_zn, z_zm, trivial⟩
def ty141 : TyI := ⟨.st [(0, 53), (6, 64)], 14, 224, [zn 0, zm 0, zn 0, zm 0, zn 0, zm 0, zn 0, zm 0, zn 0, zm 0, zn 0, zm 0, zn 0, zm 0]⟩
theorem ty141_ok : TyOK Tryz.prog 141 ty141 := TyOK.mk' (z := .agg #[.bool false, .slice none 0 0, .bool false, .slice none 0 0, .bool false, .slice none 0 0, .bool false, .slice none 0 0, .bool false, .slice none 0 0, .bool false, .slice none 0 0, .bool false, .slice none 0 0]) (by kernel_rfl) Tryz.underlying141 rfl rfl ⟨z_zn, z_zm, z_zn, z_zm, z_zn, z_zm, z_zn, z_zm, z_zn, z_zm, z_zn, z_zm, z_zn, z_zm, trivial⟩
def ty153 : TyI := ⟨.sl 111, 1, 24, [.sl 0 []]⟩
theorem ty153_ok : TyOK Tryz.prog 153 ty153 := TyOK.mk' (z := .slice none 0 0) (by kernel_rfl) Tryz.underlying153 rfl rfl ⟨z_sl, trivial⟩
def ty173 : TyI := ⟨.ar 3 36, 6, 96, [zn 0, zm 0, zn 0, zm 0, zn 0, zm 0]⟩
theorem ty173_ok : TyOK Tryz.prog 173 ty173 := TyOK.mk' (z := .agg #[.bool false, .slice none 0 0, .bool false, .slice none 0 0, .bool false, .slice none 0 0]) (by kernel_rfl) Tryz.underlying173 ⟨rfl, rfl⟩ rfl ⟨z_zn, z_zm, z_zn, z_zm, z_zn, z_zm, trivial⟩
def ty195 : TyI := ⟨.sl 2, 1, 24, [.sl 0 []]⟩
theorem ty195_ok : TyOK Tryz.prog 195 ty195 := TyOK.mk' (z := .slice none 0 0) (by kernel_rfl) Tryz.underlying195 rfl rfl ⟨z_sl, trivial⟩
def ty200 : TyI := ⟨.int .i64, 1, 8, [.v (.int .i64 0)]⟩
theorem ty200_ok : TyOK Tryz.prog 200 ty200 := TyOK.mk' (z := .int .i64 0) (by kernel_rfl) Tryz.underlying200 rfl rfl ⟨z_v _ rfl, trivial⟩
def ty208 : TyI := ⟨.ar 2 36, 4, 64, [zn 0, zm 0, zn 0, zm 0]⟩
theorem ty208_ok : TyOK Tryz.prog 208 ty208 := TyOK.mk' (z := .agg #[.bool false, .slice none 0 0, .bool false, .slice none 0 0]) (by kernel_rfl) Tryz.underlying208 ⟨rfl, rfl⟩ rfl ⟨z_zn, z_zm, z_zn, z_zm, trivial⟩
def ty209 : TyI := ⟨.ar 2 208, 8, 128, [zn 0, zm 0, zn 0, zm 0, zn 0, zm 0, zn 0, zm 0]⟩
theorem ty209_ok : TyOK Tryz.prog 209 ty209 := TyOK.mk' (z := .agg #[.bool false, .slice none 0 0, .bool false, .slice none 0 0, .bool false, .slice none 0 0, .bool false, .slice none 0 0]) (by kernel_rfl) Tryz.underlying209 ⟨rfl, rfl⟩ rfl ⟨z_zn, z_zm, z_zn, z_zm, z_zn, z_zm, z_zn, z_zm, trivial⟩
def ty214 : TyI := ⟨.st [(0, 27), (1, 27)], 2, 48, [.sl 0 [], .sl 0 []]⟩
theorem ty214_ok : TyOK Tryz.prog 214 ty214 := TyOK.mk' (z := .agg #[.slice none 0 0, .slice none 0 0]) (by kernel_rfl) Tryz.underlying214 rfl rfl ⟨z_sl, z_sl, trivial⟩
def ty215 : TyI := ⟨.st [(0, 27), (1, 27)], 2, 48, [.sl 0 [], .sl 0 []]⟩
theorem ty215_ok : TyOK Tryz.prog 215 ty215 := TyOK.mk' (z := .agg #[.slice none 0 0, .slice none 0 0]) (by kernel_rfl) Tryz.underlying215 rfl rfl ⟨z_sl, z_sl, trivial⟩
def ty221 : TyI := ⟨.ar 8 3, 8, 64, [.v (.int .i64 0), .v (.int .i64 0), .v (.int .i64 0), .v (.int .i64 0), .v (.int .i64 0), .v (.int .i64 0), .v (.int .i64 0), .v (.int .i64 0)]⟩
theorem ty221_ok : TyOK Tryz.prog 221 ty221 := TyOK.mk' (z := .agg #[.int .i64 0, .int .i64 0, .int .i64 0, .int .i64 0, .int .i64 0, .int .i64 0, .int .i64 0, .int .i64 0]) (by kernel_rfl) Tryz.underlying221 ⟨rfl, rfl⟩ rfl ⟨z_v _ rfl, z_v _ rfl, z_v _ rfl, z_v _ rfl, z_v _ rfl, z_v _ rfl, z_v _ rfl, z_v _ rfl, trivial⟩
def ty224 : TyI := ⟨.int .u64, 1, 8, [.v (.int .u64 0)]⟩
theorem ty224_ok : TyOK Tryz.prog 224 ty224 := TyOK.mk' (z := .int .u64 0) (by kernel_rfl) Tryz.underlying224 rfl rfl ⟨z_v _ rfl, trivial⟩
def ty228 : TyI := ⟨.pt 3, 1, 8, [.v (.pointer none)]⟩
theorem ty228_ok : TyOK Tryz.prog 228 ty228 := TyOK.mk' (z := .pointer none) (by kernel_rfl) Tryz.underlying228 rfl rfl ⟨z_v _ rfl, trivial⟩
def ty240 : TyI := ⟨.pt 224, 1, 8, [.v (.pointer none)]⟩
theorem ty240_ok : TyOK Tryz.prog 240 ty240 := TyOK.mk' (z := .pointer none) (by kernel_rfl) Tryz.underlying240 rfl rfl ⟨z_v _ rfl, trivial⟩
def ty264 : TyI := ⟨.pt 5, 1, 8, [.v (.pointer none)]⟩
theorem ty264_ok : TyOK Tryz.prog 264 ty264 := TyOK.mk' (z := .pointer none) (by kernel_rfl) Tryz.underlying264 rfl rfl ⟨z_v _ rfl, trivial⟩
def ty269 : TyI := ⟨.st [(0, 9)], 1, 16, [.v (.string ⟨#[]⟩)]⟩
theorem ty269_ok : TyOK Tryz.prog 269 ty269 := TyOK.mk' (z := .agg #[.string ⟨#[]⟩]) (by kernel_rfl) Tryz.underlying269 rfl rfl ⟨z_v _ rfl, trivial⟩
def ty117 : TyI := ⟨.ot, 1, 8, [.v (.nilFunc)]⟩
theorem ty117_ok : TyOK Tryz.prog 117 ty117 := TyOK.mk' (z := .nilFunc) (by kernel_rfl) Tryz.underlying117 trivial rfl ⟨z_v _ rfl, trivial⟩
def ty123 : TyI := ⟨.ot, 1, 8, [.v (.nilFunc)]⟩
theorem ty123_ok : TyOK Tryz.prog 123 ty123 := TyOK.mk' (z := .nilFunc) (by kernel_rfl) Tryz.underlying123 trivial rfl ⟨z_v _ rfl, trivial⟩
def tt : TT := findT [(2, ty2), (3, ty3), (4, ty4), (5, ty5), (9, ty9), (12, ty12), (21, ty21), (22, ty22), (23, ty23), (24, ty24), (25, ty25), (26, ty26), (27, ty27), (28, ty28), (29, ty29), (30, ty30), (31, ty31), (32, ty32), (33, ty33), (35, ty35), (36, ty36), (40, ty40), (41, ty41), (42, ty42), (47, ty47), (52, ty52), (53, ty53), (61, ty61), (62, ty62), (63, ty63), (64, ty64), (79, ty79), (80, ty80), (85, ty85), (86, ty86), (88, ty88), (89, ty89), (110, ty110), (111, ty111), (112, ty112), (115, ty115), (118, ty118), (119, ty119), (121, ty121), (122, ty122), (124, ty124), (139, ty139), (140, ty140), (141, ty141), (153, ty153), (173, ty173), (195, ty195), (200, ty200), (208, ty208), (209, ty209), (214, ty214), (215, ty215), (221, ty221), (224, ty224), (228, ty228), (240, ty240), (264, ty264), (269, ty269), (117, ty117), (123, ty123)]
theorem hT : TTok Tryz.prog tt := AllT.ok ⟨ty2_ok, ty3_ok, ty4_ok, ty5_ok, ty9_ok, ty12_ok, ty21_ok, ty22_ok, ty23_ok, ty24_ok, ty25_ok, ty26_ok, ty27_ok, ty28_ok, ty29_ok, ty30_ok, ty31_ok, ty32_ok, ty33_ok, ty35_ok, ty36_ok, ty40_ok, ty41_ok, ty42_ok, ty47_ok, ty52_ok, ty53_ok, ty61_ok, ty62_ok, ty63_ok, ty64_ok, ty79_ok, ty80_ok, ty85_ok, ty86_ok, ty88_ok, ty89_ok, ty110_ok, ty111_ok, ty112_ok, ty115_ok, ty118_ok, ty119_ok, ty121_ok, ty122_ok, ty124_ok, ty139_ok, ty140_ok, ty141_ok, ty153_ok, ty173_ok, ty195_ok, ty200_ok, ty208_ok, ty209_ok, ty214_ok, ty215_ok, ty221_ok, ty224_ok, ty228_ok, ty240_ok, ty264_ok, ty269_ok, ty117_ok, ty123_ok, trivial⟩
theorem hP : Tryz.prog.follows .mixedOrders = true := by kernel_rfl
end Go.Proofs.YtpaifigafaijpaaGreatDoor
end
section
namespace Go.Proofs.YtpaifigafaijpaaGreatDoor
open Go Go.AM
theorem nat_trim (ws : List Nat) (hok : okW ws) :
  Call0 Tryz.prog 176 [.p (.c (W ws))] (.p (.c (nt (wv ws)))) := by
 refine callM_of (np := 0) Tryz.func176 (by kernel_rfl) rfl rfl (Nat.le_of_ble_eq_true rfl) (fun m h => absurd rfl h) (fun m h => absurd rfl h) rfl ?_
 refine AWp_len (t := 0) rfl rfl (fun hlen => ?_)
 refine AWp_sr hP<|RK.As rfl<|RK.D<|AWp_seq<|AWp_block<|AWp_loop (ι := List Nat) (fun l => stL [(0, .p (.c (W l)))] []) (fun l => okW l ∧ wv l = wv ws ∧ l.length ≤ 140737488355328) (fun l => l.length) ws ⟨hok, rfl, hlen⟩ (le_stL ⟨.refl _, trivial⟩ trivial) ?_
 rintro l ⟨hl, hv, hn⟩
 refine AWp_seq<|AWp_sr hP<|RK.M rfl<|RK.V (op_len hT rfl rfl rfl rfl)<|RK.V (op_gtr rfl rfl) ?_
 refine RK.M rfl ?_
 refine RK.split (t := 6) rfl (fun hg1 => ?_) (fun hg1 => ?_)
 ·have hg1_ := of_decide_eq_true hg1
  refine RK.val (guard_yes rfl rfl hg1) (op_move (rfl : _ = AV.p (.c _))) ?_
  refine RK.val (guard_yes rfl rfl hg1) (op_move (rfl : _ = AV.p (.c _))) ?_
  refine RK.val (guard_yes rfl rfl hg1) (op_len hT rfl rfl rfl rfl) ?_
  refine RK.val (guard_yes rfl rfl hg1) (op_sub rfl rfl (by first | exact IntWalk.i64_in _ (by omega) | rfl)) ?_
  refine RK.val (guard_yes rfl rfl hg1) (by first | exact op_index_WN hT rfl rfl rfl rfl rfl rfl (by omega) | exact op_index_sl hT rfl rfl rfl rfl rfl rfl (by omega) (by first | exact W_ne (by omega) | simp)) ?_
  refine RK.val (guard_yes rfl rfl hg1) (op_load_ip_one hT rfl rfl rfl (by first | rfl | exact wget (by omega))) ?_
  refine RK.val (guard_yes rfl rfl hg1) (op_eql rfl rfl) ?_
  refine RK.V (op_pick_t rfl hg1 (rfl : _ = AV.p (.c _))) ?_
  refine RK.D ?_
  refine AWp_cond rfl (fun hb2 => ?_) (fun hb2 => ?_)
  ·have hb2_ := bT hb2
   refine AWp_skip<|AWp_block<|AWp_region hP<|RK.M rfl<|RK.M rfl<|RK.V (op_len hT rfl rfl rfl rfl)<|RK.V (op_sub rfl rfl (by first | exact IntWalk.i64_in _ (by omega) | rfl)) ?_
   refine RK.V (op_slice_hW hT rfl rfl rfl rfl rfl rfl (by omega)) ?_
   refine RK.As rfl<|RK.D ?_
   have e : ((l.length : Int) - 1).toNat = l.length - 1 := by omega
   refine ⟨l.take (l.length - 1), ⟨hl.take _, ?_, ?_⟩, ?_, le_stL ⟨Sub.of_eq ?_, trivial⟩ trivial⟩
   ·rw [wv_last0 (by omega) (by rw [← e]; omega), hv]
   ·rw [List.length_take]; omega
   ·rw [List.length_take]; omega
   ·show AV.p (.c (W (l.take ((l.length : Int) - 1).toNat))) = _
    rw [e]
  ·have hb2_ := bF hb2
   refine AWp_exit<|AWp_sr hP<|RK.M rfl<|RK.As rfl<|RK.D<|AWp_ret ?_
   refine ends_one rfl (.inr rfl) (res_tmp rfl) ?_ O_ends
   have e : ((l.length : Int) - 1).toNat = l.length - 1 := by omega
   refine Sub.of_eq ?_
   rw [← hv, nt_of hl (.inr (by rw [← e]; omega))]
 ·have hg1_ := of_decide_eq_false hg1
  refine RK.skip (guard_no rfl rfl hg1) ?_
  refine RK.skip (guard_no rfl rfl hg1) ?_
  refine RK.skip (guard_no rfl rfl hg1) ?_
  refine RK.skip (guard_no rfl rfl hg1) ?_
  refine RK.skip (guard_no rfl rfl hg1) ?_
  refine RK.skip (guard_no rfl rfl hg1) ?_
  refine RK.skip (guard_no rfl rfl hg1) ?_
  refine RK.V (op_pick_f rfl hg1 (rfl : _ = AV.p (.c _))) ?_
  refine RK.D<|AWp_cond_false rfl rfl ?_
  refine AWp_exit<|AWp_sr hP<|RK.M rfl<|RK.As rfl<|RK.D<|AWp_ret ?_
  refine ends_one rfl (.inr rfl) (res_tmp rfl) ?_ O_ends
  refine Sub.of_eq ?_
  rw [← hv, nt_of hl (.inl (by omega))]
end Go.Proofs.YtpaifigafaijpaaGreatDoor
end
section
namespace Go.Proofs.YtpaifigafaijpaaGreatDoor
open Go Go.AM
theorem isNaN_int (a : Int) :
  Call0 Tryz.prog 177 [Z a] (B false) := by
 refine callM_of (np := 0) Tryz.func177 (by kernel_rfl) rfl rfl (Nat.le_of_ble_eq_true rfl) (fun m h => absurd rfl h) (fun m h => absurd rfl h) rfl ?_
 refine AWp_sr hP<|RK.As rfl<|RK.D<|AWp_sr hP<|RK.M rfl<|RK.M rfl<|RK.V (op_neq rfl rfl) ?_
 refine RK.As rfl<|RK.D<|AWp_ret ?_
 refine ends_one rfl (.inr rfl) (res_tmp rfl) ?_ O_ends
 exact Sub.of_eq (by simp)
theorem isNaN_u32 (a : Int) :
  Call0 Tryz.prog 217 [.p (.c (.v (.int .u32 a)))] (B false) := by
 refine callM_of (np := 0) Tryz.func217 (by kernel_rfl) rfl rfl (Nat.le_of_ble_eq_true rfl) (fun m h => absurd rfl h) (fun m h => absurd rfl h) rfl ?_
 refine AWp_sr hP<|RK.As rfl<|RK.D<|AWp_sr hP<|RK.M rfl<|RK.M rfl<|RK.V (op_neq rfl rfl) ?_
 refine RK.As rfl<|RK.D<|AWp_ret ?_
 refine ends_one rfl (.inr rfl) (res_tmp rfl) ?_ O_ends
 exact Sub.of_eq (by simp)
theorem compare_int (a b : Int) :
  Call0 Tryz.prog 129 [.p (.c (.v (.int .i64 a))), .p (.c (.v (.int .i64 b)))] (Z (cmpI a b)) := by
 refine callM_of (np := 0) Tryz.func129 (by kernel_rfl) rfl rfl (Nat.le_of_ble_eq_true rfl) (fun m h => absurd rfl h) (fun m h => absurd rfl h) rfl ?_
 refine AWp_sr hP<|RK.As rfl<|RK.D<|AWp_sr hP<|RK.M rfl<|RK.V (Eff.call0 (isNaN_int _)) ?_
 refine RK.As rfl<|RK.D<|AWp_sr hP<|RK.M rfl<|RK.V (Eff.call0 (isNaN_int _)) ?_
 refine RK.As rfl<|RK.D<|AWp_seq<|AWp_sr hP<|RK.M rfl<|RK.D<|AWp_cond_false rfl rfl ?_
 refine AWp_skip<|AWp_seq<|AWp_sr hP<|RK.M rfl<|RK.D<|AWp_cond_false rfl rfl ?_
 refine AWp_skip<|AWp_seq<|AWp_sr hP<|RK.M rfl<|RK.M rfl<|RK.V (op_lss rfl rfl)<|RK.D ?_
 refine AWp_cond rfl (fun hb1 => ?_) (fun hb1 => ?_)
 ·have hb1_ := of_decide_eq_true hb1
  refine AWp_sr hP<|RK.As rfl<|RK.D<|AWp_ret ?_
  refine ends_one rfl (.inr rfl) (res_tmp rfl) ?_ O_ends
  exact Sub.of_eq (by unfold cmpI; rw [if_pos (by omega)])
 ·have hb1_ := of_decide_eq_false hb1
  refine AWp_skip<|AWp_seq<|AWp_sr hP<|RK.M rfl<|RK.M rfl<|RK.V (op_gtr rfl rfl) ?_
  refine RK.D ?_
  refine AWp_cond rfl (fun hb2 => ?_) (fun hb2 => ?_)
  ·have hb2_ := of_decide_eq_true hb2
   refine AWp_sr hP<|RK.As rfl<|RK.D<|AWp_ret ?_
   refine ends_one rfl (.inr rfl) (res_tmp rfl) ?_ O_ends
   exact Sub.of_eq (by unfold cmpI; rw [if_neg (by omega), if_pos (by omega)])
  ·have hb2_ := of_decide_eq_false hb2
   refine AWp_skip<|AWp_sr hP<|RK.As rfl<|RK.D<|AWp_ret ?_
   refine ends_one rfl (.inr rfl) (res_tmp rfl) ?_ O_ends
   exact Sub.of_eq (by unfold cmpI; rw [if_neg (by omega), if_neg (by omega)])
theorem compare_u32 (a b : Int) :
  Call0 Tryz.prog 178 [.p (.c (.v (.int .u32 a))), .p (.c (.v (.int .u32 b)))] (Z (cmpI a b)) := by
 refine callM_of (np := 0) Tryz.func178 (by kernel_rfl) rfl rfl (Nat.le_of_ble_eq_true rfl) (fun m h => absurd rfl h) (fun m h => absurd rfl h) rfl ?_
 refine AWp_sr hP<|RK.As rfl<|RK.D<|AWp_sr hP<|RK.M rfl<|RK.V (Eff.call0 (isNaN_u32 _)) ?_
 refine RK.As rfl<|RK.D<|AWp_sr hP<|RK.M rfl<|RK.V (Eff.call0 (isNaN_u32 _)) ?_
 refine RK.As rfl<|RK.D<|AWp_seq<|AWp_sr hP<|RK.M rfl<|RK.D<|AWp_cond_false rfl rfl ?_
 refine AWp_skip<|AWp_seq<|AWp_sr hP<|RK.M rfl<|RK.D<|AWp_cond_false rfl rfl ?_
 refine AWp_skip<|AWp_seq<|AWp_sr hP<|RK.M rfl<|RK.M rfl<|RK.V (op_lss rfl rfl)<|RK.D ?_
 refine AWp_cond rfl (fun hb1 => ?_) (fun hb1 => ?_)
 ·have hb1_ := of_decide_eq_true hb1
  refine AWp_sr hP<|RK.As rfl<|RK.D<|AWp_ret ?_
  refine ends_one rfl (.inr rfl) (res_tmp rfl) ?_ O_ends
  exact Sub.of_eq (by unfold cmpI; rw [if_pos (by omega)])
 ·have hb1_ := of_decide_eq_false hb1
  refine AWp_skip<|AWp_seq<|AWp_sr hP<|RK.M rfl<|RK.M rfl<|RK.V (op_gtr rfl rfl) ?_
  refine RK.D ?_
  refine AWp_cond rfl (fun hb2 => ?_) (fun hb2 => ?_)
  ·have hb2_ := of_decide_eq_true hb2
   refine AWp_sr hP<|RK.As rfl<|RK.D<|AWp_ret ?_
   refine ends_one rfl (.inr rfl) (res_tmp rfl) ?_ O_ends
   exact Sub.of_eq (by unfold cmpI; rw [if_neg (by omega), if_pos (by omega)])
  ·have hb2_ := of_decide_eq_false hb2
   refine AWp_skip<|AWp_sr hP<|RK.As rfl<|RK.D<|AWp_ret ?_
   refine ends_one rfl (.inr rfl) (res_tmp rfl) ?_ O_ends
   exact Sub.of_eq (by unfold cmpI; rw [if_neg (by omega), if_neg (by omega)])
theorem or_int (a b : Int) :
  Call0 Tryz.prog 81 [.p (.c (.sl 2 [.v (.int .i64 a), .v (.int .i64 b)]))] (Z (if a = 0 then b else a)) := by
 refine callM_of (np := 0) Tryz.func81 (by kernel_rfl) rfl rfl (Nat.le_of_ble_eq_true rfl) (fun m h => absurd rfl h) (fun m h => absurd rfl h) rfl ?_
 refine AWp_sr hP<|RK.As rfl<|RK.D<|AWp_sr hP<|RK.As rfl<|RK.D<|AWp_seq<|AWp_sr hP<|RK.M rfl<|RK.V (op_len hT rfl rfl rfl rfl)<|RK.M rfl<|RK.D<|AWp_block<|AWp_unroll 3 ?_
 refine AWp_sr hP<|RK.V (op_lss rfl rfl)<|RK.D<|AWp_seq<|AWp_cond_true rfl (by decide) ?_
 refine AWp_skip<|AWp_seq<|AWp_block<|AWp_sr hP<|RK.V (by first | exact op_index_WN hT rfl rfl rfl rfl rfl rfl (by omega) | exact op_index_sl hT rfl rfl rfl rfl rfl rfl (by omega) (by first | exact W_ne (by omega) | simp)) ?_
 refine RK.V (op_load_ip_one hT rfl rfl rfl (by first | rfl | exact wget (by omega))) ?_
 refine RK.As rfl<|RK.D<|AWp_sr hP<|RK.M rfl<|RK.M rfl<|RK.V (op_neq rfl rfl) ?_
 refine RK.D ?_
 refine AWp_cond rfl (fun hb1 => ?_) (fun hb1 => ?_)
 ·have hb1_ := bneT hb1
  refine AWp_sr hP<|RK.M rfl<|RK.As rfl<|RK.D<|AWp_ret ?_
  refine ends_one rfl (.inr rfl) (res_tmp rfl) ?_ O_ends
  exact Sub.of_eq (by rw [if_neg hb1_])
 ·have hb1_ := bneF hb1
  refine AWp_skip<|AWp_region hP<|RK.V (op_add rfl rfl (by first | exact IntWalk.i64_in _ (by omega) | rfl)) ?_
  refine RK.M rfl<|RK.D<|AWp_sr hP<|RK.V (op_lss rfl rfl)<|RK.D<|AWp_seq<|AWp_cond_true rfl (by decide) ?_
  refine AWp_skip<|AWp_seq<|AWp_block<|AWp_sr hP<|RK.V (by first | exact op_index_WN hT rfl rfl rfl rfl rfl rfl (by omega) | exact op_index_sl hT rfl rfl rfl rfl rfl rfl (by omega) (by first | exact W_ne (by omega) | simp)) ?_
  refine RK.V (op_load_ip_one hT rfl rfl rfl (by first | rfl | exact wget (by omega))) ?_
  refine RK.As rfl<|RK.D<|AWp_sr hP<|RK.M rfl<|RK.M rfl<|RK.V (op_neq rfl rfl) ?_
  refine RK.D ?_
  refine AWp_cond rfl (fun hb2 => ?_) (fun hb2 => ?_)
  ·have hb2_ := bneT hb2
   refine AWp_sr hP<|RK.M rfl<|RK.As rfl<|RK.D<|AWp_ret ?_
   refine ends_one rfl (.inr rfl) (res_tmp rfl) ?_ O_ends
   exact Sub.of_eq (by rw [if_pos hb1_])
  ·have hb2_ := bneF hb2
   refine AWp_skip<|AWp_region hP<|RK.V (op_add rfl rfl (by first | exact IntWalk.i64_in _ (by omega) | rfl)) ?_
   refine RK.M rfl<|RK.D<|AWp_sr hP<|RK.V (op_lss rfl rfl)<|RK.D<|AWp_seq<|AWp_cond_false rfl (by decide) ?_
   refine AWp_exit<|AWp_sr hP<|RK.M rfl<|RK.As rfl<|RK.D<|AWp_ret ?_
   refine ends_one rfl (.inr rfl) (res_tmp rfl) ?_ O_ends
   exact Sub.of_eq (by rw [if_pos hb1_, hb2_])
theorem add32 (x y c : Nat) (hx : x < 4294967296) (hy : y < 4294967296) (hc : c < 4294967296) :
  Call0 Tryz.prog 181 [.p (.c (w32 x)), .p (.c (w32 y)), .p (.c (w32 c))] (.t [.c (w32 ((x + y + c) % 4294967296)), .c (w32 ((x + y + c) / 4294967296))]) := by
 refine callM_of (np := 0) Tryz.func181 (by kernel_rfl) rfl rfl (Nat.le_of_ble_eq_true rfl) (fun m h => absurd rfl h) (fun m h => absurd rfl h) rfl ?_
 refine AWp_sr hP<|RK.As rfl<|RK.As rfl<|RK.D<|AWp_sr hP<|RK.M rfl<|RK.V (op_conv hT rfl rfl rfl rfl (by first | exact IntWalk.u64_in _ (by omega) | rfl)) ?_
 refine RK.M rfl<|RK.V (op_conv hT rfl rfl rfl rfl (by first | exact IntWalk.u64_in _ (by omega) | rfl)) ?_
 refine RK.V (op_add rfl rfl (c := ((x + y : Nat) : Int)) (by rw [IntWalk.u64_in _ (by omega)]; omega)) ?_
 refine RK.M rfl<|RK.V (op_conv hT rfl rfl rfl rfl (by first | exact IntWalk.u64_in _ (by omega) | rfl)) ?_
 refine RK.V (op_add rfl rfl (c := ((x + y + c : Nat) : Int)) (by rw [IntWalk.u64_in _ (by omega)]; omega)) ?_
 refine RK.As rfl<|RK.D<|AWp_sr hP<|RK.M rfl<|RK.V (op_conv hT rfl rfl rfl rfl (c := (((x + y + c) % 4294967296 : Nat) : Int)) (by rw [IntKind.wrap_u32]; omega)) ?_
 refine RK.As rfl<|RK.D<|AWp_sr hP<|RK.M rfl<|RK.V (op_shrN (j := 32) rfl rfl (by first | decide | omega)) ?_
 refine RK.V (op_conv hT rfl rfl rfl rfl (c := (((x + y + c) / 4294967296 : Nat) : Int)) (by rw [IntWalk.u32_in _ (by omega)])) ?_
 refine RK.As rfl<|RK.D<|AWp_ret ?_
 refine ends_two rfl (.inr rfl) (res_tmp rfl) (res_tmp rfl) ?_ O_ends
 exact .refl _
theorem sub32 (x y c : Nat) (hx : x < 4294967296) (hy : y < 4294967296) (hc : c < 2) :
  Call0 Tryz.prog 182 [.p (.c (w32 x)), .p (.c (w32 y)), .p (.c (w32 c))] (.t [.c (w32 ((x + 8589934592 - y - c) % 4294967296)), .c (w32 (if x < y + c then 1 else 0))]) := by
 have hxy : (x ^^^ y) < 4294967296 := Nat.xor_lt_two_pow (n := 32) hx hy
 have hd : (x + 8589934592 - y - c) % 4294967296 < 4294967296 := Nat.mod_lt _ (by omega)
 have h1 : ((4294967295 - x) &&& y) < 4294967296 := Nat.lt_of_le_of_lt Nat.and_le_right hy
 have h2 : ((4294967295 - (x ^^^ y)) &&& ((x + 8589934592 - y - c) % 4294967296)) < 4294967296 := Nat.lt_of_le_of_lt Nat.and_le_right hd
 refine callM_of (np := 0) Tryz.func182 (by kernel_rfl) rfl rfl (Nat.le_of_ble_eq_true rfl) (fun m h => absurd rfl h) (fun m h => absurd rfl h) rfl ?_
 refine AWp_sr hP<|RK.As rfl<|RK.As rfl<|RK.D<|AWp_sr hP<|RK.M rfl<|RK.M rfl<|RK.V (op_sub rfl rfl rfl) ?_
 refine RK.M rfl<|RK.V (op_sub rfl rfl (c := (((x + 8589934592 - y - c) % 4294967296 : Nat) : Int)) (by simp only [IntKind.wrap_u32]; omega)) ?_
 refine RK.As rfl<|RK.D<|AWp_sr hP<|RK.M rfl<|RK.V (op_comp32 rfl (by first | assumption | omega)) ?_
 refine RK.M rfl<|RK.V (op_andN rfl rfl rfl (by first | exact lt32 (by omega) | exact lt64 (by omega)) (by first | exact lt32 (by omega) | exact lt64 (by omega))) ?_
 refine RK.M rfl<|RK.M rfl<|RK.V (op_xorN rfl rfl rfl (by first | exact lt32 (by omega) | exact lt64 (by omega)) (by first | exact lt32 (by omega) | exact lt64 (by omega))) ?_
 refine RK.V (op_comp32 rfl (by first | assumption | omega)) ?_
 refine RK.M rfl<|RK.V (op_andN rfl rfl rfl (by first | exact lt32 (by omega) | exact lt64 (by omega)) (by first | exact lt32 (by omega) | exact lt64 (by omega))) ?_
 refine RK.V (op_orN rfl rfl rfl (by first | exact lt32 (by omega) | exact lt64 (by omega)) (by first | exact lt32 (by omega) | exact lt64 (by omega))) ?_
 refine RK.V (op_shrN (j := 31) rfl rfl (by first | decide | omega)) ?_
 refine RK.As rfl<|RK.D<|AWp_ret ?_
 refine ends_two rfl (.inr rfl) (res_tmp rfl) (res_tmp rfl) ?_ O_ends
 exact Sub.of_eq (by rw [borrow_bit x y c hx hy hc]; rfl)
theorem len8tab : ∀ m, m < 256 → (⟨#[0, 1, 2, 2, 3, 3, 3, 3, 4, 4, 4, 4, 4, 4, 4, 4, 5, 5, 5, 5, 5, 5, 5, 5, 5, 5, 5, 5, 5, 5, 5, 5, 6, 6, 6, 6, 6, 6, 6, 6, 6, 6, 6, 6, 6, 6, 6, 6, 6, 6, 6, 6, 6, 6, 6, 6, 6, 6, 6, 6, 6, 6, 6, 6, 7, 7, 7, 7, 7, 7, 7, 7, 7, 7, 7, 7, 7, 7, 7, 7, 7, 7, 7, 7, 7, 7, 7, 7, 7, 7, 7, 7, 7, 7, 7, 7, 7, 7, 7, 7, 7, 7, 7, 7, 7, 7, 7, 7, 7, 7, 7, 7, 7, 7, 7, 7, 7, 7, 7, 7, 7, 7, 7, 7, 7, 7, 7, 7, 8, 8, 8, 8, 8, 8, 8, 8, 8, 8, 8, 8, 8, 8, 8, 8, 8, 8, 8, 8, 8, 8, 8, 8, 8, 8, 8, 8, 8, 8, 8, 8, 8, 8, 8, 8, 8, 8, 8, 8, 8, 8, 8, 8, 8, 8, 8, 8, 8, 8, 8, 8, 8, 8, 8, 8, 8, 8, 8, 8, 8, 8, 8, 8, 8, 8, 8, 8, 8, 8, 8, 8, 8, 8, 8, 8, 8, 8, 8, 8, 8, 8, 8, 8, 8, 8, 8, 8, 8, 8, 8, 8, 8, 8, 8, 8, 8, 8, 8, 8, 8, 8, 8, 8, 8, 8, 8, 8, 8, 8, 8, 8, 8, 8, 8, 8, 8, 8, 8, 8, 8, 8, 8, 8, 8, 8, 8, 8]⟩ : ByteArray)[m]? = some (UInt8.ofNat (blen m)) := by decide +kernel
theorem blen8 : ∀ m, m < 256 → (UInt8.ofNat (blen m)).toNat = blen m := by decide +kernel
theorem op_len8 {dst : Option Nat} {ty : TypeId} {pos : String} {af : Array Edge} {gd : Option (Nat × Bool)} {d : Nat} {ρ : Operand → AV} {own : Own} {x y : Operand} {m : Nat}
  (hx : ρ x = .p (.c (.v (.string ⟨#[0, 1, 2, 2, 3, 3, 3, 3, 4, 4, 4, 4, 4, 4, 4, 4, 5, 5, 5, 5, 5, 5, 5, 5, 5, 5, 5, 5, 5, 5, 5, 5, 6, 6, 6, 6, 6, 6, 6, 6, 6, 6, 6, 6, 6, 6, 6, 6, 6, 6, 6, 6, 6, 6, 6, 6, 6, 6, 6, 6, 6, 6, 6, 6, 7, 7, 7, 7, 7, 7, 7, 7, 7, 7, 7, 7, 7, 7, 7, 7, 7, 7, 7, 7, 7, 7, 7, 7, 7, 7, 7, 7, 7, 7, 7, 7, 7, 7, 7, 7, 7, 7, 7, 7, 7, 7, 7, 7, 7, 7, 7, 7, 7, 7, 7, 7, 7, 7, 7, 7, 7, 7, 7, 7, 7, 7, 7, 7, 8, 8, 8, 8, 8, 8, 8, 8, 8, 8, 8, 8, 8, 8, 8, 8, 8, 8, 8, 8, 8, 8, 8, 8, 8, 8, 8, 8, 8, 8, 8, 8, 8, 8, 8, 8, 8, 8, 8, 8, 8, 8, 8, 8, 8, 8, 8, 8, 8, 8, 8, 8, 8, 8, 8, 8, 8, 8, 8, 8, 8, 8, 8, 8, 8, 8, 8, 8, 8, 8, 8, 8, 8, 8, 8, 8, 8, 8, 8, 8, 8, 8, 8, 8, 8, 8, 8, 8, 8, 8, 8, 8, 8, 8, 8, 8, 8, 8, 8, 8, 8, 8, 8, 8, 8, 8, 8, 8, 8, 8, 8, 8, 8, 8, 8, 8, 8, 8, 8, 8, 8, 8, 8, 8, 8, 8, 8, 8]⟩)))) (hy : ρ y = .p (.c (.v (.int .u8 m)))) (hm : m < 256) : Eff Tryz.prog ⟨dst, .index 9 x y, ty, pos, af, gd⟩ d ρ own (.p (.c (.v (.int .u8 (blen m : Nat))))) [] none [] := by
 have h := op_index_str (P := Tryz.prog) (dst := dst) (ty := ty) (pos := pos) (af := af) (gd := gd) (d := d) (own := own) hT (T := 9) rfl rfl hx hy (by omega) (by rw [Int.toNat_natCast]; exact len8tab m hm)
 rw [blen8 m hm] at h
 exact h
theorem len32 (x : Nat) (hx : x < 4294967296) :
  Call0 Tryz.prog 205 [.p (.c (w32 x))] (Z (blen x)) := by
 refine callM_of (np := 0) Tryz.func205 (by kernel_rfl) rfl rfl (Nat.le_of_ble_eq_true rfl) (fun m h => absurd rfl h) (fun m h => absurd rfl h) rfl ?_
 refine AWp_sr hP<|RK.As rfl<|RK.D<|AWp_seq<|AWp_sr hP<|RK.M rfl<|RK.V (op_geq rfl rfl) ?_
 refine RK.D ?_
 refine AWp_cond rfl (fun hb1 => ?_) (fun hb1 => ?_)
 ·have hb1_ := of_decide_eq_true hb1
  refine AWp_sr hP<|RK.M rfl<|RK.V (op_shrN (j := 16) rfl rfl (by first | decide | omega)) ?_
  refine RK.As rfl<|RK.D<|AWp_region hP<|RK.As rfl<|RK.D<|AWp_seq<|AWp_sr hP<|RK.M rfl<|RK.V (op_geq rfl rfl) ?_
  refine RK.D ?_
  refine AWp_cond rfl (fun hb2 => ?_) (fun hb2 => ?_)
  ·have hb2_ := of_decide_eq_true hb2
   refine AWp_sr hP<|RK.M rfl<|RK.V (op_shrN (j := 8) rfl rfl (by first | decide | omega)) ?_
   refine RK.As rfl<|RK.D<|AWp_region hP<|RK.M rfl<|RK.V (op_add rfl rfl (by first | exact IntWalk.i64_in _ (by omega) | rfl)) ?_
   refine RK.As rfl<|RK.D<|AWp_sr hP<|RK.M rfl<|RK.M rfl<|RK.V (op_conv hT rfl rfl rfl rfl (IntWalk.u8_in _ (by omega))) ?_
   refine RK.V (op_len8 rfl rfl (by omega)) ?_
   refine RK.V (op_conv hT rfl rfl rfl rfl (IntWalk.i64_in _ (by first | (have h8 := blen8_le (m := x / 2 ^ 16 / 2 ^ 8) (by omega); omega) | (have h8 := blen8_le (m := x / 2 ^ 16) (by omega); omega) | (have h8 := blen8_le (m := x / 2 ^ 8) (by omega); omega) | (have h8 := blen8_le (m := x) (by omega); omega)))) ?_
   refine RK.V (op_add rfl rfl (IntWalk.i64_in _ (by first | (have h8 := blen8_le (m := x / 2 ^ 16 / 2 ^ 8) (by omega); omega) | (have h8 := blen8_le (m := x / 2 ^ 16) (by omega); omega) | (have h8 := blen8_le (m := x / 2 ^ 8) (by omega); omega) | (have h8 := blen8_le (m := x) (by omega); omega)))) ?_
   refine RK.As rfl<|RK.D<|AWp_ret ?_
   refine ends_one rfl (.inr rfl) (res_tmp rfl) ?_ O_ends
   have e : blen x = 16 + (8 + blen (x / 2 ^ 16 / 2 ^ 8)) := by rw [blen_div (k := 16) (by omega), blen_div (n := x / 2 ^ 16) (k := 8) (by omega)]
   exact Sub.int (by omega)
  ·have hb2_ := of_decide_eq_false hb2
   refine AWp_skip<|AWp_sr hP<|RK.M rfl<|RK.M rfl<|RK.V (op_conv hT rfl rfl rfl rfl (IntWalk.u8_in _ (by omega))) ?_
   refine RK.V (op_len8 rfl rfl (by omega)) ?_
   refine RK.V (op_conv hT rfl rfl rfl rfl (IntWalk.i64_in _ (by first | (have h8 := blen8_le (m := x / 2 ^ 16 / 2 ^ 8) (by omega); omega) | (have h8 := blen8_le (m := x / 2 ^ 16) (by omega); omega) | (have h8 := blen8_le (m := x / 2 ^ 8) (by omega); omega) | (have h8 := blen8_le (m := x) (by omega); omega)))) ?_
   refine RK.V (op_add rfl rfl (IntWalk.i64_in _ (by first | (have h8 := blen8_le (m := x / 2 ^ 16 / 2 ^ 8) (by omega); omega) | (have h8 := blen8_le (m := x / 2 ^ 16) (by omega); omega) | (have h8 := blen8_le (m := x / 2 ^ 8) (by omega); omega) | (have h8 := blen8_le (m := x) (by omega); omega)))) ?_
   refine RK.As rfl<|RK.D<|AWp_ret ?_
   refine ends_one rfl (.inr rfl) (res_tmp rfl) ?_ O_ends
   have e : blen x = 16 + blen (x / 2 ^ 16) := by rw [blen_div (k := 16) (by omega)]
   exact Sub.int (by omega)
 ·have hb1_ := of_decide_eq_false hb1
  refine AWp_skip<|AWp_seq<|AWp_sr hP<|RK.M rfl<|RK.V (op_geq rfl rfl) ?_
  refine RK.D ?_
  refine AWp_cond rfl (fun hb3 => ?_) (fun hb3 => ?_)
  ·have hb3_ := of_decide_eq_true hb3
   refine AWp_sr hP<|RK.M rfl<|RK.V (op_shrN (j := 8) rfl rfl (by first | decide | omega)) ?_
   refine RK.As rfl<|RK.D<|AWp_region hP<|RK.M rfl<|RK.V (op_add rfl rfl (by first | exact IntWalk.i64_in _ (by omega) | rfl)) ?_
   refine RK.As rfl<|RK.D<|AWp_sr hP<|RK.M rfl<|RK.M rfl<|RK.V (op_conv hT rfl rfl rfl rfl (IntWalk.u8_in _ (by omega))) ?_
   refine RK.V (op_len8 rfl rfl (by omega)) ?_
   refine RK.V (op_conv hT rfl rfl rfl rfl (IntWalk.i64_in _ (by first | (have h8 := blen8_le (m := x / 2 ^ 16 / 2 ^ 8) (by omega); omega) | (have h8 := blen8_le (m := x / 2 ^ 16) (by omega); omega) | (have h8 := blen8_le (m := x / 2 ^ 8) (by omega); omega) | (have h8 := blen8_le (m := x) (by omega); omega)))) ?_
   refine RK.V (op_add rfl rfl (IntWalk.i64_in _ (by first | (have h8 := blen8_le (m := x / 2 ^ 16 / 2 ^ 8) (by omega); omega) | (have h8 := blen8_le (m := x / 2 ^ 16) (by omega); omega) | (have h8 := blen8_le (m := x / 2 ^ 8) (by omega); omega) | (have h8 := blen8_le (m := x) (by omega); omega)))) ?_
   refine RK.As rfl<|RK.D<|AWp_ret ?_
   refine ends_one rfl (.inr rfl) (res_tmp rfl) ?_ O_ends
   have e : blen x = 8 + blen (x / 2 ^ 8) := by rw [blen_div (k := 8) (by omega)]
   exact Sub.int (by omega)
  ·have hb3_ := of_decide_eq_false hb3
   refine AWp_skip<|AWp_sr hP<|RK.M rfl<|RK.M rfl<|RK.V (op_conv hT rfl rfl rfl rfl (IntWalk.u8_in _ (by omega))) ?_
   refine RK.V (op_len8 rfl rfl (by omega)) ?_
   refine RK.V (op_conv hT rfl rfl rfl rfl (IntWalk.i64_in _ (by first | (have h8 := blen8_le (m := x / 2 ^ 16 / 2 ^ 8) (by omega); omega) | (have h8 := blen8_le (m := x / 2 ^ 16) (by omega); omega) | (have h8 := blen8_le (m := x / 2 ^ 8) (by omega); omega) | (have h8 := blen8_le (m := x) (by omega); omega)))) ?_
   refine RK.V (op_add rfl rfl (IntWalk.i64_in _ (by first | (have h8 := blen8_le (m := x / 2 ^ 16 / 2 ^ 8) (by omega); omega) | (have h8 := blen8_le (m := x / 2 ^ 16) (by omega); omega) | (have h8 := blen8_le (m := x / 2 ^ 8) (by omega); omega) | (have h8 := blen8_le (m := x) (by omega); omega)))) ?_
   refine RK.As rfl<|RK.D<|AWp_ret ?_
   refine ends_one rfl (.inr rfl) (res_tmp rfl) ?_ O_ends
   exact Sub.int (by omega)
theorem lz32 (x : Nat) (hx : x < 4294967296) :
  Call0 Tryz.prog 184 [.p (.c (w32 x))] (Z (32 - (blen x : Nat))) := by
 have hb := blen_le (k := 32) hx
 refine callM_of (np := 0) Tryz.func184 (by kernel_rfl) rfl rfl (Nat.le_of_ble_eq_true rfl) (fun m h => absurd rfl h) (fun m h => absurd rfl h) rfl ?_
 refine AWp_sr hP<|RK.As rfl<|RK.D<|AWp_sr hP<|RK.M rfl<|RK.V (Eff.call0 (len32 _ (by assumption))) ?_
 refine RK.V (op_sub rfl rfl (by first | exact IntWalk.i64_in _ (by omega) | rfl)) ?_
 refine RK.As rfl<|RK.D<|AWp_ret ?_
 refine ends_one rfl (.inr rfl) (res_tmp rfl) ?_ O_ends
 exact .refl _
theorem div32 (hi lo y : Nat) (hy : y < 4294967296) (hh : hi < y) (hl : lo < 4294967296) :
  Call0 Tryz.prog 220 [.p (.c (w32 hi)), .p (.c (w32 lo)), .p (.c (w32 y))] (.t [.c (w32 ((hi * 4294967296 + lo) / y)), .c (w32 ((hi * 4294967296 + lo) % y))]) := by
 have hq : (hi * 4294967296 + lo) / y < 4294967296 := (Nat.div_lt_iff_lt_mul (by omega)).2 (by have : (hi + 1) * 4294967296 ≤ y * 4294967296 := Nat.mul_le_mul_right _ hh; omega)
 have hr : (hi * 4294967296 + lo) % y < y := Nat.mod_lt _ (by omega)
 refine callM_of (np := 0) Tryz.func220 (by kernel_rfl) rfl rfl (Nat.le_of_ble_eq_true rfl) (fun m h => absurd rfl h) (fun m h => absurd rfl h) rfl ?_
 refine AWp_sr hP<|RK.As rfl<|RK.As rfl<|RK.D<|AWp_seq<|AWp_sr hP<|RK.M rfl<|RK.V (op_neq rfl rfl) ?_
 refine RK.M rfl<|RK.val (guard_yes rfl rfl (bne_iff_ne.2 (by omega))) (op_move (rfl : _ = AV.p (.c _))) ?_
 refine RK.val (guard_yes rfl rfl (bne_iff_ne.2 (by omega))) (op_move (rfl : _ = AV.p (.c _))) ?_
 refine RK.val (guard_yes rfl rfl (bne_iff_ne.2 (by omega))) (op_leq rfl rfl) ?_
 refine RK.V (op_pick_t rfl (bne_iff_ne.2 (by omega)) (rfl : _ = AV.p (.c _))) ?_
 refine RK.D<|AWp_cond_false rfl (decide_eq_false (by omega)) ?_
 refine AWp_skip<|AWp_sr hP<|RK.M rfl<|RK.V (op_conv hT rfl rfl rfl rfl (IntWalk.u64_in _ (by omega))) ?_
 refine RK.V (op_shlN (j := 32) rfl rfl (by first | decide | omega) rfl) ?_
 refine RK.M rfl<|RK.V (op_conv hT rfl rfl rfl rfl (IntWalk.u64_in _ (by omega))) ?_
 refine RK.V (op_or rfl rfl (bits_hilo (by omega) hl)) ?_
 refine RK.As rfl<|RK.D<|AWp_sr hP<|RK.M rfl<|RK.M rfl<|RK.V (op_conv hT rfl rfl rfl rfl (IntWalk.u64_in _ (by omega))) ?_
 refine RK.V (op_quo rfl rfl (by omega) (c := (((hi * 4294967296 + lo) / y : Nat) : Int)) (by rw [Int.tdiv_eq_ediv_of_nonneg (by omega), ← Int.natCast_ediv, u64N (by omega)])) ?_
 refine RK.V (op_conv hT rfl rfl rfl rfl (u32N (by omega))) ?_
 refine RK.M rfl<|RK.M rfl<|RK.V (op_conv hT rfl rfl rfl rfl (IntWalk.u64_in _ (by omega))) ?_
 refine RK.V (op_rem rfl rfl (by omega) (c := (((hi * 4294967296 + lo) % y : Nat) : Int)) (by rw [Int.tmod_eq_emod_of_nonneg (by omega), ← Int.natCast_emod])) ?_
 refine RK.V (op_conv hT rfl rfl rfl rfl (u32N (by omega))) ?_
 refine RK.As rfl<|RK.As rfl<|RK.D<|AWp_ret ?_
 refine ends_two rfl (.inr rfl) (res_tmp rfl) (res_tmp rfl) ?_ O_ends
 exact .refl _
end Go.Proofs.YtpaifigafaijpaaGreatDoor
end
section
namespace Go.Proofs.YtpaifigafaijpaaGreatDoor
open Go Go.AM
theorem nat_cmp (m n : Nat) :
  Call0 Tryz.prog 130 [.p (.c (nt m)), .p (.c (nt n))] (Z (cmpI m n)) := by
 refine callM_of (np := 0) Tryz.func130 (by kernel_rfl) rfl rfl (Nat.le_of_ble_eq_true rfl) (fun m h => absurd rfl h) (fun m h => absurd rfl h) rfl ?_
 refine AWp_len (t := 0) rfl rfl (fun hlen => ?_)
 refine AWp_len (t := 1) rfl rfl (fun hlen2 => ?_)
 refine AWp_sr hP<|RK.As rfl<|RK.D<|AWp_seq<|AWp_sr hP<|RK.M rfl<|RK.V (op_len hT rfl rfl rfl rfl)<|RK.M rfl<|RK.V (op_len hT rfl rfl rfl rfl)<|RK.V (Eff.call0 (compare_int _ _)) ?_
 refine RK.As rfl<|RK.D<|AWp_sr hP<|RK.M rfl<|RK.V (op_neq rfl rfl) ?_
 refine RK.D ?_
 refine AWp_cond rfl (fun hb1 => ?_) (fun hb1 => ?_)
 ·have hb1_ := bneT hb1
  refine AWp_sr hP<|RK.M rfl<|RK.As rfl<|RK.D<|AWp_ret ?_
  refine ends_one rfl (.inr rfl) (res_tmp rfl) ?_ O_ends
  exact Sub.int (cmp_len hb1_)
 ·have hb1_ := bneF hb1
  refine AWp_skip<|AWp_seq<|AWp_sr hP<|RK.M rfl<|RK.V (op_len hT rfl rfl rfl rfl)<|RK.V (op_sub rfl rfl (by first | exact IntWalk.i64_in _ (by omega) | rfl)) ?_
  refine RK.As rfl<|RK.D<|AWp_block ?_
  have hll : (wl m).length = (wl n).length := by have := cmpI_eq hb1_; omega
  refine AWp_loop (ι := Nat) (fun k => stL [(0, .p (.c (nt m))), (1, .p (.c (nt n))), (6, Z ((k : Int) - 1))] []) (fun k => k ≤ (wl m).length ∧ (wl m).drop k = (wl n).drop k) (fun k => k) (wl m).length ⟨Nat.le_refl _, by rw [List.drop_length, hll, List.drop_length]⟩ (le_stL ⟨.refl _, .refl _, .refl _, trivial⟩ trivial) ?_
  rintro k ⟨hk, he⟩
  refine AWp_seq<|AWp_sr hP<|RK.M rfl<|RK.V (op_geq rfl rfl) ?_
  refine RK.D ?_
  refine AWp_cond rfl (fun hb2 => ?_) (fun hb2 => ?_)
  ·have hb2_ := of_decide_eq_true hb2
   refine AWp_skip<|AWp_seq<|AWp_block<|AWp_sr hP<|RK.M rfl<|RK.M rfl<|RK.V (op_index_sl hT rfl rfl rfl rfl rfl rfl (l := (wl m).length) (xs := (wl m).map w32) (by omega) (W_ne (by omega))) ?_
   refine RK.V (op_load_ip_one hT rfl rfl rfl (by first | rfl | exact wget (by omega))) ?_
   refine RK.M rfl<|RK.M rfl<|RK.V (op_index_sl hT rfl rfl rfl rfl rfl rfl (l := (wl n).length) (xs := (wl n).map w32) (by omega) (W_ne (by omega))) ?_
   refine RK.V (op_load_ip_one hT rfl rfl rfl (by first | rfl | exact wget (by omega))) ?_
   refine RK.V (Eff.call0 (compare_u32 _ _)) ?_
   refine RK.As rfl<|RK.D<|AWp_sr hP<|RK.M rfl<|RK.V (op_neq rfl rfl) ?_
   refine RK.D ?_
   refine AWp_cond rfl (fun hb3 => ?_) (fun hb3 => ?_)
   ·have hb3_ := bneT hb3
    refine AWp_sr hP<|RK.M rfl<|RK.As rfl<|RK.D<|AWp_ret ?_
    refine ends_one rfl (.inr rfl) (res_tmp rfl) ?_ O_ends
    have hkk : ((k : Int) - 1).toNat = k - 1 := by omega
    rw [hkk] at hb3_ ⊢
    have h2 := cmp_word (wl_ok m) (wl_ok n) hll (k := k - 1) (by omega) (by rw [show k - 1 + 1 = k by omega]; exact he) hb3_
    rw [wv_wl, wv_wl] at h2
    exact Sub.int h2
   ·have hb3_ := bneF hb3
    refine AWp_skip<|AWp_region hP<|RK.M rfl<|RK.V (op_sub rfl rfl (by first | exact IntWalk.i64_in _ (by omega) | rfl)) ?_
    refine RK.As rfl<|RK.D ?_
    have hkk : ((k : Int) - 1).toNat = k - 1 := by omega
    have he2 := cmpI_eq hb3_
    rw [hkk] at he2
    refine ⟨k - 1, ⟨by omega, ?_⟩, by omega, le_stL ⟨.refl _, .refl _, Sub.int (by omega), trivial⟩ trivial⟩
    have e1 := drop_getD (ws := wl m) (k := k - 1) (by omega)
    have e2 := drop_getD (ws := wl n) (k := k - 1) (by omega)
    rw [e1, e2, show k - 1 + 1 = k by omega, he]
    congr 1
    omega
  ·have hb2_ := of_decide_eq_false hb2
   refine AWp_exit<|AWp_sr hP<|RK.As rfl<|RK.D<|AWp_ret ?_
   refine ends_one rfl (.inr rfl) (res_tmp rfl) ?_ O_ends
   have hk0 : k = 0 := by omega
   rw [hk0, List.drop_zero, List.drop_zero] at he
   have : m = n := by rw [← wv_wl m, he, wv_wl]
   exact Sub.int (by rw [this, cmpI_self])
theorem nat_add (a b : List Nat) (ha : okW a) (hb : okW b) (hla : a.length ≤ 1099511627776) (hlb : b.length ≤ 1099511627776) :
  Call0 Tryz.prog 133 [.p (.c (W a)), .p (.c (W b))] (.p (.c (nt (wv a + wv b)))) := by
 refine callM_of (np := 0) Tryz.func133 (by kernel_rfl) rfl rfl (Nat.le_of_ble_eq_true rfl) (fun m h => absurd rfl h) (fun m h => absurd rfl h) rfl ?_
 refine AWp_sr hP<|RK.As rfl<|RK.D<|AWp_seq_cut (ι := List Nat × List Nat) (fun ⟨p, q⟩ => stL [(0, .p (.c (W p))), (1, .p (.c (W q)))] []) (fun ⟨p, q⟩ => okW p ∧ okW q ∧ q.length ≤ p.length ∧ p.length ≤ 1099511627776 ∧ wv p + wv q = wv a + wv b) ?_ ?_
 ·refine AWp_sr hP<|RK.M rfl<|RK.V (op_len hT rfl rfl rfl rfl)<|RK.M rfl<|RK.V (op_len hT rfl rfl rfl rfl)<|RK.V (op_lss rfl rfl)<|RK.D ?_
  refine AWp_cond rfl (fun hb1 => ?_) (fun hb1 => ?_)
  ·have hb1_ := of_decide_eq_true hb1
   refine AWp_region hP<|RK.M rfl<|RK.M rfl<|RK.As rfl<|RK.As rfl<|RK.D ?_
   exact ⟨(b, a), ⟨hb, ha, by omega, hlb, Nat.add_comm _ _⟩, le_stL ⟨.refl _, .refl _, trivial⟩ trivial⟩
  ·have hb1_ := of_decide_eq_false hb1
   refine AWp_skip ?_
   exact ⟨(a, b), ⟨ha, hb, by omega, hla, rfl⟩, le_stL ⟨.refl _, .refl _, trivial⟩ trivial⟩
 clear hla hlb
 generalize hS : wv a + wv b = S
 clear ha hb
 rintro ⟨a, b⟩ ⟨ha, hb, hl, hla, hs⟩
 refine AWp_sr hP<|RK.M rfl<|RK.V (op_len hT rfl rfl rfl rfl)<|RK.V (op_add rfl rfl (by first | exact IntWalk.i64_in _ (by omega) | rfl)) ?_
 refine RK.alc guard_none (op_makeW hT rfl rfl rfl rfl rfl rfl rfl rfl (by omega)) ?_
 refine RK.V (op_assign (rfl : _ = AV.vec _))<|RK.D<|AWp_sr hP<|RK.V (op_move (rfl : _ = AV.vec _))<|RK.M rfl<|RK.mut guard_none (op_copyWv hT rfl rfl rfl rfl rfl rfl rfl (by simp) (ws' := a ++ [0]) (by rw [rep_tail])) ?_
 refine RK.D<|AWp_sr hP<|RK.As rfl<|RK.D<|AWp_seq<|AWp_sr hP<|RK.V (op_move (rfl : _ = AV.vec _))<|RK.V (op_len_vecW hT rfl rfl rfl rfl) ?_
 refine RK.M rfl<|RK.D<|AWp_block ?_
 have hA : okW (a ++ [0]) := ha.snoc (by omega)
 refine AWp_loop (ι := List Nat × Nat) (fun ⟨l, c⟩ => stL [(1, .p (.c (W b))), (5, .vec 19), (6, .p (.c (w32 c))), (24, Z (((a ++ [0]).length : Nat) : Int)), (25, Z ((l.length : Nat) : Int))] [(19, WB 111 (l ++ (a ++ [0]).drop l.length))]) (fun ⟨l, c⟩ => l.length ≤ (a ++ [0]).length ∧ okW l ∧ c < 2 ∧ wv l + 4294967296 ^ l.length * c = wv ((a ++ [0]).take l.length) + wv (b.take l.length)) (fun ⟨l, _⟩ => (a ++ [0]).length - l.length) ([], 0) ⟨Nat.zero_le _, okW.nil, by omega, by simp [wv]⟩ (le_stL ⟨.refl _, .refl _, .refl _, .refl _, .refl _, trivial⟩ ⟨rfl, trivial⟩) ?_
 rintro ⟨l, c⟩ ⟨hll, hol, hc, hv⟩
 have hmid := mid_len hll
 have hAlen : (a ++ [0]).length = a.length + 1 := by simp
 refine AWp_sr hP<|RK.V (op_lss rfl rfl)<|RK.D<|AWp_seq ?_
 refine AWp_cond rfl (fun hb2 => ?_) (fun hb2 => ?_)
 ·have hb2_ := of_decide_eq_true hb2
  have hlt : l.length < (a ++ [0]).length := by omega
  refine AWp_skip<|AWp_seq<|AWp_block<|AWp_sr hP<|RK.M rfl<|RK.As rfl<|RK.D<|AWp_sr hP<|RK.As rfl<|RK.D<|AWp_seq_cut (ι := Unit) (fun _ => stL [(1, .p (.c (W b))), (5, .vec 19), (6, .p (.c (w32 c))), (24, Z (((a ++ [0]).length : Nat) : Int)), (25, Z ((l.length : Nat) : Int)), (7, Z ((l.length : Nat) : Int)), (8, .p (.c (w32 (b.getD l.length 0))))] [(19, WB 111 (l ++ (a ++ [0]).drop l.length))]) (fun _ => True) ?_ ?_
  ·refine AWp_sr hP<|RK.M rfl<|RK.M rfl<|RK.V (op_len hT rfl rfl rfl rfl)<|RK.V (op_lss rfl rfl)<|RK.D ?_
   refine AWp_cond rfl (fun hb3 => ?_) (fun hb3 => ?_)
   ·have hb3_ := of_decide_eq_true hb3
    refine AWp_region hP<|RK.M rfl<|RK.M rfl<|RK.V (by first | exact op_index_WN hT rfl rfl rfl rfl rfl rfl (by omega) | exact op_index_sl hT rfl rfl rfl rfl rfl rfl (by omega) (by first | exact W_ne (by omega) | simp)) ?_
    refine RK.V (op_load_ip_one hT rfl rfl rfl (by first | rfl | exact wget (by omega))) ?_
    refine RK.As rfl<|RK.D ?_
    exact ⟨(), trivial, le_stL ⟨.refl _, .refl _, .refl _, .refl _, .refl _, .refl _, .refl _, trivial⟩ ⟨rfl, trivial⟩⟩
   ·have hb3_ := of_decide_eq_false hb3
    refine AWp_skip ?_
    exact ⟨(), trivial, le_stL ⟨.refl _, .refl _, .refl _, .refl _, .refl _, .refl _, Sub.of_eq (by rw [getD_ge (by omega)]; rfl), trivial⟩ ⟨rfl, trivial⟩⟩
  rintro _ -
  refine AWp_region hP<|RK.V (op_move (rfl : _ = AV.vec _))<|RK.M rfl<|RK.V (op_move (rfl : _ = AV.vec _))<|RK.M rfl<|RK.V (by first | exact op_index_vecWN hT rfl rfl rfl rfl rfl rfl rfl (by first | omega | (simp; omega)) | exact op_index_vecW hT rfl rfl rfl rfl rfl rfl rfl (by first | omega | (simp; omega))) ?_
  refine RK.V (op_loadWv hT rfl rfl rfl rfl (by first | omega | (simp; omega)) (mid_get hlt)) ?_
  refine RK.M rfl<|RK.M rfl<|RK.V (Eff.call0 (add32 _ _ _ (hA.getD _) (hb.getD _) (by omega))) ?_
  refine RK.V (op_move (rfl : _ = AV.t _))<|RK.V (op_extract rfl (v := .c _) rfl)<|RK.V (op_extract rfl (v := .c _) rfl)<|RK.V (by first | exact op_index_vecWN hT rfl rfl rfl rfl rfl rfl rfl (by first | omega | (simp; omega)) | exact op_index_vecW hT rfl rfl rfl rfl rfl rfl rfl (by first | omega | (simp; omega))) ?_
  refine RK.sto guard_none (op_storeWv hT rfl rfl rfl rfl rfl (by first | omega | (simp; omega)) (mid_set hlt)) ?_
  refine RK.As rfl<|RK.D<|AWp_region hP<|RK.V (op_add rfl rfl (by first | exact IntWalk.i64_in _ (by omega) | rfl)) ?_
  refine RK.M rfl<|RK.D ?_
  have hs1 := hA.getD l.length
  have hs2 := hb.getD l.length
  have hr := add_round (A := (a ++ [0])) (b := b) (_r := []) hlt rfl hv _ rfl
  refine ⟨(l ++ [((a ++ [0]).getD l.length 0 + b.getD l.length 0 + c) % 4294967296], ((a ++ [0]).getD l.length 0 + b.getD l.length 0 + c) / 4294967296), ⟨by simp; omega, hol.snoc (Nat.mod_lt _ (by omega)), by omega, by simpa using hr⟩, by simp; omega, le_stL ⟨.refl _, .refl _, .refl _, .refl _, Sub.int (by simp), trivial⟩ ⟨rfl, trivial⟩⟩
 ·have hb2_ := of_decide_eq_false hb2
  have hge : l.length = (a ++ [0]).length := by omega
  have hfin := hol.app (hA.drop l.length)
  have hval := add_final hge hl ha hb hol hv
  refine AWp_exit<|AWp_freezeW (t := 5) rfl rfl ?_
  refine AWp_sr hP<|RK.M rfl<|RK.V (Eff.call0 (nat_trim _ hfin)) ?_
  refine RK.As rfl<|RK.D<|AWp_ret ?_
  refine ends_one rfl (.inr rfl) (res_tmp rfl) ?_ O_ends
  exact Sub.of_eq (by rw [hval, hs])
end Go.Proofs.YtpaifigafaijpaaGreatDoor
end
section
namespace Go.Proofs.YtpaifigafaijpaaGreatDoor
open Go Go.AM
theorem nat_sub (a b : List Nat) (ha : okW a) (hb : okW b) (hla : a.length ≤ 1099511627776) (hab : b.length ≤ a.length) (hle : wv b ≤ wv a) :
  Call0 Tryz.prog 134 [.p (.c (W a)), .p (.c (W b))] (.p (.c (nt (wv a - wv b)))) := by
 refine callM_of (np := 0) Tryz.func134 (by kernel_rfl) rfl rfl (Nat.le_of_ble_eq_true rfl) (fun m h => absurd rfl h) (fun m h => absurd rfl h) rfl ?_
 have h0l : (0 : Nat) ≤ a.length := Nat.zero_le _
 refine AWp_sr hP<|RK.As rfl<|RK.D<|AWp_sr hP<|RK.M rfl<|RK.V (op_len hT rfl rfl rfl rfl)<|RK.alc guard_none (op_makeW hT rfl rfl rfl rfl rfl rfl rfl rfl (by omega)) ?_
 refine RK.V (op_assign (rfl : _ = AV.vec _))<|RK.D<|AWp_sr hP<|RK.V (op_move (rfl : _ = AV.vec _))<|RK.M rfl<|RK.mut guard_none (op_copyWv hT rfl rfl rfl rfl rfl rfl rfl (by simp) (ws' := a) (by rw [rep_none, List.append_nil])) ?_
 refine RK.D<|AWp_sr hP<|RK.As rfl<|RK.D<|AWp_seq<|AWp_sr hP<|RK.V (op_move (rfl : _ = AV.vec _))<|RK.V (op_len_vecW hT rfl rfl rfl rfl) ?_
 refine RK.M rfl<|RK.D<|AWp_block<|AWp_loop (ι := List Nat × Nat) (fun ⟨l, c⟩ => stL [(1, .p (.c (W b))), (5, .vec 11), (6, .p (.c (w32 c))), (16, Z ((a.length : Nat) : Int)), (17, Z ((l.length : Nat) : Int))] [(11, WB 111 (l ++ a.drop l.length))]) (fun ⟨l, c⟩ => l.length ≤ a.length ∧ okW l ∧ c < 2 ∧ wv l + wv (b.take l.length) = wv (a.take l.length) + 4294967296 ^ l.length * c) (fun ⟨l, _⟩ => a.length - l.length) ([], 0) ⟨Nat.zero_le _, okW.nil, by omega, by simp [wv]⟩ (le_stL ⟨.refl _, .refl _, .refl _, .refl _, .refl _, trivial⟩ ⟨rfl, trivial⟩) ?_
 rintro ⟨l, c⟩ ⟨hll, hol, hc, hv⟩
 have hmid := mid_len hll
 refine AWp_sr hP<|RK.V (op_lss rfl rfl)<|RK.D<|AWp_seq ?_
 refine AWp_cond rfl (fun hb1 => ?_) (fun hb1 => ?_)
 ·have hb1_ := of_decide_eq_true hb1
  have hlt : l.length < a.length := by omega
  refine AWp_skip<|AWp_seq<|AWp_block<|AWp_sr hP<|RK.M rfl<|RK.As rfl<|RK.D<|AWp_sr hP<|RK.As rfl<|RK.D<|AWp_seq_cut (ι := Unit) (fun _ => stL [(1, .p (.c (W b))), (5, .vec 11), (6, .p (.c (w32 c))), (16, Z ((a.length : Nat) : Int)), (17, Z ((l.length : Nat) : Int)), (7, Z ((l.length : Nat) : Int)), (8, .p (.c (w32 (b.getD l.length 0))))] [(11, WB 111 (l ++ a.drop l.length))]) (fun _ => True) ?_ ?_
  ·refine AWp_sr hP<|RK.M rfl<|RK.M rfl<|RK.V (op_len hT rfl rfl rfl rfl)<|RK.V (op_lss rfl rfl)<|RK.D ?_
   refine AWp_cond rfl (fun hb2 => ?_) (fun hb2 => ?_)
   ·have hb2_ := of_decide_eq_true hb2
    refine AWp_region hP<|RK.M rfl<|RK.M rfl<|RK.V (by first | exact op_index_WN hT rfl rfl rfl rfl rfl rfl (by omega) | exact op_index_sl hT rfl rfl rfl rfl rfl rfl (by omega) (by first | exact W_ne (by omega) | simp)) ?_
    refine RK.V (op_load_ip_one hT rfl rfl rfl (by first | rfl | exact wget (by omega))) ?_
    refine RK.As rfl<|RK.D ?_
    exact ⟨(), trivial, le_stL ⟨.refl _, .refl _, .refl _, .refl _, .refl _, .refl _, .refl _, trivial⟩ ⟨rfl, trivial⟩⟩
   ·have hb2_ := of_decide_eq_false hb2
    refine AWp_skip ?_
    exact ⟨(), trivial, le_stL ⟨.refl _, .refl _, .refl _, .refl _, .refl _, .refl _, Sub.of_eq (by rw [getD_ge (by omega)]; rfl), trivial⟩ ⟨rfl, trivial⟩⟩
  rintro _ -
  refine AWp_region hP<|RK.V (op_move (rfl : _ = AV.vec _))<|RK.M rfl<|RK.V (op_move (rfl : _ = AV.vec _))<|RK.M rfl<|RK.V (by first | exact op_index_vecWN hT rfl rfl rfl rfl rfl rfl rfl (by first | omega | (simp; omega)) | exact op_index_vecW hT rfl rfl rfl rfl rfl rfl rfl (by first | omega | (simp; omega))) ?_
  refine RK.V (op_loadWv hT rfl rfl rfl rfl (by first | omega | (simp; omega)) (mid_get hlt)) ?_
  refine RK.M rfl<|RK.M rfl<|RK.V (Eff.call0 (sub32 _ _ _ (ha.getD _) (hb.getD _) hc)) ?_
  refine RK.V (op_move (rfl : _ = AV.t _))<|RK.V (op_extract rfl (v := .c _) rfl)<|RK.V (op_extract rfl (v := .c _) rfl)<|RK.V (by first | exact op_index_vecWN hT rfl rfl rfl rfl rfl rfl rfl (by first | omega | (simp; omega)) | exact op_index_vecW hT rfl rfl rfl rfl rfl rfl rfl (by first | omega | (simp; omega))) ?_
  refine RK.sto guard_none (op_storeWv hT rfl rfl rfl rfl rfl (by first | omega | (simp; omega)) (mid_set hlt)) ?_
  refine RK.As rfl<|RK.D<|AWp_region hP<|RK.V (op_add rfl rfl (by first | exact IntWalk.i64_in _ (by omega) | rfl)) ?_
  refine RK.M rfl<|RK.D ?_
  have hr := sub_round rfl hc ha hb hv
  refine ⟨(l ++ [(a.getD l.length 0 + 8589934592 - b.getD l.length 0 - c) % 4294967296], if a.getD l.length 0 < b.getD l.length 0 + c then 1 else 0), ⟨by simp; omega, hol.snoc (Nat.mod_lt _ (by omega)), by split <;> omega, by simpa using hr⟩, by simp; omega, le_stL ⟨.refl _, .refl _, .refl _, .refl _, Sub.int (by simp), trivial⟩ ⟨rfl, trivial⟩⟩
 ·have hb1_ := of_decide_eq_false hb1
  have hge : l.length = a.length := by omega
  have hfin := hol.app (ha.drop l.length)
  have hval := sub_final hge hab hle hol hv
  refine AWp_exit<|AWp_freezeW (t := 5) rfl rfl ?_
  refine AWp_sr hP<|RK.M rfl<|RK.V (Eff.call0 (nat_trim _ hfin)) ?_
  refine RK.As rfl<|RK.D<|AWp_ret ?_
  refine ends_one rfl (.inr rfl) (res_tmp rfl) ?_ O_ends
  exact Sub.of_eq (by rw [hval])
theorem nat_mul (a b : List Nat) (ha : okW a) (hb : okW b) (hla : a.length ≤ 1099511627776) (hlb : b.length ≤ 1099511627776) :
  Call0 Tryz.prog 128 [.p (.c (W a)), .p (.c (W b))] (.p (.c (nt (wv a * wv b)))) := by
 refine callM_of (np := 0) Tryz.func128 (by kernel_rfl) rfl rfl (Nat.le_of_ble_eq_true rfl) (fun m h => absurd rfl h) (fun m h => absurd rfl h) rfl ?_
 refine AWp_sr hP<|RK.As rfl<|RK.D<|AWp_sr hP<|RK.M rfl<|RK.V (op_len hT rfl rfl rfl rfl)<|RK.M rfl<|RK.V (op_len hT rfl rfl rfl rfl)<|RK.V (op_add rfl rfl (by first | exact IntWalk.i64_in _ (by omega) | rfl)) ?_
 refine RK.alc guard_none (op_makeW hT rfl rfl rfl rfl rfl rfl rfl rfl (by omega)) ?_
 refine RK.V (op_assign (rfl : _ = AV.vec _))<|RK.D<|AWp_seq<|AWp_sr hP<|RK.M rfl<|RK.V (op_len hT rfl rfl rfl rfl)<|RK.M rfl<|RK.D<|AWp_block<|AWp_loop (ι := List Nat × Nat) (fun ⟨o, i⟩ => stL [(1, .p (.c (W b))), (5, .vec 17), (18, .p (.c (W a))), (19, Z ((a.length : Nat) : Int)), (20, Z (i : Int))] [(17, WB 111 o)]) (fun ⟨o, i⟩ => i ≤ a.length ∧ o.length = a.length + b.length ∧ okW o ∧ wv o = wv (a.take i) * wv b ∧ ∀ j, i + b.length ≤ j → o.getD j 0 = 0) (fun ⟨_, i⟩ => a.length - i) (List.replicate ((a.length : Int) + (b.length : Int)).toNat 0, 0) ⟨Nat.zero_le _, by simp; omega, okW.rep _, by rw [wv_rep]; simp [wv], fun j _ => getD_rep _ _⟩ (le_stL ⟨.refl _, .refl _, .refl _, .refl _, .refl _, trivial⟩ ⟨rfl, trivial⟩) ?_
 rintro ⟨o, i⟩ ⟨hi, hlo, ho, hv, hz⟩
 refine AWp_sr hP<|RK.V (op_lss rfl rfl)<|RK.D<|AWp_seq ?_
 refine AWp_cond rfl (fun hb1 => ?_) (fun hb1 => ?_)
 ·have hb1_ := of_decide_eq_true hb1
  have hlt0 : i < a.length := by omega
  refine AWp_skip<|AWp_seq<|AWp_block<|AWp_sr hP<|RK.M rfl<|RK.V (by first | exact op_index_WN hT rfl rfl rfl rfl rfl rfl (by omega) | exact op_index_sl hT rfl rfl rfl rfl rfl rfl (by omega) (by first | exact W_ne (by omega) | simp)) ?_
  refine RK.V (op_load_ip_one hT rfl rfl rfl (by first | rfl | exact wget (by omega))) ?_
  refine RK.As rfl<|RK.As rfl<|RK.D<|AWp_sr hP<|RK.As rfl<|RK.D<|AWp_seq<|AWp_sr hP<|RK.M rfl<|RK.V (op_len hT rfl rfl rfl rfl)<|RK.M rfl<|RK.D<|AWp_block ?_
  obtain ⟨o0, ho0⟩ : ∃ o0, o0 = o := ⟨_, rfl⟩
  have hv0 := hv
  rw [← ho0] at hv
  refine AWp_loop (ι := List Nat × Nat × Nat) (fun ⟨o, k, c⟩ => stL [(1, .p (.c (W b))), (5, .vec 17), (18, .p (.c (W a))), (19, Z ((a.length : Nat) : Int)), (20, Z (i : Int)), (6, Z (i : Int)), (7, .p (.c (w32 (a.getD i 0)))), (8, .p (.c (.v (.int .u64 (c : Nat))))), (25, .p (.c (W b))), (26, Z ((b.length : Nat) : Int)), (27, Z (k : Int))] [(17, WB 111 o)]) (fun ⟨o, k, c⟩ => k ≤ b.length ∧ o.length = a.length + b.length ∧ okW o ∧ c < 4294967296 ∧ wv o + 4294967296 ^ (i + k) * c = wv o0 + 4294967296 ^ i * (a.getD i 0 * wv (b.take k)) ∧ ∀ j, i + b.length ≤ j → o.getD j 0 = 0) (fun ⟨_, k, _⟩ => b.length - k) (o, 0, 0) ⟨Nat.zero_le _, hlo, ho, by omega, by rw [ho0]; simp [wv], hz⟩ (le_stL ⟨.refl _, .refl _, .refl _, .refl _, .refl _, .refl _, .refl _, .refl _, .refl _, .refl _, .refl _, trivial⟩ ⟨rfl, trivial⟩) ?_
  clear hlo ho hz hv0 ho0
  rintro ⟨o, k, c⟩ ⟨hk, hlo, ho, hc, hkv, hz⟩
  refine AWp_sr hP<|RK.V (op_lss rfl rfl)<|RK.D<|AWp_seq ?_
  refine AWp_cond rfl (fun hb2 => ?_) (fun hb2 => ?_)
  ·have hb2_ := of_decide_eq_true hb2
   have hlt : k < b.length := by omega
   have ha1 := ha.getD i
   have hb1v := hb.getD k
   have hp1 := Nat.mul_le_mul (Nat.le_sub_one_of_lt (ha.getD i)) (Nat.le_sub_one_of_lt (hb.getD k))
   have ho1 := ho.getD (i + k)
   refine AWp_skip<|AWp_seq<|AWp_block<|AWp_sr hP<|RK.M rfl<|RK.V (by first | exact op_index_WN hT rfl rfl rfl rfl rfl rfl (by omega) | exact op_index_sl hT rfl rfl rfl rfl rfl rfl (by omega) (by first | exact W_ne (by omega) | simp)) ?_
   refine RK.V (op_load_ip_one hT rfl rfl rfl (by first | rfl | exact wget (by omega))) ?_
   refine RK.As rfl<|RK.As rfl<|RK.D<|AWp_sr hP<|RK.M rfl<|RK.V (op_conv hT rfl rfl rfl rfl (u64N (by omega))) ?_
   refine RK.M rfl<|RK.V (op_conv hT rfl rfl rfl rfl (u64N (by omega))) ?_
   refine RK.V (op_mul rfl rfl (c := ((a.getD i 0 * b.getD k 0 : Nat) : Int)) (by rw [← Int.natCast_mul, u64N (by omega)])) ?_
   refine RK.V (op_move (rfl : _ = AV.vec _))<|RK.M rfl<|RK.M rfl<|RK.V (op_add rfl rfl (c := ((i + k : Nat) : Int)) (by rw [IntWalk.i64_in _ (by omega)]; omega)) ?_
   refine RK.V (by first | exact op_index_vecWN hT rfl rfl rfl rfl rfl rfl rfl (by first | omega | (simp; omega)) | exact op_index_vecW hT rfl rfl rfl rfl rfl rfl rfl (by first | omega | (simp; omega))) ?_
   refine RK.V (op_loadWv hT rfl rfl rfl rfl (by first | omega | (simp; omega)) rfl) ?_
   refine RK.V (op_conv hT rfl rfl rfl rfl (u64N (by omega))) ?_
   refine RK.V (op_add rfl rfl (c := ((a.getD i 0 * b.getD k 0 + o.getD (i + k) 0 : Nat) : Int)) (by rw [← Int.natCast_add, u64N (by omega)])) ?_
   refine RK.M rfl<|RK.V (op_add rfl rfl (c := ((a.getD i 0 * b.getD k 0 + o.getD (i + k) 0 + c : Nat) : Int)) (by rw [← Int.natCast_add, u64N (by omega)])) ?_
   refine RK.As rfl<|RK.D<|AWp_region hP<|RK.V (op_move (rfl : _ = AV.vec _))<|RK.M rfl<|RK.M rfl<|RK.V (op_add rfl rfl (c := ((i + k : Nat) : Int)) (by rw [IntWalk.i64_in _ (by omega)]; omega)) ?_
   refine RK.M rfl<|RK.V (op_conv hT rfl rfl rfl rfl (c := (((a.getD i 0 * b.getD k 0 + o.getD (i + k) 0 + c) % 4294967296 : Nat) : Int)) (by rw [IntKind.wrap_u32]; omega)) ?_
   refine RK.M rfl<|RK.V (op_shrN (j := 32) rfl rfl (by first | decide | omega)) ?_
   refine RK.V (by first | exact op_index_vecWN hT rfl rfl rfl rfl rfl rfl rfl (by first | omega | (simp; omega)) | exact op_index_vecW hT rfl rfl rfl rfl rfl rfl rfl (by first | omega | (simp; omega))) ?_
   refine RK.sto guard_none (op_storeWv hT rfl rfl rfl rfl rfl (by first | omega | (simp; omega)) rfl) ?_
   refine RK.As rfl<|RK.D<|AWp_region hP<|RK.V (op_add rfl rfl (by first | exact IntWalk.i64_in _ (by omega) | rfl)) ?_
   refine RK.M rfl<|RK.D ?_
   have hr := mul_round (b := b) (x := a.getD i 0) (i := i) (k := k) (t := a.getD i 0 * b.getD k 0 + o.getD (i + k) 0 + c) (by omega) rfl hkv
   refine ⟨(o.set (i + k) ((a.getD i 0 * b.getD k 0 + o.getD (i + k) 0 + c) % 4294967296), k + 1, (a.getD i 0 * b.getD k 0 + o.getD (i + k) 0 + c) / 4294967296), ⟨by omega, by simpa using hlo, ho.set (Nat.mod_lt _ (by omega)), (Nat.div_lt_iff_lt_mul (by omega)).2 (by omega), hr, fun j hj => ?_⟩, by show b.length - (k + 1) < b.length - k; omega, le_stL ⟨.refl _, .refl _, .refl _, .refl _, .refl _, .refl _, .refl _, .refl _, .refl _, .refl _, .refl _, trivial⟩ ⟨rfl, trivial⟩⟩
   rw [getD_set _ _ _ _ (by omega), if_neg (by omega)]
   exact hz j (by omega)
  ·have hb2_ := of_decide_eq_false hb2
   have hke : k = b.length := by omega
   subst hke
   refine AWp_exit<|AWp_region hP<|RK.V (op_move (rfl : _ = AV.vec _))<|RK.M rfl<|RK.M rfl<|RK.V (op_len hT rfl rfl rfl rfl)<|RK.V (op_add rfl rfl (c := ((i + b.length : Nat) : Int)) (by rw [IntWalk.i64_in _ (by omega)]; omega)) ?_
   refine RK.M rfl<|RK.V (op_conv hT rfl rfl rfl rfl (u32N (by omega))) ?_
   refine RK.V (by first | exact op_index_vecWN hT rfl rfl rfl rfl rfl rfl rfl (by first | omega | (simp; omega)) | exact op_index_vecW hT rfl rfl rfl rfl rfl rfl rfl (by first | omega | (simp; omega))) ?_
   refine RK.sto guard_none (op_storeWv hT rfl rfl rfl rfl rfl (by first | omega | (simp; omega)) rfl) ?_
   refine RK.D<|AWp_region hP<|RK.V (op_add rfl rfl (by first | exact IntWalk.i64_in _ (by omega) | rfl)) ?_
   refine RK.M rfl<|RK.D ?_
   have hov := mul_outer (o := o0) (a := a) (by omega) (hz _ (Nat.le_refl _)) rfl hv hkv
   refine ⟨(o.set (i + b.length) c, i + 1), ⟨by omega, by simpa using hlo, ho.set (by omega), hov, fun j hj => ?_⟩, by show a.length - (i + 1) < a.length - i; omega, le_stL ⟨.refl _, .refl _, .refl _, .refl _, .refl _, trivial⟩ ⟨rfl, trivial⟩⟩
   rw [getD_set _ _ _ _ (by omega), if_neg (by omega)]
   exact hz j (by omega)
 ·have hb1_ := of_decide_eq_false hb1
  have hie : i = a.length := by omega
  refine AWp_exit<|AWp_freezeW (t := 5) rfl rfl ?_
  refine AWp_sr hP<|RK.M rfl<|RK.V (Eff.call0 (nat_trim _ ho)) ?_
  refine RK.As rfl<|RK.D<|AWp_ret ?_
  refine ends_one rfl (.inr rfl) (res_tmp rfl) ?_ O_ends
  exact Sub.of_eq (by rw [hv, hie, List.take_length])
end Go.Proofs.YtpaifigafaijpaaGreatDoor
end
section
namespace Go.Proofs.YtpaifigafaijpaaGreatDoor
open Go Go.AM
theorem nat_shl (a : List Nat) (k : Nat) (ha : okW a) (hla : a.length ≤ 1099511627776) (hk : k ≤ 1099511627776) :
  Call0 Tryz.prog 185 [.p (.c (W a)), Z (k : Int)] (.p (.c (nt (wv a * 2 ^ k)))) := by
 refine callM_of (np := 0) Tryz.func185 (by kernel_rfl) rfl rfl (Nat.le_of_ble_eq_true rfl) (fun m h => absurd rfl h) (fun m h => absurd rfl h) rfl ?_
 obtain ⟨q, hq⟩ : ∃ q, q = k / 32 := ⟨_, rfl⟩
 obtain ⟨s, hs⟩ : ∃ s, s = k % 32 := ⟨_, rfl⟩
 have hks : k = 32 * q + s := by omega
 have hs32 : s < 32 := by omega
 refine AWp_sr hP<|RK.As rfl<|RK.D<|AWp_sr hP<|RK.M rfl<|RK.V (op_len hT rfl rfl rfl rfl)<|RK.M rfl<|RK.V (op_quo rfl rfl (by decide) (c := ((q : Nat) : Int)) (by rw [Int.tdiv_eq_ediv_of_nonneg (by omega), IntWalk.i64_in _ (by omega)]; omega)) ?_
 refine RK.V (op_add rfl rfl (c := ((a.length + q : Nat) : Int)) (by rw [IntWalk.i64_in _ (by omega)]; omega)) ?_
 refine RK.V (op_add rfl rfl (c := ((a.length + q + 1 : Nat) : Int)) (by rw [IntWalk.i64_in _ (by omega)]; omega)) ?_
 refine RK.alc guard_none (op_makeW hT rfl rfl rfl rfl rfl rfl rfl rfl (by omega)) ?_
 refine RK.V (op_assign (rfl : _ = AV.vec _))<|RK.D<|AWp_seq<|AWp_sr hP<|RK.M rfl<|RK.V (op_len hT rfl rfl rfl rfl)<|RK.M rfl<|RK.D<|AWp_block<|AWp_loop (ι := List Nat × Nat) (fun ⟨o, i⟩ => stL [(1, Z (k : Int)), (5, .vec 15), (16, .p (.c (W a))), (17, Z ((a.length : Nat) : Int)), (18, Z (i : Int))] [(15, WB 111 o)]) (fun ⟨o, i⟩ => i ≤ a.length ∧ o.length = a.length + q + 1 ∧ okW o ∧ wv o = wv (a.take i) * 2 ^ k ∧ o.getD (i + q) 0 < 2 ^ s ∧ ∀ j, i + q < j → o.getD j 0 = 0) (fun ⟨_, i⟩ => a.length - i) (List.replicate ((a.length + q + 1 : Nat) : Int).toNat 0, 0) ⟨Nat.zero_le _, by simp; omega, okW.rep _, by rw [wv_rep]; simp [wv], by rw [getD_rep]; exact Nat.two_pow_pos s, fun j _ => getD_rep _ _⟩ (le_stL ⟨.refl _, .refl _, .refl _, .refl _, .refl _, trivial⟩ ⟨rfl, trivial⟩) ?_
 rintro ⟨o, i⟩ ⟨hi, hlo, ho, hv, hlow, hz⟩
 refine AWp_sr hP<|RK.V (op_lss rfl rfl)<|RK.D<|AWp_seq ?_
 refine AWp_cond rfl (fun hb1 => ?_) (fun hb1 => ?_)
 ·have hb1_ := of_decide_eq_true hb1
  have hlt : i < a.length := by omega
  have hai := ha.getD i
  have hoi := ho.getD (i + q)
  have hti : a.getD i 0 * 2 ^ s / 4294967296 < 4294967296 := shl_hi hai hs32
  refine AWp_skip<|AWp_seq<|AWp_block<|AWp_sr hP<|RK.M rfl<|RK.V (by first | exact op_index_WN hT rfl rfl rfl rfl rfl rfl (by omega) | exact op_index_sl hT rfl rfl rfl rfl rfl rfl (by omega) (by first | exact W_ne (by omega) | simp)) ?_
  refine RK.V (op_load_ip_one hT rfl rfl rfl (by first | rfl | exact wget (by omega))) ?_
  refine RK.As rfl<|RK.As rfl<|RK.D<|AWp_sr hP<|RK.M rfl<|RK.V (op_conv hT rfl rfl rfl rfl (u64N (by omega))) ?_
  refine RK.M rfl<|RK.V (op_rem rfl rfl (by decide) (c := ((s : Nat) : Int)) (by rw [Int.tmod_eq_emod_of_nonneg (by omega)]; omega)) ?_
  refine RK.V (op_shl rfl rfl (by omega) (c := ((a.getD i 0 * 2 ^ s : Nat) : Int)) (shl64 hai hs32)) ?_
  refine RK.As rfl<|RK.D<|AWp_sr hP<|RK.V (op_move (rfl : _ = AV.vec _))<|RK.M rfl<|RK.M rfl<|RK.V (op_quo rfl rfl (by decide) (c := ((q : Nat) : Int)) (by rw [Int.tdiv_eq_ediv_of_nonneg (by omega), IntWalk.i64_in _ (by omega)]; omega)) ?_
  refine RK.V (op_add rfl rfl (c := ((i + q : Nat) : Int)) (by rw [IntWalk.i64_in _ (by omega)]; omega)) ?_
  refine RK.V (by first | exact op_index_vecWN hT rfl rfl rfl rfl rfl rfl rfl (by first | omega | (simp; omega)) | exact op_index_vecW hT rfl rfl rfl rfl rfl rfl rfl (by first | omega | (simp; omega))) ?_
  refine RK.V (op_loadWv hT rfl rfl rfl rfl (by first | omega | (simp; omega)) rfl) ?_
  refine RK.M rfl<|RK.V (op_conv hT rfl rfl rfl rfl (c := ((a.getD i 0 * 2 ^ s % 4294967296 : Nat) : Int)) (by rw [IntKind.wrap_u32]; omega)) ?_
  refine RK.V (op_orN rfl rfl rfl (lt32 hoi) (lt32 (Nat.mod_lt _ (by omega)))) ?_
  refine RK.V (by first | exact op_index_vecWN hT rfl rfl rfl rfl rfl rfl rfl (by first | omega | (simp; omega)) | exact op_index_vecW hT rfl rfl rfl rfl rfl rfl rfl (by first | omega | (simp; omega))) ?_
  refine RK.sto guard_none (op_storeWv hT rfl rfl rfl rfl rfl (by first | omega | (simp; omega)) rfl) ?_
  refine RK.D<|AWp_region hP<|RK.V (op_move (rfl : _ = AV.vec _))<|RK.M rfl<|RK.M rfl<|RK.V (op_quo rfl rfl (by decide) (c := ((q : Nat) : Int)) (by rw [Int.tdiv_eq_ediv_of_nonneg (by omega), IntWalk.i64_in _ (by omega)]; omega)) ?_
  refine RK.V (op_add rfl rfl (c := ((i + q : Nat) : Int)) (by rw [IntWalk.i64_in _ (by omega)]; omega)) ?_
  refine RK.V (op_add rfl rfl (c := ((i + q + 1 : Nat) : Int)) (by rw [IntWalk.i64_in _ (by omega)]; omega)) ?_
  refine RK.M rfl<|RK.V (op_shrN (j := 32) rfl rfl (by decide)) ?_
  refine RK.V (op_conv hT rfl rfl rfl rfl (c := ((a.getD i 0 * 2 ^ s / 4294967296 : Nat) : Int)) (u32N hti)) ?_
  refine RK.V (by first | exact op_index_vecWN hT rfl rfl rfl rfl rfl rfl rfl (by first | omega | (simp; omega)) | exact op_index_vecW hT rfl rfl rfl rfl rfl rfl rfl (by first | omega | (simp; omega))) ?_
  refine RK.sto guard_none (op_storeWv hT rfl rfl rfl rfl rfl (by first | omega | (simp; omega)) rfl) ?_
  refine RK.D<|AWp_region hP<|RK.V (op_add rfl rfl (by first | exact IntWalk.i64_in _ (by omega) | rfl)) ?_
  refine RK.M rfl<|RK.D ?_
  have hr := shl_round (a := a) (x := a.getD i 0) hks hs32 (by omega) rfl hlow (hz _ (by omega)) hv
  have hts : a.getD i 0 * 2 ^ s / 4294967296 < 2 ^ s := by
   rw [Nat.div_lt_iff_lt_mul (by omega), Nat.mul_comm]; exact Nat.mul_lt_mul_of_pos_left hai (Nat.two_pow_pos s)
  refine ⟨((o.set (i + q) (o.getD (i + q) 0 ||| a.getD i 0 * 2 ^ s % 4294967296)).set (i + q + 1) (a.getD i 0 * 2 ^ s / 4294967296), i + 1), ⟨by omega, by simpa using hlo, (ho.set (Nat.or_lt_two_pow (n := 32) hoi (Nat.mod_lt _ (by omega)))).set hti, hr, ?_, fun j hj => ?_⟩, by show a.length - (i + 1) < a.length - i; omega, le_stL ⟨.refl _, .refl _, .refl _, .refl _, .refl _, trivial⟩ ⟨rfl, trivial⟩⟩
  ·rw [show i + 1 + q = i + q + 1 by omega, getD_set _ _ _ _ (by simp; omega), if_pos rfl]; exact hts
  ·rw [getD_set _ _ _ _ (by simp; omega), if_neg (by omega), getD_set _ _ _ _ (by omega), if_neg (by omega)]
   exact hz j (by omega)
 ·have hb1_ := of_decide_eq_false hb1
  have hie : i = a.length := by omega
  refine AWp_exit<|AWp_freezeW (t := 5) rfl rfl ?_
  refine AWp_sr hP<|RK.M rfl<|RK.V (Eff.call0 (nat_trim _ ho)) ?_
  refine RK.As rfl<|RK.D<|AWp_ret ?_
  refine ends_one rfl (.inr rfl) (res_tmp rfl) ?_ O_ends
  exact Sub.of_eq (by rw [hv, hie, List.take_length])
theorem nat_shr (a : List Nat) (k : Nat) (ha : okW a) (hla : a.length ≤ 1099511627776) (hk : k < 32) :
  Call0 Tryz.prog 186 [.p (.c (W a)), Z (k : Int)] (.p (.c (nt (wv a / 2 ^ k)))) := by
 refine callM_of (np := 0) Tryz.func186 (by kernel_rfl) rfl rfl (Nat.le_of_ble_eq_true rfl) (fun m h => absurd rfl h) (fun m h => absurd rfl h) rfl ?_
 have h0l : (0 : Nat) ≤ a.length := Nat.zero_le _
 refine AWp_sr hP<|RK.As rfl<|RK.D<|AWp_sr hP<|RK.M rfl<|RK.V (op_len hT rfl rfl rfl rfl)<|RK.alc guard_none (op_makeW hT rfl rfl rfl rfl rfl rfl rfl rfl (by omega)) ?_
 refine RK.V (op_assign (rfl : _ = AV.vec _))<|RK.D<|AWp_seq<|AWp_sr hP<|RK.V (op_move (rfl : _ = AV.vec _))<|RK.V (op_len_vecW hT rfl rfl rfl rfl) ?_
 refine RK.M rfl<|RK.D<|AWp_block<|AWp_loop (ι := List Nat × Nat) (fun ⟨o, i⟩ => stL [(0, .p (.c (W a))), (1, Z (k : Int)), (5, .vec 10), (12, Z ((a.length : Nat) : Int)), (13, Z (i : Int))] [(10, WB 111 o)]) (fun ⟨o, i⟩ => i ≤ a.length ∧ o.length = a.length ∧ ∀ j, j < i → o.getD j 0 = shrD a k j) (fun ⟨_, i⟩ => a.length - i) (List.replicate ((a.length : Nat) : Int).toNat 0, 0) ⟨Nat.zero_le _, by simp, fun j hj => by omega⟩ (le_stL ⟨.refl _, .refl _, .refl _, Sub.int (by simp), .refl _, trivial⟩ ⟨rfl, trivial⟩) ?_
 rintro ⟨o, i⟩ ⟨hi, hlo, hv⟩
 refine AWp_sr hP<|RK.V (op_lss rfl rfl)<|RK.D<|AWp_seq ?_
 refine AWp_cond rfl (fun hb1 => ?_) (fun hb1 => ?_)
 ·have hb1_ := of_decide_eq_true hb1
  have hlt : i < a.length := by omega
  have hai := ha.getD i
  refine AWp_skip<|AWp_seq<|AWp_block<|AWp_sr hP<|RK.M rfl<|RK.As rfl<|RK.D<|AWp_sr hP<|RK.M rfl<|RK.M rfl<|RK.V (by first | exact op_index_WN hT rfl rfl rfl rfl rfl rfl (by omega) | exact op_index_sl hT rfl rfl rfl rfl rfl rfl (by omega) (by first | exact W_ne (by omega) | simp)) ?_
  refine RK.V (op_load_ip_one hT rfl rfl rfl (by first | rfl | exact wget (by omega))) ?_
  refine RK.V (op_conv hT rfl rfl rfl rfl (u64N (by omega))) ?_
  refine RK.As rfl<|RK.D<|AWp_seq_cut (ι := Unit) (fun _ => stL [(0, .p (.c (W a))), (1, Z (k : Int)), (5, .vec 10), (12, Z ((a.length : Nat) : Int)), (13, Z (i : Int)), (6, Z (i : Int)), (7, .p (.c (.v (.int .u64 ((a.getD i 0 + 4294967296 * a.getD (i + 1) 0 : Nat) : Int)))))] [(10, WB 111 o)]) (fun _ => True) ?_ ?_
  ·refine AWp_sr hP<|RK.M rfl<|RK.V (op_add rfl rfl (c := ((i + 1 : Nat) : Int)) (by rw [IntWalk.i64_in _ (by omega)]; omega)) ?_
   refine RK.M rfl<|RK.V (op_len hT rfl rfl rfl rfl)<|RK.V (op_lss rfl rfl)<|RK.D ?_
   refine AWp_cond rfl (fun hb2 => ?_) (fun hb2 => ?_)
   ·have hb2_ := of_decide_eq_true hb2
    refine AWp_region hP<|RK.M rfl<|RK.M rfl<|RK.M rfl<|RK.V (op_add rfl rfl (c := ((i + 1 : Nat) : Int)) (by rw [IntWalk.i64_in _ (by omega)]; omega)) ?_
    refine RK.V (by first | exact op_index_WN hT rfl rfl rfl rfl rfl rfl (by omega) | exact op_index_sl hT rfl rfl rfl rfl rfl rfl (by omega) (by first | exact W_ne (by omega) | simp)) ?_
    refine RK.V (op_load_ip_one hT rfl rfl rfl (by first | rfl | exact wget (by omega))) ?_
    refine RK.V (op_conv hT rfl rfl rfl rfl (u64N (by have := ha.getD (i + 1); omega))) ?_
    refine RK.V (op_shlN (j := 32) rfl rfl (by decide) rfl) ?_
    refine RK.V (op_or rfl rfl (c := ((a.getD i 0 + 4294967296 * a.getD (i + 1) 0 : Nat) : Int)) (by rw [bits_lohi hai (ha.getD (i + 1))])) ?_
    refine RK.As rfl<|RK.D ?_
    exact ⟨(), trivial, le_stL ⟨.refl _, .refl _, .refl _, .refl _, .refl _, .refl _, .refl _, trivial⟩ ⟨rfl, trivial⟩⟩
   ·have hb2_ := of_decide_eq_false hb2
    refine AWp_skip ?_
    exact ⟨(), trivial, le_stL ⟨.refl _, .refl _, .refl _, .refl _, .refl _, .refl _, Sub.int (by rw [getD_ge (k := i + 1) (by omega)]; omega), trivial⟩ ⟨rfl, trivial⟩⟩
  rintro _ -
  have hai2 := ha.getD (i + 1)
  refine AWp_region hP<|RK.V (op_move (rfl : _ = AV.vec _))<|RK.M rfl<|RK.M rfl<|RK.M rfl<|RK.V (op_shrN (j := k) rfl rfl (by show k ≤ 64; omega)) ?_
  refine RK.V (op_conv hT rfl rfl rfl rfl (c := ((shrD a k i : Nat) : Int)) (by rw [IntKind.wrap_u32]; unfold shrD; omega)) ?_
  refine RK.V (by first | exact op_index_vecWN hT rfl rfl rfl rfl rfl rfl rfl (by first | omega | (simp; omega)) | exact op_index_vecW hT rfl rfl rfl rfl rfl rfl rfl (by first | omega | (simp; omega))) ?_
  refine RK.sto guard_none (op_storeWv hT rfl rfl rfl rfl rfl (by first | omega | (simp; omega)) rfl) ?_
  refine RK.D<|AWp_region hP<|RK.V (op_add rfl rfl (by first | exact IntWalk.i64_in _ (by omega) | rfl)) ?_
  refine RK.M rfl<|RK.D ?_
  refine ⟨(o.set i (shrD a k i), i + 1), ⟨by omega, by simpa using hlo, fun j hj => ?_⟩, by show a.length - (i + 1) < a.length - i; omega, le_stL ⟨.refl _, .refl _, .refl _, .refl _, .refl _, trivial⟩ ⟨rfl, trivial⟩⟩
  rw [getD_set _ _ _ _ (by omega)]
  split
  ·subst_vars; rfl
  ·exact hv j (by omega)
 ·have hb1_ := of_decide_eq_false hb1
  have hie : i = a.length := by omega
  have hoe := shr_ext (hie ▸ hv) hlo
  have hook := shr_ok a k
  refine AWp_exit<|AWp_freezeW (t := 5) rfl rfl ?_
  refine AWp_sr hP<|RK.M rfl<|RK.V (Eff.call0 (nat_trim _ (hoe ▸ hook))) ?_
  refine RK.As rfl<|RK.D<|AWp_ret ?_
  refine ends_one rfl (.inr rfl) (res_tmp rfl) ?_ O_ends
  exact Sub.of_eq (by rw [hoe, shr_val k hk a ha])
theorem nat_divWord (a : List Nat) (d : Nat) (ha : okW a) (hla : a.length ≤ 1099511627776) (hd : 0 < d) (hd2 : d < 4294967296) :
  Call0 Tryz.prog 183 [.p (.c (W a)), .p (.c (w32 d))] (.t [.c (nt (wv a / d)), .c (w32 (wv a % d))]) := by
 refine callM_of (np := 0) Tryz.func183 (by kernel_rfl) rfl rfl (Nat.le_of_ble_eq_true rfl) (fun m h => absurd rfl h) (fun m h => absurd rfl h) rfl ?_
 have h0l : (0 : Nat) ≤ a.length := Nat.zero_le _
 refine AWp_sr hP<|RK.As rfl<|RK.As rfl<|RK.D<|AWp_sr hP<|RK.M rfl<|RK.V (op_len hT rfl rfl rfl rfl)<|RK.alc guard_none (op_makeW hT rfl rfl rfl rfl rfl rfl rfl rfl (by omega)) ?_
 refine RK.V (op_assign (rfl : _ = AV.vec _))<|RK.D<|AWp_sr hP<|RK.As rfl<|RK.D<|AWp_seq<|AWp_sr hP<|RK.M rfl<|RK.V (op_len hT rfl rfl rfl rfl)<|RK.V (op_sub rfl rfl (by first | exact IntWalk.i64_in _ (by omega) | rfl)) ?_
 refine RK.As rfl<|RK.D<|AWp_block<|AWp_loop (ι := List Nat × Nat × Nat) (fun ⟨o, i, r⟩ => stL [(0, .p (.c (W a))), (1, .p (.c (w32 d))), (6, .vec 11), (7, .p (.c (w32 r))), (8, Z ((i : Int) - 1))] [(11, WB 111 o)]) (fun ⟨o, i, r⟩ => i ≤ a.length ∧ o.length = a.length ∧ okW o ∧ r < d ∧ wv (a.drop i) = d * wv (o.drop i) + r) (fun ⟨_, i, _⟩ => i) (List.replicate ((a.length : Nat) : Int).toNat 0, a.length, 0) ⟨Nat.le_refl _, by simp, okW.rep _, hd, by simp [wv]⟩ (le_stL ⟨.refl _, .refl _, .refl _, .refl _, .refl _, trivial⟩ ⟨rfl, trivial⟩) ?_
 rintro ⟨o, i, r⟩ ⟨hi, hlo, ho, hr, hv⟩
 refine AWp_seq<|AWp_sr hP<|RK.M rfl<|RK.V (op_geq rfl rfl) ?_
 refine RK.D ?_
 refine AWp_cond rfl (fun hb1 => ?_) (fun hb1 => ?_)
 ·have hb1_ := of_decide_eq_true hb1
  obtain ⟨i, rfl⟩ : ∃ k, i = k + 1 := ⟨i - 1, by omega⟩
  have hc : ((i + 1 : Nat) : Int) - 1 = (i : Int) := by omega
  have hai := ha.getD i
  have hq : (r * 4294967296 + a.getD i 0) / d < 4294967296 := (Nat.div_lt_iff_lt_mul hd).2 (by have : (r + 1) * 4294967296 ≤ d * 4294967296 := Nat.mul_le_mul_right _ hr; omega)
  refine AWp_le (t := stL [(0, .p (.c (W a))), (1, .p (.c (w32 d))), (6, .vec 11), (7, .p (.c (w32 r))), (8, Z (i : Int))] [(11, WB 111 o)]) (le_stL ⟨.refl _, .refl _, .refl _, .refl _, Sub.int hc, trivial⟩ ⟨rfl, trivial⟩) ?_
  refine AWp_skip<|AWp_seq<|AWp_block<|AWp_region hP<|RK.V (op_move (rfl : _ = AV.vec _))<|RK.M rfl<|RK.M rfl<|RK.M rfl<|RK.M rfl<|RK.V (by first | exact op_index_WN hT rfl rfl rfl rfl rfl rfl (by omega) | exact op_index_sl hT rfl rfl rfl rfl rfl rfl (by omega) (by first | exact W_ne (by omega) | simp)) ?_
  refine RK.V (op_load_ip_one hT rfl rfl rfl (by first | rfl | exact wget (by omega))) ?_
  refine RK.M rfl<|RK.V (Eff.call0 (div32 _ _ _ hd2 hr hai)) ?_
  refine RK.V (op_move (rfl : _ = AV.t _))<|RK.V (op_extract rfl (v := .c _) rfl)<|RK.V (op_extract rfl (v := .c _) rfl)<|RK.V (by first | exact op_index_vecWN hT rfl rfl rfl rfl rfl rfl rfl (by first | omega | (simp; omega)) | exact op_index_vecW hT rfl rfl rfl rfl rfl rfl rfl (by first | omega | (simp; omega))) ?_
  refine RK.sto guard_none (op_storeWv hT rfl rfl rfl rfl rfl (by first | omega | (simp; omega)) rfl) ?_
  refine RK.As rfl<|RK.D<|AWp_region hP<|RK.M rfl<|RK.V (op_sub rfl rfl (by first | exact IntWalk.i64_in _ (by omega) | rfl)) ?_
  refine RK.As rfl<|RK.D ?_
  refine ⟨(o.set i ((r * 4294967296 + a.getD i 0) / d), i, (r * 4294967296 + a.getD i 0) % d), ⟨by omega, by simpa using hlo, ho.set hq, Nat.mod_lt _ hd, divw_round (by omega) hlo hv hd⟩, by show i < i + 1; omega, le_stL ⟨.refl _, .refl _, .refl _, .refl _, Sub.int (by omega), trivial⟩ ⟨rfl, trivial⟩⟩
 ·have hb1_ := of_decide_eq_false hb1
  have hie : i = 0 := by omega
  subst hie
  refine AWp_exit<|AWp_freezeW (t := 6) rfl rfl ?_
  refine AWp_sr hP<|RK.M rfl<|RK.V (Eff.call0 (nat_trim _ ho)) ?_
  refine RK.M rfl<|RK.As rfl<|RK.As rfl<|RK.D<|AWp_ret ?_
  refine ends_two rfl (.inr rfl) (res_tmp rfl) (res_tmp rfl) ?_ O_ends
  rw [List.drop_zero, List.drop_zero] at hv
  have e1 : wv a / d = wv o := by rw [hv, Nat.mul_add_div hd, Nat.div_eq_of_lt hr, Nat.add_zero]
  have e2 : wv a % d = r := by rw [hv, Nat.mul_add_mod, Nat.mod_eq_of_lt hr]
  exact Sub.of_eq (by rw [e1, e2])
end Go.Proofs.YtpaifigafaijpaaGreatDoor
end
section
namespace Go.Proofs.YtpaifigafaijpaaGreatDoor
open Go Go.AM
theorem nat_div (a b : Nat) (hla : (wl a).length ≤ 1099511627776) (hb : 0 < b) :
  Call0 Tryz.prog 135 [.p (.c (nt a)), .p (.c (nt b))] (.t [.c (nt (a / b)), .c (nt (a % b))]) := by
 refine callM_of (np := 0) Tryz.func135 (by kernel_rfl) rfl rfl (Nat.le_of_ble_eq_true rfl) (fun m h => absurd rfl h) (fun m h => absurd rfl h) rfl ?_
 have h0l : (0 : Nat) ≤ (wl a).length := Nat.zero_le _
 have hbl := wl_len_lt b
 refine AWp_sr hP<|RK.As rfl<|RK.As rfl<|RK.D<|AWp_seq<|AWp_sr hP<|RK.M rfl<|RK.M rfl<|RK.V (Eff.call0 (nat_cmp a b)) ?_
 refine RK.V (op_lss rfl rfl)<|RK.D ?_
 refine AWp_cond rfl (fun hb1 => ?_) (fun hb1 => ?_)
 ·have hb1_ := of_decide_eq_true hb1
  have hlt : a < b := by
   unfold cmpI at *; split at * <;> first | omega | (split at * <;> omega)
  refine AWp_sr hP<|RK.M rfl<|RK.As rfl<|RK.As rfl<|RK.D<|AWp_ret ?_
  refine ends_two rfl (.inr rfl) (res_tmp rfl) (res_tmp rfl) ?_ O_ends
  exact Sub.tup ⟨fun _ _ h => DSub.of_eq (by rw [Nat.div_eq_of_lt hlt]; rfl) _ _ (DSub.nil_sl _ _ h), DSub.of_eq (by rw [Nat.mod_eq_of_lt hlt]), trivial⟩
 ·have hb1_ := of_decide_eq_false hb1
  have hab : b ≤ a := by
   unfold cmpI at *; split at * <;> first | omega | (split at * <;> omega)
  have hll := wl_len_mono hab
  refine AWp_skip<|AWp_seq<|AWp_sr hP<|RK.M rfl<|RK.V (op_len hT rfl rfl rfl rfl)<|RK.V (op_eql rfl rfl) ?_
  refine RK.D ?_
  refine AWp_cond rfl (fun hb2 => ?_) (fun hb2 => ?_)
  ·have hb2_ := bT hb2
   have h1 : (wl b).length = 1 := by omega
   have hd2 := (wl_ok b).getD 0
   have hbe : b = (wl b).getD 0 0 := by
    have := pow_top (n := 0) h1
    rw [wv_wl] at this; simpa [wv] using this
   have hmod : wv (wl a) % (wl b).getD 0 0 < 4294967296 := Nat.lt_trans (Nat.mod_lt _ (by omega)) hd2
   have hr1 : okW [wv (wl a) % (wl b).getD 0 0] := by intro x hx; rw [List.mem_singleton.1 hx]; exact hmod
   have hd1 : 0 < (wl b).getD 0 0 := by omega
   have hdiv : a / (wl b).getD 0 0 = a / b ∧ a % (wl b).getD 0 0 = a % b := by rw [← hbe]; exact ⟨rfl, rfl⟩
   refine AWp_sr hP<|RK.M rfl<|RK.M rfl<|RK.V (by first | exact op_index_WN hT rfl rfl rfl rfl rfl rfl (by omega) | exact op_index_sl hT rfl rfl rfl rfl rfl rfl (by omega) (by first | exact W_ne (by omega) | simp)) ?_
   refine RK.V (op_load_ip_one hT rfl rfl rfl (by first | rfl | exact wget (by omega))) ?_
   refine RK.V (Eff.call0 (nat_divWord (wl a) ((wl b).getD 0 0) (wl_ok a) hla hd1 hd2)) ?_
   refine RK.V (op_move (rfl : _ = AV.t _))<|RK.V (op_extract rfl (v := .c _) rfl)<|RK.V (op_extract rfl (v := .c _) rfl)<|RK.As rfl<|RK.As rfl<|RK.D<|AWp_sr hP<|RK.M rfl<|RK.M rfl<|RK.V (op_bslice hT rfl rfl rfl (es := [_]) rfl rfl rfl) ?_
   refine RK.V (Eff.call0 (nat_trim [_] hr1)) ?_
   refine RK.As rfl<|RK.As rfl<|RK.D<|AWp_ret ?_
   refine ends_two rfl (.inr rfl) (res_tmp rfl) (res_tmp rfl) ?_ O_ends
   exact Sub.of_eq (by rw [wv_wl, hdiv.1, hdiv.2]; simp [wv])
  ·have hb2_ := bF hb2
   obtain ⟨k, hk⟩ : ∃ k, (wl b).length = k + 1 + 1 := by
    refine ⟨(wl b).length - 2, ?_⟩
    have : (wl b).length ≠ 0 := by intro h; rw [h] at hbl; omega
    omega
   obtain ⟨s, hs⟩ : ∃ s, s = 32 - blen ((wl b).getD (k + 1) 0) := ⟨_, rfl⟩
   obtain ⟨hn1, hn2, hs32, hbp⟩ := norm_facts hk hs
   have hb3 : blen ((wl b).getD (k + 1) 0) ≤ 32 := blen_le (k := 32) (by simpa using (wl_ok b).getD (k + 1))
   have hsl := shl_len (m := a) hs32
   have hva := wv_wl a
   have hvb := wv_wl b
   obtain ⟨v, hv⟩ : ∃ v, v = wl (b * 2 ^ s) := ⟨_, rfl⟩
   obtain ⟨x, hx⟩ : ∃ x, x = wl (a * 2 ^ s) := ⟨_, rfl⟩
   have okv : okW v := hv ▸ wl_ok _
   have okx : okW x := hx ▸ wl_ok _
   have hwv : wv v = b * 2 ^ s := by rw [hv, wv_wl]
   have hwx : wv x = a * 2 ^ s := by rw [hx, wv_wl]
   have cb : Call0 Tryz.prog 185 [.p (.c (nt b)), Z (s : Int)] (.p (.c (W v))) := by
    have := nat_shl (wl b) s (wl_ok b) (by omega) (by omega)
    rw [hvb] at this; rw [hv]; exact this
   have ca : Call0 Tryz.prog 185 [.p (.c (nt a)), Z (s : Int)] (.p (.c (W x))) := by
    have := nat_shl (wl a) s (wl_ok a) (by omega) (by omega)
    rw [hva] at this; rw [hx]; exact this
   rw [← hv] at hn1 hn2
   rw [← hx] at hsl
   obtain ⟨u0, hu0⟩ : ∃ u0, u0 = x ++ (List.replicate ((((wl a).length : Nat) : Int) + 1).toNat 0).drop x.length := ⟨_, rfl⟩
   have hu0l : u0.length = (wl a).length + 1 := by rw [hu0]; simp; omega
   have oku0 : okW u0 := by rw [hu0]; exact okx.app ((okW.rep _).drop _)
   have hwu0 : wv u0 = a * 2 ^ s := by
    rw [hu0, wv_append, List.drop_replicate, wv_rep, Nat.mul_zero, Nat.add_zero, hwx]
   refine AWp_skip<|AWp_sr hP<|RK.M rfl<|RK.M rfl<|RK.V (op_len hT rfl rfl rfl rfl)<|RK.V (op_sub rfl rfl (c := ((k + 1 : Nat) : Int)) (by rw [IntWalk.i64_in _ (by omega)]; omega)) ?_
   refine RK.V (by first | exact op_index_WN hT rfl rfl rfl rfl rfl rfl (by omega) | exact op_index_sl hT rfl rfl rfl rfl rfl rfl (by omega) (by first | exact W_ne (by omega) | simp)) ?_
   refine RK.V (op_load_ip_one hT rfl rfl rfl (by first | rfl | exact wget (by omega))) ?_
   refine RK.V (Eff.call0 (lz32 _ ((wl_ok b).getD _))) ?_
   refine RK.As rfl<|RK.D<|AWp_le (t := stL [(0, .p (.c (nt a))), (1, .p (.c (nt b))), (8, Z (s : Int))] []) (le_stL ⟨.refl _, .refl _, Sub.int (by omega), trivial⟩ trivial) ?_
   refine AWp_sr hP<|RK.M rfl<|RK.M rfl<|RK.V (Eff.call0 cb) ?_
   refine RK.As rfl<|RK.D<|AWp_sr hP<|RK.M rfl<|RK.V (op_len hT rfl rfl rfl rfl)<|RK.As rfl<|RK.D<|AWp_sr hP<|RK.M rfl<|RK.V (op_len hT rfl rfl rfl rfl)<|RK.V (op_add rfl rfl (by first | exact IntWalk.i64_in _ (by omega) | rfl)) ?_
   refine RK.alc guard_none (op_makeW hT rfl rfl rfl rfl rfl rfl rfl rfl (by omega)) ?_
   refine RK.V (op_assign (rfl : _ = AV.vec _))<|RK.D<|AWp_sr hP<|RK.V (op_move (rfl : _ = AV.vec _))<|RK.M rfl<|RK.M rfl<|RK.V (Eff.call0 ca) ?_
   refine RK.mut guard_none (op_copyWv hT rfl rfl rfl rfl rfl rfl rfl (by simp; omega) (ws' := u0) hu0.symm) ?_
   refine RK.D<|AWp_sr hP<|RK.V (op_move (rfl : _ = AV.vec _))<|RK.V (op_len_vecW hT rfl rfl rfl rfl) ?_
   refine RK.M rfl<|RK.V (op_sub rfl rfl (c := (((wl a).length + 1 - (k + 2) : Nat) : Int)) (by rw [IntWalk.i64_in _ (by rw [hu0l]; omega), hu0l]; omega)) ?_
   refine RK.alc guard_none (op_makeW hT rfl rfl rfl rfl rfl rfl rfl rfl (by omega)) ?_
   refine RK.V (op_assign (rfl : _ = AV.vec _))<|RK.D<|AWp_seq<|AWp_sr hP<|RK.V (op_move (rfl : _ = AV.vec _))<|RK.V (op_len_vecW hT rfl rfl rfl rfl) ?_
   refine RK.V (op_sub rfl rfl (c := (((wl a).length + 1 - (k + 2) : Nat) : Int) - 1) (by simp only [List.length_replicate, Int.toNat_natCast]; exact IntWalk.i64_in _ (by omega))) ?_
   refine RK.As rfl<|RK.D<|AWp_block<|AWp_loop (ι := List Nat × List Nat × Nat) (fun ⟨u, q, i⟩ => stL [(8, Z (s : Int)), (9, .p (.c (W v))), (10, Z ((k + 2 : Nat) : Int)), (11, .vec 60), (12, .vec 70), (13, Z ((i : Int) - 1))] [(60, WB 111 u), (70, WB 111 q)]) (fun ⟨u, q, i⟩ => u.length = (wl a).length + 1 ∧ okW u ∧ q.length = (wl a).length + 1 - (k + 2) ∧ okW q ∧ i ≤ q.length ∧ wv (u.drop i) < wv v ∧ a * 2 ^ s = wv v * (4294967296 ^ i * wv (q.drop i)) + wv u) (fun ⟨_, _, i⟩ => i) (u0, List.replicate (((wl a).length + 1 - (k + 2) : Nat) : Int).toNat 0, (wl a).length + 1 - (k + 2)) ⟨hu0l, oku0, by simp, okW.rep _, by simp, by rw [hwv]; exact div_start hwu0 hu0l hbp (by omega), by rw [hwu0, List.drop_replicate, wv_rep]; simp⟩ (le_stL ⟨.refl _, .refl _, Sub.int (by omega), .refl _, .refl _, .refl _, trivial⟩ ⟨rfl, rfl, trivial⟩) ?_
   rintro ⟨u, q, i⟩ ⟨hlu, hok, hlq, hqok, hi, hlow, hM⟩
   have hiq := hi
   refine AWp_seq<|AWp_sr hP<|RK.M rfl<|RK.V (op_geq rfl rfl) ?_
   refine RK.D ?_
   refine AWp_cond rfl (fun hb3 => ?_) (fun hb3 => ?_)
   ·have hb3_ := of_decide_eq_true hb3
    obtain ⟨j, rfl⟩ : ∃ k, i = k + 1 := ⟨i - 1, by omega⟩
    have hc : ((j + 1 : Nat) : Int) - 1 = (j : Int) := by omega
    have dg : Dig v u k j := ⟨hn1, okv, hn2, hok, by omega, hlow⟩
    have hq1 := hok.getD (j + k + 2)
    have hq2 := hok.getD (j + k + 1)
    have hq3 := hok.getD (j + k)
    have hv1 := okv.getD (k + 1)
    have hv2 := okv.getD k
    have hN64 : (u.getD (j + k + 2) 0 * 4294967296 + u.getD (j + k + 1) 0) < 18446744073709551616 := by omega
    have hdl : (u.getD (j + k + 2) 0 * 4294967296 + u.getD (j + k + 1) 0) / v.getD (k + 1) 0 ≤ (u.getD (j + k + 2) 0 * 4294967296 + u.getD (j + k + 1) 0) := Nat.div_le_self _ _
    have hml : (u.getD (j + k + 2) 0 * 4294967296 + u.getD (j + k + 1) 0) % v.getD (k + 1) 0 < v.getD (k + 1) 0 := Nat.mod_lt _ (by omega)
    refine AWp_le (t := stL [(8, Z (s : Int)), (9, .p (.c (W v))), (10, Z ((k + 2 : Nat) : Int)), (11, .vec 60), (12, .vec 70), (13, Z ((j : Nat) : Int))] [(60, WB 111 u), (70, WB 111 q)]) (le_stL ⟨.refl _, .refl _, .refl _, .refl _, .refl _, Sub.int hc, trivial⟩ ⟨rfl, rfl, trivial⟩) ?_
    refine AWp_skip<|AWp_seq<|AWp_block<|AWp_sr hP<|RK.V (op_move (rfl : _ = AV.vec _))<|RK.M rfl<|RK.M rfl<|RK.V (op_add rfl rfl (c := ((j + k + 2 : Nat) : Int)) (by rw [IntWalk.i64_in _ (by omega)]; omega)) ?_
    refine RK.V (by first | exact op_index_vecWN hT rfl rfl rfl rfl rfl rfl rfl (by first | omega | (simp; omega)) | exact op_index_vecW hT rfl rfl rfl rfl rfl rfl rfl (by first | omega | (simp; omega))) ?_
    refine RK.V (op_loadWv hT rfl rfl rfl rfl (by first | omega | (simp; omega)) rfl) ?_
    refine RK.V (op_conv hT rfl rfl rfl rfl (u64N (by omega))) ?_
    refine RK.V (op_shlN (j := 32) rfl rfl (by first | decide | omega) rfl) ?_
    refine RK.V (op_move (rfl : _ = AV.vec _))<|RK.M rfl<|RK.M rfl<|RK.V (op_add rfl rfl (c := ((j + k + 2 : Nat) : Int)) (by rw [IntWalk.i64_in _ (by omega)]; omega)) ?_
    refine RK.V (op_sub rfl rfl (c := ((j + k + 1 : Nat) : Int)) (by rw [IntWalk.i64_in _ (by omega)]; omega)) ?_
    refine RK.V (by first | exact op_index_vecWN hT rfl rfl rfl rfl rfl rfl rfl (by first | omega | (simp; omega)) | exact op_index_vecW hT rfl rfl rfl rfl rfl rfl rfl (by first | omega | (simp; omega))) ?_
    refine RK.V (op_loadWv hT rfl rfl rfl rfl (by first | omega | (simp; omega)) rfl) ?_
    refine RK.V (op_conv hT rfl rfl rfl rfl (u64N (by omega))) ?_
    refine RK.V (op_or rfl rfl (bits_hilo hq1 hq2)) ?_
    refine RK.As rfl<|RK.D<|AWp_sr hP<|RK.M rfl<|RK.M rfl<|RK.M rfl<|RK.V (op_sub rfl rfl (c := ((k + 1 : Nat) : Int)) (by rw [IntWalk.i64_in _ (by omega)]; omega)) ?_
    refine RK.V (by first | exact op_index_WN hT rfl rfl rfl rfl rfl rfl (by omega) | exact op_index_sl hT rfl rfl rfl rfl rfl rfl (by omega) (by first | exact W_ne (by omega) | simp)) ?_
    refine RK.V (op_load_ip_one hT rfl rfl rfl (by first | rfl | exact wget (by omega))) ?_
    refine RK.V (op_conv hT rfl rfl rfl rfl (u64N (by omega))) ?_
    refine RK.V (op_quo rfl rfl (by omega) (c := (((u.getD (j + k + 2) 0 * 4294967296 + u.getD (j + k + 1) 0) / v.getD (k + 1) 0 : Nat) : Int)) (by rw [Int.tdiv_eq_ediv_of_nonneg (by omega), ← Int.natCast_ediv, u64N (by omega)])) ?_
    refine RK.M rfl<|RK.M rfl<|RK.M rfl<|RK.V (op_sub rfl rfl (c := ((k + 1 : Nat) : Int)) (by rw [IntWalk.i64_in _ (by omega)]; omega)) ?_
    refine RK.V (by first | exact op_index_WN hT rfl rfl rfl rfl rfl rfl (by omega) | exact op_index_sl hT rfl rfl rfl rfl rfl rfl (by omega) (by first | exact W_ne (by omega) | simp)) ?_
    refine RK.V (op_load_ip_one hT rfl rfl rfl (by first | rfl | exact wget (by omega))) ?_
    refine RK.V (op_conv hT rfl rfl rfl rfl (u64N (by omega))) ?_
    refine RK.V (op_rem rfl rfl (by omega) (c := (((u.getD (j + k + 2) 0 * 4294967296 + u.getD (j + k + 1) 0) % v.getD (k + 1) 0 : Nat) : Int)) (by rw [Int.tmod_eq_emod_of_nonneg (by omega), ← Int.natCast_emod])) ?_
    refine RK.As rfl<|RK.As rfl<|RK.D<|AWp_seq_cut (ι := Nat) (fun g => stL [(8, Z (s : Int)), (9, .p (.c (W v))), (10, Z ((k + 2 : Nat) : Int)), (11, .vec 60), (12, .vec 70), (13, Z ((j : Nat) : Int)), (15, .p (.c (.v (.int .u64 ((g : Nat) : Int)))))] [(60, WB 111 u), (70, WB 111 q)]) (fun g => g < 4294967296 ∧ digq v u j ≤ g ∧ g ≤ digq v u j + 1) ?_ ?_
    ·refine AWp_block<|AWp_loop (ι := Nat × Nat) (fun ⟨g, r⟩ => stL [(8, Z (s : Int)), (9, .p (.c (W v))), (10, Z ((k + 2 : Nat) : Int)), (11, .vec 60), (12, .vec 70), (13, Z ((j : Nat) : Int)), (15, .p (.c (.v (.int .u64 ((g : Nat) : Int))))), (16, .p (.c (.v (.int .u64 ((r : Nat) : Int)))))] [(60, WB 111 u), (70, WB 111 q)]) (fun ⟨g, r⟩ => g * v.getD (k + 1) 0 + r = (u.getD (j + k + 2) 0 * 4294967296 + u.getD (j + k + 1) 0) ∧ r < 4294967296 ∧ g < 18446744073709551616 ∧ digq v u j ≤ g) (fun ⟨g, _⟩ => g) ((u.getD (j + k + 2) 0 * 4294967296 + u.getD (j + k + 1) 0) / v.getD (k + 1) 0, (u.getD (j + k + 2) 0 * 4294967296 + u.getD (j + k + 1) 0) % v.getD (k + 1) 0) ⟨by rw [Nat.mul_comm]; exact Nat.div_add_mod _ _, by omega, by omega, dg.init⟩ (le_stL ⟨.refl _, .refl _, .refl _, .refl _, .refl _, .refl _, .refl _, .refl _, trivial⟩ ⟨rfl, rfl, trivial⟩) ?_
     rintro ⟨g, r⟩ ⟨hg, hr, hg64, hdq⟩
     refine AWp_seq<|AWp_sr hP<|RK.M rfl<|RK.V (op_gtr rfl rfl) ?_
     refine RK.M rfl ?_
     refine RK.split (t := 113) rfl (fun hg4 => ?_) (fun hg4 => ?_)
     ·have hg4_ := of_decide_eq_true hg4
      have hdec : digq v u j < g := dg.dec hg (Or.inl (by omega))
      have hstep : (g - 1) * v.getD (k + 1) 0 + (r + v.getD (k + 1) 0) = (u.getD (j + k + 2) 0 * 4294967296 + u.getD (j + k + 1) 0) := by
       rw [← hg, ← Nat.add_assoc, Nat.add_right_comm, ← Nat.succ_mul, show (g - 1).succ = g by omega]
      refine RK.skip (guard_no rfl rfl hg4) ?_
      refine RK.skip (guard_no rfl rfl hg4) ?_
      refine RK.skip (guard_no rfl rfl hg4) ?_
      refine RK.skip (guard_no rfl rfl hg4) ?_
      refine RK.skip (guard_no rfl rfl hg4) ?_
      refine RK.skip (guard_no rfl rfl hg4) ?_
      refine RK.skip (guard_no rfl rfl hg4) ?_
      refine RK.skip (guard_no rfl rfl hg4) ?_
      refine RK.skip (guard_no rfl rfl hg4) ?_
      refine RK.skip (guard_no rfl rfl hg4) ?_
      refine RK.skip (guard_no rfl rfl hg4) ?_
      refine RK.skip (guard_no rfl rfl hg4) ?_
      refine RK.skip (guard_no rfl rfl hg4) ?_
      refine RK.skip (guard_no rfl rfl hg4) ?_
      refine RK.skip (guard_no rfl rfl hg4) ?_
      refine RK.skip (guard_no rfl rfl hg4) ?_
      refine RK.skip (guard_no rfl rfl hg4) ?_
      refine RK.skip (guard_no rfl rfl hg4) ?_
      refine RK.skip (guard_no rfl rfl hg4) ?_
      refine RK.skip (guard_no rfl rfl hg4) ?_
      refine RK.V (op_pick_t rfl hg4 (rfl : _ = AV.p (.c _))) ?_
      refine RK.D<|AWp_cond_true rfl rfl ?_
      refine AWp_skip<|AWp_block<|AWp_sr hP<|RK.M rfl<|RK.V (op_sub rfl rfl (c := ((g - 1 : Nat) : Int)) (by rw [IntWalk.u64_in _ (by omega)]; omega)) ?_
      refine RK.As rfl<|RK.D<|AWp_sr hP<|RK.M rfl<|RK.M rfl<|RK.M rfl<|RK.V (op_sub rfl rfl (c := ((k + 1 : Nat) : Int)) (by rw [IntWalk.i64_in _ (by omega)]; omega)) ?_
      refine RK.V (by first | exact op_index_WN hT rfl rfl rfl rfl rfl rfl (by omega) | exact op_index_sl hT rfl rfl rfl rfl rfl rfl (by omega) (by first | exact W_ne (by omega) | simp)) ?_
      refine RK.V (op_load_ip_one hT rfl rfl rfl (by first | rfl | exact wget (by omega))) ?_
      refine RK.V (op_conv hT rfl rfl rfl rfl (u64N (by omega))) ?_
      refine RK.V (op_add rfl rfl (c := ((r + v.getD (k + 1) 0 : Nat) : Int)) (by rw [IntWalk.u64_in _ (by omega)]; omega)) ?_
      refine RK.As rfl<|RK.D<|AWp_sr hP<|RK.M rfl<|RK.V (op_gtr rfl rfl) ?_
      refine RK.D ?_
      refine AWp_cond rfl (fun hb5 => ?_) (fun hb5 => ?_)
      ·have hb5_ := of_decide_eq_true hb5
       have hex := dg.exit hstep (Or.inr (by omega))
       refine AWp_exit ?_
       exact ⟨g - 1, ⟨hex.1, by omega, hex.2⟩, (le_stL ⟨.refl _, .refl _, .refl _, .refl _, .refl _, .refl _, .refl _, trivial⟩ ⟨rfl, rfl, trivial⟩)⟩
      ·have hb5_ := of_decide_eq_false hb5
       refine AWp_skip ?_
       exact ⟨(g - 1, r + v.getD (k + 1) 0), ⟨hstep, by omega, by omega, by omega⟩, by show g - 1 < g; omega, (le_stL ⟨.refl _, .refl _, .refl _, .refl _, .refl _, .refl _, .refl _, .refl _, trivial⟩ ⟨rfl, rfl, trivial⟩)⟩
     ·have hg4_ := of_decide_eq_false hg4
      have hgB : g < 4294967296 := by omega
      have hp2 := Nat.mul_le_mul (Nat.le_sub_one_of_lt hgB) (Nat.le_sub_one_of_lt hv2)
      refine RK.val (guard_yes rfl rfl hg4) (op_move (rfl : _ = AV.p (.c _))) ?_
      refine RK.val (guard_yes rfl rfl hg4) (op_move (rfl : _ = AV.p (.c _))) ?_
      refine RK.val (guard_yes rfl rfl hg4) (op_move (rfl : _ = AV.p (.c _))) ?_
      refine RK.val (guard_yes rfl rfl hg4) (op_sub rfl rfl (c := ((k : Nat) : Int)) (by rw [IntWalk.i64_in _ (by omega)]; omega)) ?_
      refine RK.val (guard_yes rfl rfl hg4) (by first | exact op_index_WN hT rfl rfl rfl rfl rfl rfl (by omega) | exact op_index_sl hT rfl rfl rfl rfl rfl rfl (by omega) (by first | exact W_ne (by omega) | simp)) ?_
      refine RK.val (guard_yes rfl rfl hg4) (op_load_ip_one hT rfl rfl rfl (by first | rfl | exact wget (by omega))) ?_
      refine RK.val (guard_yes rfl rfl hg4) (op_conv hT rfl rfl rfl rfl (u64N (by omega))) ?_
      refine RK.val (guard_yes rfl rfl hg4) (op_mul rfl rfl (c := ((g * v.getD k 0 : Nat) : Int)) (by rw [← Int.natCast_mul, u64N (by omega)])) ?_
      refine RK.val (guard_yes rfl rfl hg4) (op_move (rfl : _ = AV.p (.c _))) ?_
      refine RK.val (guard_yes rfl rfl hg4) (op_shlN (j := 32) rfl rfl (by first | decide | omega) rfl) ?_
      refine RK.val (guard_yes rfl rfl hg4) (op_move (rfl : _ = AV.vec _)) ?_
      refine RK.val (guard_yes rfl rfl hg4) (op_move (rfl : _ = AV.p (.c _))) ?_
      refine RK.val (guard_yes rfl rfl hg4) (op_move (rfl : _ = AV.p (.c _))) ?_
      refine RK.val (guard_yes rfl rfl hg4) (op_add rfl rfl (c := ((j + k + 2 : Nat) : Int)) (by rw [IntWalk.i64_in _ (by omega)]; omega)) ?_
      refine RK.val (guard_yes rfl rfl hg4) (op_sub rfl rfl (c := ((j + k : Nat) : Int)) (by rw [IntWalk.i64_in _ (by omega)]; omega)) ?_
      refine RK.val (guard_yes rfl rfl hg4) (by first | exact op_index_vecWN hT rfl rfl rfl rfl rfl rfl rfl (by first | omega | (simp; omega)) | exact op_index_vecW hT rfl rfl rfl rfl rfl rfl rfl (by first | omega | (simp; omega))) ?_
      refine RK.val (guard_yes rfl rfl hg4) (op_loadWv hT rfl rfl rfl rfl (by first | omega | (simp; omega)) rfl) ?_
      refine RK.val (guard_yes rfl rfl hg4) (op_conv hT rfl rfl rfl rfl (u64N (by omega))) ?_
      refine RK.val (guard_yes rfl rfl hg4) (op_or rfl rfl (bits_hilo hr hq3)) ?_
      refine RK.val (guard_yes rfl rfl hg4) (op_gtr rfl rfl) ?_
      refine RK.V (op_pick_f rfl hg4 (rfl : _ = AV.p (.c _))) ?_
      refine RK.D ?_
      refine AWp_cond rfl (fun hb6 => ?_) (fun hb6 => ?_)
      ·have hb6_ := of_decide_eq_true hb6
       have hdec : digq v u j < g := dg.dec hg (Or.inr (Int.ofNat_lt.1 (by assumption)))
       have hstep : (g - 1) * v.getD (k + 1) 0 + (r + v.getD (k + 1) 0) = (u.getD (j + k + 2) 0 * 4294967296 + u.getD (j + k + 1) 0) := by
        rw [← hg, ← Nat.add_assoc, Nat.add_right_comm, ← Nat.succ_mul, show (g - 1).succ = g by omega]
       refine AWp_skip<|AWp_block<|AWp_sr hP<|RK.M rfl<|RK.V (op_sub rfl rfl (c := ((g - 1 : Nat) : Int)) (by rw [IntWalk.u64_in _ (by omega)]; omega)) ?_
       refine RK.As rfl<|RK.D<|AWp_sr hP<|RK.M rfl<|RK.M rfl<|RK.M rfl<|RK.V (op_sub rfl rfl (c := ((k + 1 : Nat) : Int)) (by rw [IntWalk.i64_in _ (by omega)]; omega)) ?_
       refine RK.V (by first | exact op_index_WN hT rfl rfl rfl rfl rfl rfl (by omega) | exact op_index_sl hT rfl rfl rfl rfl rfl rfl (by omega) (by first | exact W_ne (by omega) | simp)) ?_
       refine RK.V (op_load_ip_one hT rfl rfl rfl (by first | rfl | exact wget (by omega))) ?_
       refine RK.V (op_conv hT rfl rfl rfl rfl (u64N (by omega))) ?_
       refine RK.V (op_add rfl rfl (c := ((r + v.getD (k + 1) 0 : Nat) : Int)) (by rw [IntWalk.u64_in _ (by omega)]; omega)) ?_
       refine RK.As rfl<|RK.D<|AWp_sr hP<|RK.M rfl<|RK.V (op_gtr rfl rfl) ?_
       refine RK.D ?_
       refine AWp_cond rfl (fun hb7 => ?_) (fun hb7 => ?_)
       ·have hb7_ := of_decide_eq_true hb7
        have hex := dg.exit hstep (Or.inr (by omega))
        refine AWp_exit ?_
        exact ⟨g - 1, ⟨hex.1, by omega, hex.2⟩, (le_stL ⟨.refl _, .refl _, .refl _, .refl _, .refl _, .refl _, .refl _, trivial⟩ ⟨rfl, rfl, trivial⟩)⟩
       ·have hb7_ := of_decide_eq_false hb7
        refine AWp_skip ?_
        exact ⟨(g - 1, r + v.getD (k + 1) 0), ⟨hstep, by omega, by omega, by omega⟩, by show g - 1 < g; omega, (le_stL ⟨.refl _, .refl _, .refl _, .refl _, .refl _, .refl _, .refl _, .refl _, trivial⟩ ⟨rfl, rfl, trivial⟩)⟩
      ·have hb6_ := of_decide_eq_false hb6
       have hex := dg.exit hg (Or.inl ⟨by omega, by omega⟩)
       refine AWp_exit ?_
       exact ⟨g, ⟨hex.1, hdq, hex.2⟩, (le_stL ⟨.refl _, .refl _, .refl _, .refl _, .refl _, .refl _, .refl _, trivial⟩ ⟨rfl, rfl, trivial⟩)⟩
    rintro g ⟨hgB, hg1, hg2⟩
    refine AWp_sr hP<|RK.As rfl<|RK.D<|AWp_sr hP<|RK.As rfl<|RK.D<|AWp_seq<|AWp_sr hP<|RK.M rfl<|RK.V (op_len hT rfl rfl rfl rfl)<|RK.M rfl<|RK.D<|AWp_block<|AWp_loop (ι := List Nat × Nat × Nat × Nat) (fun ⟨o, i, c, e⟩ => stL [(8, Z (s : Int)), (9, .p (.c (W v))), (10, Z ((k + 2 : Nat) : Int)), (11, .vec 60), (12, .vec 70), (13, Z ((j : Nat) : Int)), (15, .p (.c (.v (.int .u64 ((g : Nat) : Int))))), (17, .p (.c (.v (.int .u64 ((c : Nat) : Int))))), (18, .p (.c (w32 (e)))), (147, .p (.c (W v))), (148, Z ((v.length : Nat) : Int)), (149, Z ((i : Nat) : Int))] [(60, WB 111 o), (70, WB 111 q)]) (fun ⟨o, i, c, e⟩ => i ≤ v.length ∧ o.length = u.length ∧ okW o ∧ c < 4294967296 ∧ e < 2 ∧ o.drop (j + k + 3) = u.drop (j + k + 3) ∧ wv o + 4294967296 ^ j * (g * wv (v.take i)) = wv u + 4294967296 ^ (j + i) * (c + e)) (fun ⟨_, i, _, _⟩ => v.length - i) (u, 0, 0, 0) ⟨Nat.zero_le _, rfl, hok, by omega, by omega, rfl, by simp [wv]⟩ (le_stL ⟨.refl _, .refl _, .refl _, .refl _, .refl _, .refl _, .refl _, .refl _, .refl _, .refl _, .refl _, .refl _, trivial⟩ ⟨rfl, rfl, trivial⟩) ?_
    rintro ⟨o, i, c, e⟩ ⟨hi, hlo, ho, hc, he, hd, hS⟩
    refine AWp_sr hP<|RK.V (op_lss rfl rfl)<|RK.D<|AWp_seq ?_
    refine AWp_cond rfl (fun hb8 => ?_) (fun hb8 => ?_)
    ·have hb8_ := of_decide_eq_true hb8
     have hlt : i < v.length := by omega
     have hvi := okv.getD i
     have hp1 := Nat.mul_le_mul (Nat.le_sub_one_of_lt hgB) (Nat.le_sub_one_of_lt (okv.getD i))
     have htB : (g * v.getD i 0 + c) / 4294967296 < 4294967296 := (Nat.div_lt_iff_lt_mul (by omega)).2 (by omega)
     refine AWp_skip<|AWp_seq<|AWp_block<|AWp_sr hP<|RK.M rfl<|RK.V (by first | exact op_index_WN hT rfl rfl rfl rfl rfl rfl (by omega) | exact op_index_sl hT rfl rfl rfl rfl rfl rfl (by omega) (by first | exact W_ne (by omega) | simp)) ?_
     refine RK.V (op_load_ip_one hT rfl rfl rfl (by first | rfl | exact wget (by omega))) ?_
     refine RK.As rfl<|RK.As rfl<|RK.D<|AWp_sr hP<|RK.M rfl<|RK.M rfl<|RK.V (op_conv hT rfl rfl rfl rfl (u64N (by omega))) ?_
     refine RK.V (op_mul rfl rfl (c := ((g * v.getD i 0 : Nat) : Int)) (by rw [← Int.natCast_mul, u64N (by omega)])) ?_
     refine RK.M rfl<|RK.V (op_add rfl rfl (c := ((g * v.getD i 0 + c : Nat) : Int)) (by rw [← Int.natCast_add, u64N (by omega)])) ?_
     refine RK.As rfl<|RK.D<|AWp_sr hP<|RK.M rfl<|RK.V (op_shrN (j := 32) rfl rfl (by first | decide | omega)) ?_
     refine RK.As rfl<|RK.D<|AWp_region hP<|RK.V (op_move (rfl : _ = AV.vec _))<|RK.M rfl<|RK.M rfl<|RK.V (op_add rfl rfl (c := ((j + i : Nat) : Int)) (by rw [IntWalk.i64_in _ (by omega)]; omega)) ?_
     refine RK.V (op_move (rfl : _ = AV.vec _))<|RK.M rfl<|RK.M rfl<|RK.V (op_add rfl rfl (c := ((j + i : Nat) : Int)) (by rw [IntWalk.i64_in _ (by omega)]; omega)) ?_
     refine RK.V (by first | exact op_index_vecWN hT rfl rfl rfl rfl rfl rfl rfl (by first | omega | (simp; omega)) | exact op_index_vecW hT rfl rfl rfl rfl rfl rfl rfl (by first | omega | (simp; omega))) ?_
     refine RK.V (op_loadWv hT rfl rfl rfl rfl (by first | omega | (simp; omega)) rfl) ?_
     refine RK.M rfl<|RK.V (op_conv hT rfl rfl rfl rfl (c := (((g * v.getD i 0 + c) % 4294967296 : Nat) : Int)) (by rw [IntKind.wrap_u32]; omega)) ?_
     refine RK.M rfl<|RK.V (Eff.call0 (sub32 _ _ _ (ho.getD _) (Nat.mod_lt _ (by omega)) he)) ?_
     refine RK.V (op_move (rfl : _ = AV.t _))<|RK.V (op_extract rfl (v := .c _) rfl)<|RK.V (op_extract rfl (v := .c _) rfl)<|RK.V (by first | exact op_index_vecWN hT rfl rfl rfl rfl rfl rfl rfl (by first | omega | (simp; omega)) | exact op_index_vecW hT rfl rfl rfl rfl rfl rfl rfl (by first | omega | (simp; omega))) ?_
     refine RK.sto guard_none (op_storeWv hT rfl rfl rfl rfl rfl (by first | omega | (simp; omega)) rfl) ?_
     refine RK.As rfl<|RK.D<|AWp_region hP<|RK.V (op_add rfl rfl (by first | exact IntWalk.i64_in _ (by omega) | rfl)) ?_
     refine RK.M rfl<|RK.D ?_
     have hr := msub_round (v := v) (g := g) (by omega) ho he rfl hS
     exact ⟨(o.set (j + i) ((o.getD (j + i) 0 + 8589934592 - (g * v.getD i 0 + c) % 4294967296 - e) % 4294967296), i + 1, (g * v.getD i 0 + c) / 4294967296, if o.getD (j + i) 0 < (g * v.getD i 0 + c) % 4294967296 + e then 1 else 0), ⟨by omega, by simpa using hlo, ho.set (Nat.mod_lt _ (by omega)), htB, by split <;> omega, by rw [List.drop_set_of_lt (by omega)]; exact hd, hr⟩, by show v.length - (i + 1) < v.length - i; omega, (le_stL ⟨.refl _, .refl _, .refl _, .refl _, .refl _, .refl _, .refl _, .refl _, .refl _, .refl _, .refl _, .refl _, trivial⟩ ⟨rfl, rfl, trivial⟩)⟩
    ·have hb8_ := of_decide_eq_false hb8
     have hie : i = v.length := by omega
     subst hie
     rw [List.take_length, hn1] at hS
     have hml1 := msub_last (o := o) (p := j + k + 2) (c := c) (e := e) (A := 4294967296 ^ j * (g * wv v)) (S := wv u) (by omega) ho hc he (by rw [show j + k + 2 = j + (k + 2) by omega]; exact hS)
     obtain ⟨o1, ho1⟩ : ∃ o1, o1 = o.set (j + k + 2) ((o.getD (j + k + 2) 0 + 8589934592 - c - e) % 4294967296) := ⟨_, rfl⟩
     have hok1 : okW o1 := by rw [ho1]; exact ho.set (Nat.mod_lt _ (by omega))
     have hlo1 : o1.length = u.length := by rw [ho1]; simpa using hlo
     have hd1 : o1.drop (j + k + 3) = u.drop (j + k + 3) := by rw [ho1, List.drop_set_of_lt (by omega)]; exact hd
     rw [← ho1, show j + k + 2 + 1 = j + k + 3 by omega] at hml1
     refine AWp_exit<|AWp_seq_cut (ι := List Nat) (fun u1 => stL [(8, Z (s : Int)), (9, .p (.c (W v))), (10, Z ((k + 2 : Nat) : Int)), (11, .vec 60), (12, .vec 70), (13, Z ((j : Nat) : Int)), (15, .p (.c (.v (.int .u64 ((digq v u j : Nat) : Int)))))] [(60, WB 111 u1), (70, WB 111 q)]) (fun u1 => u1.length = u.length ∧ okW u1 ∧ wv u1 + 4294967296 ^ j * (digq v u j * wv v) = wv u) ?_ ?_
     ·refine AWp_sr hP<|RK.V (op_move (rfl : _ = AV.vec _))<|RK.M rfl<|RK.M rfl<|RK.V (op_add rfl rfl (c := ((j + k + 2 : Nat) : Int)) (by rw [IntWalk.i64_in _ (by omega)]; omega)) ?_
      refine RK.V (op_move (rfl : _ = AV.vec _))<|RK.M rfl<|RK.M rfl<|RK.V (op_add rfl rfl (c := ((j + k + 2 : Nat) : Int)) (by rw [IntWalk.i64_in _ (by omega)]; omega)) ?_
      refine RK.V (by first | exact op_index_vecWN hT rfl rfl rfl rfl rfl rfl rfl (by first | omega | (simp; omega)) | exact op_index_vecW hT rfl rfl rfl rfl rfl rfl rfl (by first | omega | (simp; omega))) ?_
      refine RK.V (op_loadWv hT rfl rfl rfl rfl (by first | omega | (simp; omega)) rfl) ?_
      refine RK.M rfl<|RK.V (op_conv hT rfl rfl rfl rfl (u32N hc)) ?_
      refine RK.M rfl<|RK.V (Eff.call0 (sub32 _ _ _ (ho.getD _) hc he)) ?_
      refine RK.V (op_move (rfl : _ = AV.t _))<|RK.V (op_extract rfl (v := .c _) rfl)<|RK.V (op_extract rfl (v := .c _) rfl)<|RK.V (by first | exact op_index_vecWN hT rfl rfl rfl rfl rfl rfl rfl (by first | omega | (simp; omega)) | exact op_index_vecW hT rfl rfl rfl rfl rfl rfl rfl (by first | omega | (simp; omega))) ?_
      refine RK.sto guard_none (op_storeWv hT rfl rfl rfl rfl rfl (by first | omega | (simp; omega)) ho1.symm) ?_
      refine RK.As rfl<|RK.D<|AWp_sr hP<|RK.M rfl<|RK.V (op_gtr rfl rfl) ?_
      refine RK.D ?_
      refine AWp_cond rfl (fun hb9 => ?_) (fun hb9 => ?_)
      ·have hb9_ := of_decide_eq_true hb9
       have hbo : o.getD (j + k + 2) 0 < c + e := by
        rcases Nat.lt_or_ge (o.getD (j + k + 2) 0) (c + e) with h | h
        ·exact h
        ·rw [if_neg (by omega)] at *; omega
       rw [if_pos hbo, Nat.mul_one] at hml1
       have hgq := dg.bad hok1 hlo1 hd1 hg2 hml1
       have hg0 : 0 < g := by omega
       refine AWp_sr hP<|RK.M rfl<|RK.V (op_sub rfl rfl (c := ((g - 1 : Nat) : Int)) (by rw [IntWalk.u64_in _ (by omega)]; omega)) ?_
       refine RK.As rfl<|RK.D<|AWp_sr hP<|RK.As rfl<|RK.D<|AWp_seq<|AWp_sr hP<|RK.M rfl<|RK.V (op_len hT rfl rfl rfl rfl)<|RK.M rfl<|RK.D<|AWp_block<|AWp_loop (ι := List Nat × Nat × Nat) (fun ⟨o, i, c⟩ => stL [(8, Z (s : Int)), (9, .p (.c (W v))), (10, Z ((k + 2 : Nat) : Int)), (11, .vec 60), (12, .vec 70), (13, Z ((j : Nat) : Int)), (15, .p (.c (.v (.int .u64 ((g - 1 : Nat) : Int))))), (22, .p (.c (w32 (c)))), (203, .p (.c (W v))), (204, Z ((v.length : Nat) : Int)), (205, Z ((i : Nat) : Int))] [(60, WB 111 o), (70, WB 111 q)]) (fun ⟨o, i, c⟩ => i ≤ v.length ∧ o.length = u.length ∧ okW o ∧ c < 2 ∧ o.drop (j + k + 3) = u.drop (j + k + 3) ∧ wv o + 4294967296 ^ (j + i) * c = wv o1 + 4294967296 ^ j * wv (v.take i)) (fun ⟨_, i, _⟩ => v.length - i) (o1, 0, 0) ⟨Nat.zero_le _, hlo1, hok1, by omega, hd1, by simp [wv]⟩ (le_stL ⟨.refl _, .refl _, .refl _, .refl _, .refl _, .refl _, .refl _, .refl _, .refl _, .refl _, .refl _, trivial⟩ ⟨rfl, rfl, trivial⟩) ?_
       clear hbo hS hd he hc ho hlo hi ho1 hd1 hok1 hlo1
       rintro ⟨o, i, c⟩ ⟨hi, hlo, ho, hc, hd, hS2⟩
       refine AWp_sr hP<|RK.V (op_lss rfl rfl)<|RK.D<|AWp_seq ?_
       refine AWp_cond rfl (fun hb10 => ?_) (fun hb10 => ?_)
       ·have hb10_ := of_decide_eq_true hb10
        have hlt : i < v.length := by omega
        have hvi := okv.getD i
        have hoi := ho.getD (j + i)
        have hc2 : (o.getD (j + i) 0 + v.getD i 0 + c) / 4294967296 < 2 := (Nat.div_lt_iff_lt_mul (by omega)).2 (by omega)
        refine AWp_skip<|AWp_seq<|AWp_block<|AWp_sr hP<|RK.M rfl<|RK.V (by first | exact op_index_WN hT rfl rfl rfl rfl rfl rfl (by omega) | exact op_index_sl hT rfl rfl rfl rfl rfl rfl (by omega) (by first | exact W_ne (by omega) | simp)) ?_
        refine RK.V (op_load_ip_one hT rfl rfl rfl (by first | rfl | exact wget (by omega))) ?_
        refine RK.As rfl<|RK.As rfl<|RK.D<|AWp_region hP<|RK.V (op_move (rfl : _ = AV.vec _))<|RK.M rfl<|RK.M rfl<|RK.V (op_add rfl rfl (c := ((j + i : Nat) : Int)) (by rw [IntWalk.i64_in _ (by omega)]; omega)) ?_
        refine RK.V (op_move (rfl : _ = AV.vec _))<|RK.M rfl<|RK.M rfl<|RK.V (op_add rfl rfl (c := ((j + i : Nat) : Int)) (by rw [IntWalk.i64_in _ (by omega)]; omega)) ?_
        refine RK.V (by first | exact op_index_vecWN hT rfl rfl rfl rfl rfl rfl rfl (by first | omega | (simp; omega)) | exact op_index_vecW hT rfl rfl rfl rfl rfl rfl rfl (by first | omega | (simp; omega))) ?_
        refine RK.V (op_loadWv hT rfl rfl rfl rfl (by first | omega | (simp; omega)) rfl) ?_
        refine RK.M rfl<|RK.M rfl<|RK.V (Eff.call0 (add32 _ _ _ (ho.getD _) (okv.getD _) (by omega))) ?_
        refine RK.V (op_move (rfl : _ = AV.t _))<|RK.V (op_extract rfl (v := .c _) rfl)<|RK.V (op_extract rfl (v := .c _) rfl)<|RK.V (by first | exact op_index_vecWN hT rfl rfl rfl rfl rfl rfl rfl (by first | omega | (simp; omega)) | exact op_index_vecW hT rfl rfl rfl rfl rfl rfl rfl (by first | omega | (simp; omega))) ?_
        refine RK.sto guard_none (op_storeWv hT rfl rfl rfl rfl rfl (by first | omega | (simp; omega)) rfl) ?_
        refine RK.As rfl<|RK.D<|AWp_region hP<|RK.V (op_add rfl rfl (by first | exact IntWalk.i64_in _ (by omega) | rfl)) ?_
        refine RK.M rfl<|RK.D ?_
        have hr := addb_round (v := v) (i := i) (by omega) rfl hS2
        exact ⟨(o.set (j + i) ((o.getD (j + i) 0 + v.getD i 0 + c) % 4294967296), i + 1, (o.getD (j + i) 0 + v.getD i 0 + c) / 4294967296), ⟨by omega, by simpa using hlo, ho.set (Nat.mod_lt _ (by omega)), hc2, by rw [List.drop_set_of_lt (by omega)]; exact hd, hr⟩, by show v.length - (i + 1) < v.length - i; omega, (le_stL ⟨.refl _, .refl _, .refl _, .refl _, .refl _, .refl _, .refl _, .refl _, .refl _, .refl _, .refl _, trivial⟩ ⟨rfl, rfl, trivial⟩)⟩
       ·have hb10_ := of_decide_eq_false hb10
        have hie : i = v.length := by omega
        subst hie
        rw [List.take_length, hn1] at hS2
        have hbk := dg.back (o := o.set (j + k + 2) ((o.getD (j + k + 2) 0 + c) % 4294967296)) (o1 := o) (c := c) (ho.set (Nat.mod_lt _ (by omega))) (by simpa using hlo) (by rw [List.drop_set_of_lt (by omega)]; exact hd) hgq hml1 (by rw [show j + k + 2 = j + (k + 2) by omega]; exact hS2) ho hc rfl hlo
        refine AWp_exit<|AWp_region hP<|RK.V (op_move (rfl : _ = AV.vec _))<|RK.M rfl<|RK.M rfl<|RK.V (op_add rfl rfl (c := ((j + k + 2 : Nat) : Int)) (by rw [IntWalk.i64_in _ (by omega)]; omega)) ?_
        refine RK.V (by first | exact op_index_vecWN hT rfl rfl rfl rfl rfl rfl rfl (by first | omega | (simp; omega)) | exact op_index_vecW hT rfl rfl rfl rfl rfl rfl rfl (by first | omega | (simp; omega))) ?_
        refine RK.V (op_loadWv hT rfl rfl rfl rfl (by first | omega | (simp; omega)) rfl) ?_
        refine RK.M rfl<|RK.V (op_add rfl rfl (c := (((o.getD (j + k + 2) 0 + c) % 4294967296 : Nat) : Int)) (by rw [IntKind.wrap_u32]; omega)) ?_
        refine RK.V (by first | exact op_index_vecWN hT rfl rfl rfl rfl rfl rfl rfl (by first | omega | (simp; omega)) | exact op_index_vecW hT rfl rfl rfl rfl rfl rfl rfl (by first | omega | (simp; omega))) ?_
        refine RK.sto guard_none (op_storeWv hT rfl rfl rfl rfl rfl (by first | omega | (simp; omega)) rfl) ?_
        refine RK.D ?_
        exact ⟨_, ⟨by simpa using hlo, ho.set (Nat.mod_lt _ (by omega)), hbk⟩, (le_stL ⟨.refl _, .refl _, .refl _, .refl _, .refl _, .refl _, Sub.int (by omega), trivial⟩ ⟨rfl, rfl, trivial⟩)⟩
      ·have hb9_ := of_decide_eq_false hb9
       have hbo : ¬ o.getD (j + k + 2) 0 < c + e := by
        intro h
        rw [if_pos h] at *; omega
       rw [if_neg hbo, Nat.mul_zero, Nat.add_zero] at hml1
       have hgq := dg.good hg1 hml1
       refine AWp_skip ?_
       exact ⟨o1, ⟨hlo1, hok1, hgq ▸ hml1⟩, (le_stL ⟨.refl _, .refl _, .refl _, .refl _, .refl _, .refl _, Sub.int (by omega), trivial⟩ ⟨rfl, rfl, trivial⟩)⟩
     rintro u1 ⟨hl1, hok1, hfin⟩
     refine AWp_region hP<|RK.V (op_move (rfl : _ = AV.vec _))<|RK.M rfl<|RK.M rfl<|RK.V (op_conv hT rfl rfl rfl rfl (u32N dg.q_lt)) ?_
     refine RK.V (by first | exact op_index_vecWN hT rfl rfl rfl rfl rfl rfl rfl (by first | omega | (simp; omega)) | exact op_index_vecW hT rfl rfl rfl rfl rfl rfl rfl (by first | omega | (simp; omega))) ?_
     refine RK.sto guard_none (op_storeWv hT rfl rfl rfl rfl rfl (by first | omega | (simp; omega)) rfl) ?_
     refine RK.D<|AWp_region hP<|RK.M rfl<|RK.V (op_sub rfl rfl (by first | exact IntWalk.i64_in _ (by omega) | rfl)) ?_
     refine RK.As rfl<|RK.D ?_
     have hdn := dg.done hok1 hl1 hfin
     exact ⟨(u1, q.set j (digq v u j), j), ⟨by omega, hok1, by simpa using hlq, hqok.set dg.q_lt, by simp; omega, hdn, div_outer (by omega) hM hfin⟩, by show j < j + 1; omega, (le_stL ⟨.refl _, .refl _, .refl _, .refl _, .refl _, .refl _, trivial⟩ ⟨rfl, rfl, trivial⟩)⟩
   ·have hb3_ := of_decide_eq_false hb3
    have hie : i = 0 := by omega
    subst hie
    rw [List.drop_zero] at hlow hM
    rw [Nat.pow_zero, Nat.one_mul] at hM
    have hE : a / b = wv q ∧ a % b = wv u / 2 ^ s := div_end (m := a) (b := b) (s := s) (q := wv q) (r := wv u) (hwv ▸ hM) (hwv ▸ hlow)
    have hlt2 : wv u < 4294967296 ^ (k + 2) := Nat.lt_trans hlow (by have := wv_lt okv; rwa [hn1] at this)
    have htk : wv (u.take (k + 2)) = wv u := by
     have e := wv_split u (k + 2) (by omega)
     rcases Nat.eq_zero_or_pos (wv (u.drop (k + 2))) with h | h
     ·rw [h, Nat.mul_zero] at e; omega
     ·have := Nat.le_mul_of_pos_right (4294967296 ^ (k + 2)) h
      omega
    have hshl : (wl (wv (u.take (k + 2)))).length ≤ 1099511627776 := by
     have := wl_len_le (htk.symm ▸ hlt2 : wv (u.take (k + 2)) < 4294967296 ^ (k + 2))
     omega
    refine AWp_exit<|AWp_freezeW (t := 12) rfl rfl ?_
    refine AWp_freezeW (t := 11) rfl rfl ?_
    refine AWp_sr hP<|RK.M rfl<|RK.V (Eff.call0 (nat_trim _ hqok)) ?_
    refine RK.M rfl<|RK.M rfl<|RK.V (op_slice_hW hT rfl rfl rfl rfl rfl rfl (by omega)) ?_
    refine RK.V (Eff.call0 (nat_trim _ (hok.take _))) ?_
    refine RK.M rfl<|RK.V (Eff.call0 (nat_shr (wl (wv (u.take (k + 2)))) s (wl_ok _) hshl hs32)) ?_
    refine RK.As rfl<|RK.As rfl<|RK.D<|AWp_ret ?_
    refine ends_two rfl (.inr rfl) (res_tmp rfl) (res_tmp rfl) ?_ O_ends
    exact Sub.of_eq (by rw [wv_wl, htk, hE.1, hE.2])
end Go.Proofs.YtpaifigafaijpaaGreatDoor
end
section
namespace Go.Proofs.YtpaifigafaijpaaGreatDoor
open Go Go.AM
theorem nat_bits (m : Nat) :
  Call0 Tryz.prog 237 [.p (.c (nt m))] (Z (blen m)) := by
 refine callM_of (np := 0) Tryz.func237 (by kernel_rfl) rfl rfl (Nat.le_of_ble_eq_true rfl) (fun m h => absurd rfl h) (fun m h => absurd rfl h) rfl ?_
 refine AWp_len (t := 0) rfl rfl (fun hlen => ?_)
 have hb32 : ∀ x : Nat, x < 4294967296 → blen x ≤ 32 := fun x h => blen_le (k := 32) h
 refine AWp_sr hP<|RK.As rfl<|RK.D<|AWp_seq<|AWp_sr hP<|RK.M rfl<|RK.V (op_len hT rfl rfl rfl rfl)<|RK.V (op_eql rfl rfl) ?_
 refine RK.D ?_
 refine AWp_cond rfl (fun hb1 => ?_) (fun hb1 => ?_)
 ·have hb1_ := bT hb1
  refine AWp_sr hP<|RK.As rfl<|RK.D<|AWp_ret ?_
  refine ends_one rfl (.inr rfl) (res_tmp rfl) ?_ O_ends
  have h0 : wl m = [] := by
   rcases h : wl m with _ | ⟨x, r⟩
   ·rfl
   ·rw [h] at hb1_; simp at hb1_; omega
  have : m = 0 := by rw [← wv_wl m, h0]; rfl
  exact Sub.int (by rw [this]; rfl)
 ·have hb1_ := bF hb1
  refine AWp_skip<|AWp_sr hP<|RK.M rfl<|RK.V (op_len hT rfl rfl rfl rfl)<|RK.V (op_sub rfl rfl (by first | exact IntWalk.i64_in _ (by omega) | rfl)) ?_
  refine RK.V (op_mul rfl rfl (by first | exact IntWalk.i64_in _ (by omega) | rfl)) ?_
  refine RK.M rfl<|RK.M rfl<|RK.V (op_len hT rfl rfl rfl rfl)<|RK.V (op_sub rfl rfl (by first | exact IntWalk.i64_in _ (by omega) | rfl)) ?_
  refine RK.V (by first | exact op_index_WN hT rfl rfl rfl rfl rfl rfl (by omega) | exact op_index_sl hT rfl rfl rfl rfl rfl rfl (by omega) (by first | exact W_ne (by omega) | simp)) ?_
  refine RK.V (op_load_ip_one hT rfl rfl rfl (by first | rfl | exact wget (by omega))) ?_
  refine RK.V (Eff.call0 (len32 _ ((wl_ok m).getD _))) ?_
  refine RK.V (op_add rfl rfl (IntWalk.i64_in _ (by have := hb32 _ ((wl_ok m).getD (((wl m).length : Int) - 1).toNat); omega))) ?_
  refine RK.As rfl<|RK.D<|AWp_ret ?_
  refine ends_one rfl (.inr rfl) (res_tmp rfl) ?_ O_ends
  obtain ⟨k, hk⟩ : ∃ k, (wl m).length = k + 1 := ⟨(wl m).length - 1, by omega⟩
  have hkk : (((wl m).length : Int) - 1).toNat = k := by omega
  exact Sub.int (by rw [hkk, blen_top hk]; omega)
end Go.Proofs.YtpaifigafaijpaaGreatDoor
end
section
namespace Go.Proofs.YtpaifigafaijpaaGreatDoor
open Go Go.AM
theorem int_of (neg : Bool) (ws : List Nat) (h : okW ws) :
  Call0 Tryz.prog 127 [B neg, .p (.c (W ws))] (I (sg neg (wv ws))) := by
 refine callM_of (np := 0) Tryz.func127 (by kernel_rfl) rfl rfl (Nat.le_of_ble_eq_true rfl) (fun m h => absurd rfl h) (fun m h => absurd rfl h) rfl ?_
 refine AWp_sr hP<|RK.alc guard_none (op_alloc hT rfl rfl)<|RK.D<|AWp_sr hP<|RK.M rfl<|RK.V (Eff.call0 (nat_trim _ h)) ?_
 refine RK.As rfl<|RK.D<|AWp_seq<|AWp_sr hP<|RK.M rfl<|RK.V (op_len hT rfl rfl rfl rfl)<|RK.V (op_eql rfl rfl) ?_
 refine RK.D ?_
 refine AWp_cond rfl (fun hb1 => ?_) (fun hb1 => ?_)
 ·have hb1_ := bT hb1
  refine AWp_sr hP<|RK.V (op_build_st hT rfl rfl rfl (es := [_, _]) rfl) ?_
  refine RK.S hT rfl rfl rfl rfl rfl rfl rfl<|RK.D<|AWp_ret ?_
  refine ends_one rfl (.inr rfl) (res_cell_agg hT rfl rfl rfl rfl (cs := [_, _]) rfl rfl) ?_ O_ends
  have h0 : wv ws = 0 := wl_len0 (by omega)
  rw [h0, sg_zero]
  exact .refl _
 ·have hb1_ := bF hb1
  refine AWp_skip<|AWp_sr hP<|RK.M rfl<|RK.M rfl<|RK.V (op_build_st hT rfl rfl rfl (es := [_, _]) rfl) ?_
  refine RK.S hT rfl rfl rfl rfl rfl rfl rfl<|RK.D<|AWp_ret ?_
  refine ends_one rfl (.inr rfl) (res_cell_agg hT rfl rfl rfl rfl (cs := [_, _]) rfl rfl) ?_ O_ends
  have h0 : 0 < wv ws := by
   rcases Nat.eq_zero_or_pos (wv ws) with e | e
   ·rw [e] at hb1_; exact absurd rfl hb1_
   ·exact e
  exact Sub.of_eq (by show _ = AV.p (.a [zn _, zm _]); rw [zn_sg h0, zm_sg])
theorem int_Abs (x : Int) :
  Call0 Tryz.prog 136 [I x] (I x.natAbs) := by
 refine callM_of (np := 0) Tryz.func136 (by kernel_rfl) rfl rfl (Nat.le_of_ble_eq_true rfl) (fun m h => absurd rfl h) (fun m h => absurd rfl h) rfl ?_
 refine AWp_sr hP<|RK.alc guard_none (op_box rfl rfl)<|RK.alc guard_none (op_alloc hT rfl rfl)<|RK.D<|AWp_sr hP<|RK.F hT rfl rfl rfl rfl rfl rfl<|RK.V (op_load_one hT rfl rfl rfl rfl (by first | rfl | exact vget (by omega))) ?_
 refine RK.V (Eff.call0 (int_of _ (wl x.natAbs) (wl_ok _))) ?_
 refine RK.S hT rfl rfl rfl rfl rfl rfl rfl<|RK.D<|AWp_ret ?_
 refine ends_one rfl (.inr rfl) (res_cell_agg hT rfl rfl rfl rfl (cs := [_, _]) rfl rfl) ?_ O_ends
 exact Sub.I (abs_sg x)
theorem int_Neg (x : Int) :
  Call0 Tryz.prog 108 [I x] (I (-x)) := by
 refine callM_of (np := 0) Tryz.func108 (by kernel_rfl) rfl rfl (Nat.le_of_ble_eq_true rfl) (fun m h => absurd rfl h) (fun m h => absurd rfl h) rfl ?_
 refine AWp_sr hP<|RK.alc guard_none (op_box rfl rfl)<|RK.alc guard_none (op_alloc hT rfl rfl)<|RK.D<|AWp_sr hP<|RK.F hT rfl rfl rfl rfl rfl rfl<|RK.V (op_load_one hT rfl rfl rfl rfl (by first | rfl | exact vget (by omega))) ?_
 refine RK.V (op_unot rfl) ?_
 refine RK.F hT rfl rfl rfl rfl rfl rfl<|RK.V (op_load_one hT rfl rfl rfl rfl (by first | rfl | exact vget (by omega))) ?_
 refine RK.V (Eff.call0 (int_of _ (wl x.natAbs) (wl_ok _))) ?_
 refine RK.S hT rfl rfl rfl rfl rfl rfl rfl<|RK.D<|AWp_ret ?_
 refine ends_one rfl (.inr rfl) (res_cell_agg hT rfl rfl rfl rfl (cs := [_, _]) rfl rfl) ?_ O_ends
 exact Sub.I (neg_sg x)
theorem int_Add (x y : Int) (hx : L 45 x) (hy : L 45 y) :
  Call0 Tryz.prog 57 [I x, I y] (I (x + y)) := by
 refine callM_of (np := 0) Tryz.func57 (by kernel_rfl) rfl rfl (Nat.le_of_ble_eq_true rfl) (fun m h => absurd rfl h) (fun m h => absurd rfl h) rfl ?_
 refine AWp_sr hP<|RK.alc guard_none (op_box rfl rfl)<|RK.alc guard_none (op_box rfl rfl)<|RK.alc guard_none (op_alloc hT rfl rfl)<|RK.D<|AWp_sr hP<|RK.F hT rfl rfl rfl rfl rfl rfl<|RK.V (op_load_one hT rfl rfl rfl rfl (by first | rfl | exact vget (by omega))) ?_
 refine RK.F hT rfl rfl rfl rfl rfl rfl<|RK.V (op_load_one hT rfl rfl rfl rfl (by first | rfl | exact vget (by omega))) ?_
 refine RK.As rfl<|RK.As rfl<|RK.D<|AWp_seq<|AWp_block<|AWp_sr hP<|RK.F hT rfl rfl rfl rfl rfl rfl<|RK.V (op_load_one hT rfl rfl rfl rfl (by first | rfl | exact vget (by omega))) ?_
 refine RK.F hT rfl rfl rfl rfl rfl rfl<|RK.V (op_load_one hT rfl rfl rfl rfl (by first | rfl | exact vget (by omega))) ?_
 refine RK.V (op_beq hT rfl rfl rfl rfl) ?_
 refine RK.As rfl<|RK.D ?_
 refine AWp_cond rfl (fun hb1 => ?_) (fun hb1 => ?_)
 ·refine AWp_sr hP<|RK.F hT rfl rfl rfl rfl rfl rfl<|RK.V (op_load_one hT rfl rfl rfl rfl (by first | rfl | exact vget (by omega))) ?_
  refine RK.M rfl<|RK.M rfl<|RK.V (Eff.call0 (nat_add (wl x.natAbs) (wl y.natAbs) (wl_ok _) (wl_ok _) (sz hx) (sz hy))) ?_
  refine RK.V (Eff.call0 (int_of _ _ (wl_ok _))) ?_
  refine RK.S hT rfl rfl rfl rfl rfl rfl rfl<|RK.D<|AWp_ret ?_
  refine ends_one rfl (.inr rfl) (res_cell_agg hT rfl rfl rfl rfl (cs := [_, _]) rfl rfl) ?_ O_ends
  exact Sub.I (by rw [wv_wl]; exact add_same (by assumption))
 ·refine AWp_sr hP<|RK.M rfl<|RK.M rfl<|RK.V (Eff.call0 (nat_cmp x.natAbs y.natAbs)) ?_
  refine RK.V (op_lss rfl rfl)<|RK.As rfl<|RK.D ?_
  refine AWp_cond rfl (fun hb2 => ?_) (fun hb2 => ?_)
  ·have hb2_ := of_decide_eq_true hb2
   have hc := cmp_lt (m := x.natAbs) (n := y.natAbs) (by assumption)
   refine AWp_sr hP<|RK.F hT rfl rfl rfl rfl rfl rfl<|RK.V (op_load_one hT rfl rfl rfl rfl (by first | rfl | exact vget (by omega))) ?_
   refine RK.M rfl<|RK.M rfl<|RK.V (Eff.call0 (nat_sub (wl y.natAbs) (wl x.natAbs) (wl_ok _) (wl_ok _) (sz hy) (wl_len_mono (by omega)) (by rw [wv_wl, wv_wl]; omega))) ?_
   refine RK.V (Eff.call0 (int_of _ _ (wl_ok _))) ?_
   refine RK.S hT rfl rfl rfl rfl rfl rfl rfl<|RK.D<|AWp_ret ?_
   refine ends_one rfl (.inr rfl) (res_cell_agg hT rfl rfl rfl rfl (cs := [_, _]) rfl rfl) ?_ O_ends
   exact Sub.I (by rw [wv_wl]; exact add_lt (by assumption) hc)
  ·have hb2_ := of_decide_eq_false hb2
   have hc := cmp_ge (m := x.natAbs) (n := y.natAbs) (by assumption)
   refine AWp_skip<|AWp_sr hP<|RK.F hT rfl rfl rfl rfl rfl rfl<|RK.V (op_load_one hT rfl rfl rfl rfl (by first | rfl | exact vget (by omega))) ?_
   refine RK.M rfl<|RK.M rfl<|RK.V (Eff.call0 (nat_sub (wl x.natAbs) (wl y.natAbs) (wl_ok _) (wl_ok _) (sz hx) (wl_len_mono hc) (by rw [wv_wl, wv_wl]; exact hc))) ?_
   refine RK.V (Eff.call0 (int_of _ _ (wl_ok _))) ?_
   refine RK.S hT rfl rfl rfl rfl rfl rfl rfl<|RK.D<|AWp_ret ?_
   refine ends_one rfl (.inr rfl) (res_cell_agg hT rfl rfl rfl rfl (cs := [_, _]) rfl rfl) ?_ O_ends
   exact Sub.I (by rw [wv_wl]; exact add_ge (by assumption) hc)
theorem int_Sub (x y : Int) (hx : L 45 x) (hy : L 45 y) :
  Call0 Tryz.prog 100 [I x, I y] (I (x - y)) := by
 refine callM_of (np := 0) Tryz.func100 (by kernel_rfl) rfl rfl (Nat.le_of_ble_eq_true rfl) (fun m h => absurd rfl h) (fun m h => absurd rfl h) rfl ?_
 refine AWp_sr hP<|RK.alc guard_none (op_box rfl rfl)<|RK.alc guard_none (op_box rfl rfl)<|RK.alc guard_none (op_alloc hT rfl rfl)<|RK.D<|AWp_sr hP<|RK.G2 hT rfl rfl rfl rfl rfl rfl<|RK.G2 hT rfl rfl rfl rfl rfl rfl<|RK.V (Eff.call0 (int_Neg y)) ?_
 refine RK.V (Eff.call0 (int_Add x (-y) hx hy.neg)) ?_
 refine RK.S hT rfl rfl rfl rfl rfl rfl rfl<|RK.D<|AWp_ret ?_
 refine ends_one rfl (.inr rfl) (res_cell_agg hT rfl rfl rfl rfl (cs := [_, _]) rfl rfl) ?_ O_ends
 exact Sub.I (by omega)
theorem int_Mul (x y : Int) (hx : L 45 x) (hy : L 45 y) :
  Call0 Tryz.prog 53 [I x, I y] (I (x * y)) := by
 refine callM_of (np := 0) Tryz.func53 (by kernel_rfl) rfl rfl (Nat.le_of_ble_eq_true rfl) (fun m h => absurd rfl h) (fun m h => absurd rfl h) rfl ?_
 refine AWp_sr hP<|RK.alc guard_none (op_box rfl rfl)<|RK.alc guard_none (op_box rfl rfl)<|RK.alc guard_none (op_alloc hT rfl rfl)<|RK.D<|AWp_sr hP<|RK.F hT rfl rfl rfl rfl rfl rfl<|RK.V (op_load_one hT rfl rfl rfl rfl (by first | rfl | exact vget (by omega))) ?_
 refine RK.F hT rfl rfl rfl rfl rfl rfl<|RK.V (op_load_one hT rfl rfl rfl rfl (by first | rfl | exact vget (by omega))) ?_
 refine RK.V (op_bne hT rfl rfl rfl rfl) ?_
 refine RK.F hT rfl rfl rfl rfl rfl rfl<|RK.V (op_load_one hT rfl rfl rfl rfl (by first | rfl | exact vget (by omega))) ?_
 refine RK.F hT rfl rfl rfl rfl rfl rfl<|RK.V (op_load_one hT rfl rfl rfl rfl (by first | rfl | exact vget (by omega))) ?_
 refine RK.V (Eff.call0 (nat_mul (wl x.natAbs) (wl y.natAbs) (wl_ok _) (wl_ok _) (sz hx) (sz hy))) ?_
 refine RK.V (Eff.call0 (int_of _ _ (wl_ok _))) ?_
 refine RK.S hT rfl rfl rfl rfl rfl rfl rfl<|RK.D<|AWp_ret ?_
 refine ends_one rfl (.inr rfl) (res_cell_agg hT rfl rfl rfl rfl (cs := [_, _]) rfl rfl) ?_ O_ends
 exact Sub.I (by rw [wv_wl]; exact mul_sg x y)
end Go.Proofs.YtpaifigafaijpaaGreatDoor
end
section
namespace Go.Proofs.YtpaifigafaijpaaGreatDoor
open Go Go.AM
theorem int_Sign (x : Int) :
  Call0 Tryz.prog 60 [I x] (Z (sgn x)) := by
 refine callM_of (np := 0) Tryz.func60 (by kernel_rfl) rfl rfl (Nat.le_of_ble_eq_true rfl) (fun m h => absurd rfl h) (fun m h => absurd rfl h) rfl ?_
 refine AWp_sr hP<|RK.alc guard_none (op_box rfl rfl)<|RK.As rfl<|RK.D<|AWp_seq<|AWp_block<|AWp_sr hP<|RK.F hT rfl rfl rfl rfl rfl rfl<|RK.V (op_load_one hT rfl rfl rfl rfl (by first | rfl | exact vget (by omega))) ?_
 refine RK.V (op_len hT rfl rfl rfl rfl)<|RK.V (op_eql rfl rfl) ?_
 refine RK.As rfl<|RK.D ?_
 refine AWp_cond rfl (fun hb1 => ?_) (fun hb1 => ?_)
 ·have hb1_ := bT hb1
  refine AWp_sr hP<|RK.As rfl<|RK.D<|AWp_ret ?_
  refine ends_one rfl (.inr rfl) (res_tmp rfl) ?_ O_ends
  have h0 := wl_len_zero.1 hb1_
  exact Sub.int (by rw [h0]; rfl)
 ·have hb1_ := bF hb1
  refine AWp_sr hP<|RK.F hT rfl rfl rfl rfl rfl rfl<|RK.V (op_load_one hT rfl rfl rfl rfl (by first | rfl | exact vget (by omega))) ?_
  refine RK.As rfl<|RK.D ?_
  refine AWp_cond rfl (fun hb2 => ?_) (fun hb2 => ?_)
  ·refine AWp_sr hP<|RK.As rfl<|RK.D<|AWp_ret ?_
   refine ends_one rfl (.inr rfl) (res_tmp rfl) ?_ O_ends
   exact Sub.int (sgn_neg hb2).symm
  ·refine AWp_skip<|AWp_sr hP<|RK.As rfl<|RK.D<|AWp_ret ?_
   refine ends_one rfl (.inr rfl) (res_tmp rfl) ?_ O_ends
   have h0 : x ≠ 0 := fun e => hb1_ (wl_len_zero.2 e)
   exact Sub.int (sgn_pos h0 hb2).symm
theorem int_Cmp (x y : Int) :
  Call0 Tryz.prog 54 [I x, I y] (Z (cmpI x y)) := by
 refine callM_of (np := 0) Tryz.func54 (by kernel_rfl) rfl rfl (Nat.le_of_ble_eq_true rfl) (fun m h => absurd rfl h) (fun m h => absurd rfl h) rfl ?_
 refine AWp_sr hP<|RK.alc guard_none (op_box rfl rfl)<|RK.alc guard_none (op_box rfl rfl)<|RK.As rfl<|RK.D<|AWp_seq<|AWp_sr hP<|RK.F hT rfl rfl rfl rfl rfl rfl<|RK.V (op_load_one hT rfl rfl rfl rfl (by first | rfl | exact vget (by omega))) ?_
 refine RK.F hT rfl rfl rfl rfl rfl rfl<|RK.V (op_load_one hT rfl rfl rfl rfl (by first | rfl | exact vget (by omega))) ?_
 refine RK.V (op_bne hT rfl rfl rfl rfl) ?_
 refine RK.D ?_
 refine AWp_cond rfl (fun hb1 => ?_) (fun hb1 => ?_)
 ·refine AWp_sr hP<|RK.G2 hT rfl rfl rfl rfl rfl rfl<|RK.V (Eff.call0 (int_Sign _)) ?_
  refine RK.G2 hT rfl rfl rfl rfl rfl rfl<|RK.V (Eff.call0 (int_Sign _)) ?_
  refine RK.V (Eff.call0 (compare_int _ _)) ?_
  refine RK.As rfl<|RK.D<|AWp_ret ?_
  refine ends_one rfl (.inr rfl) (res_tmp rfl) ?_ O_ends
  exact Sub.int (cmp_diff hb1)
 ·refine AWp_skip<|AWp_sr hP<|RK.F hT rfl rfl rfl rfl rfl rfl<|RK.V (op_load_one hT rfl rfl rfl rfl (by first | rfl | exact vget (by omega))) ?_
  refine RK.F hT rfl rfl rfl rfl rfl rfl<|RK.V (op_load_one hT rfl rfl rfl rfl (by first | rfl | exact vget (by omega))) ?_
  refine RK.V (Eff.call0 (nat_cmp x.natAbs y.natAbs)) ?_
  refine RK.G2 hT rfl rfl rfl rfl rfl rfl<|RK.V (Eff.call0 (int_Sign _)) ?_
  refine RK.V (op_bslice hT rfl rfl rfl (es := [_, _]) rfl rfl rfl) ?_
  refine RK.V (Eff.call0 (or_int _ _)) ?_
  refine RK.V (op_mul rfl rfl (cmp_same hb1)) ?_
  refine RK.As rfl<|RK.D<|AWp_ret ?_
  refine ends_one rfl (.inr rfl) (res_tmp rfl) ?_ O_ends
  exact .refl _
theorem int_Bits (x : Int) :
  Call0 Tryz.prog 212 [I x] (Z (blen x.natAbs)) := by
 refine callM_of (np := 0) Tryz.func212 (by kernel_rfl) rfl rfl (Nat.le_of_ble_eq_true rfl) (fun m h => absurd rfl h) (fun m h => absurd rfl h) rfl ?_
 refine AWp_sr hP<|RK.alc guard_none (op_box rfl rfl)<|RK.As rfl<|RK.D<|AWp_sr hP<|RK.F hT rfl rfl rfl rfl rfl rfl<|RK.V (op_load_one hT rfl rfl rfl rfl (by first | rfl | exact vget (by omega))) ?_
 refine RK.V (Eff.call0 (nat_bits x.natAbs)) ?_
 refine RK.As rfl<|RK.D<|AWp_ret ?_
 refine ends_one rfl (.inr rfl) (res_tmp rfl) ?_ O_ends
 exact .refl _
theorem int_Valid (x : Int) (hx : L 45 x) :
  Call0 Tryz.prog 161 [I x] (B true) := by
 have hlen := sz hx
 refine callM_of (np := 0) Tryz.func161 (by kernel_rfl) rfl rfl (Nat.le_of_ble_eq_true rfl) (fun m h => absurd rfl h) (fun m h => absurd rfl h) rfl ?_
 refine AWp_sr hP<|RK.alc guard_none (op_box rfl rfl)<|RK.As rfl<|RK.D<|AWp_seq<|AWp_sr hP<|RK.F hT rfl rfl rfl rfl rfl rfl<|RK.V (op_load_one hT rfl rfl rfl rfl (by first | rfl | exact vget (by omega))) ?_
 refine RK.V (op_len hT rfl rfl rfl rfl)<|RK.V (op_eql rfl rfl) ?_
 refine RK.D ?_
 refine AWp_cond rfl (fun hb1 => ?_) (fun hb1 => ?_)
 ·have hb1_ := bT hb1
  refine AWp_sr hP<|RK.F hT rfl rfl rfl rfl rfl rfl<|RK.V (op_load_one hT rfl rfl rfl rfl (by first | rfl | exact vget (by omega))) ?_
  refine RK.V (op_unot rfl) ?_
  refine RK.As rfl<|RK.D<|AWp_ret ?_
  refine ends_one rfl (.inr rfl) (res_tmp rfl) ?_ O_ends
  have h0 := wl_len_zero.1 hb1_
  exact Sub.of_eq (by rw [h0]; rfl)
 ·have hb1_ := bF hb1
  refine AWp_skip<|AWp_sr hP<|RK.F hT rfl rfl rfl rfl rfl rfl<|RK.V (op_load_one hT rfl rfl rfl rfl (by first | rfl | exact vget (by omega))) ?_
  refine RK.F hT rfl rfl rfl rfl rfl rfl<|RK.V (op_load_one hT rfl rfl rfl rfl (by first | rfl | exact vget (by omega))) ?_
  refine RK.V (op_len hT rfl rfl rfl rfl)<|RK.V (op_sub rfl rfl (by first | exact IntWalk.i64_in _ (by omega) | rfl)) ?_
  refine RK.V (by first | exact op_index_WN hT rfl rfl rfl rfl rfl rfl (by omega) | exact op_index_sl hT rfl rfl rfl rfl rfl rfl (by omega) (by first | exact W_ne (by omega) | simp)) ?_
  refine RK.V (op_load_ip_one hT rfl rfl rfl (by first | rfl | exact wget (by omega))) ?_
  refine RK.V (op_neq rfl rfl) ?_
  refine RK.As rfl<|RK.D<|AWp_ret ?_
  refine ends_one rfl (.inr rfl) (res_tmp rfl) ?_ O_ends
  have h1 : (wl x.natAbs).length ≠ 0 := fun e => hb1_ (by rw [e]; rfl)
  have h2 : (((wl x.natAbs).length : Int) - 1).toNat = (wl x.natAbs).length - 1 := by omega
  rw [h2]
  have h3 := top_ne (k := x.natAbs) (n := (wl x.natAbs).length - 1) (by omega)
  exact Sub.of_eq (by rw [show ((((wl x.natAbs).getD ((wl x.natAbs).length - 1) 0 : Nat) : Int) != 0) = true from bne_iff_ne.2 (by omega)])
theorem int_Of (z : Int) (hz : InI64 z) :
  Call0 Tryz.prog 84 [.p (.c (.v (.int .i64 z)))] (I z) := by
 have hz1 : z.natAbs < 18446744073709551616 := by unfold InI64 at hz; omega
 refine callM_of (np := 0) Tryz.func84 (by kernel_rfl) rfl rfl (Nat.le_of_ble_eq_true rfl) (fun m h => absurd rfl h) (fun m h => absurd rfl h) rfl ?_
 refine AWp_sr hP<|RK.alc guard_none (op_alloc hT rfl rfl)<|RK.D<|AWp_sr hP<|RK.M rfl<|RK.M rfl<|RK.V (op_uneg rfl rfl) ?_
 refine RK.V (op_max rfl rfl) ?_
 refine RK.V (op_conv hT rfl rfl rfl rfl (c := ((z.natAbs : Nat) : Int)) (u64_abs hz)) ?_
 refine RK.As rfl<|RK.D<|AWp_sr hP<|RK.M rfl<|RK.V (op_lss rfl rfl)<|RK.M rfl<|RK.V (op_conv hT rfl rfl rfl rfl (u32_lo _)) ?_
 refine RK.M rfl<|RK.V (op_shrN (j := 32) rfl rfl (by decide)) ?_
 refine RK.V (op_conv hT rfl rfl rfl rfl (c := ((z.natAbs / 2 ^ 32 : Nat) : Int)) (by simp only [IntKind.wrap_u32]; omega)) ?_
 refine RK.V (op_bslice hT rfl rfl rfl (es := [_, _]) rfl rfl rfl) ?_
 refine RK.V (Eff.call0 (int_of _ [z.natAbs % 4294967296, z.natAbs / 2 ^ 32] (okW_two (by omega)))) ?_
 refine RK.S hT rfl rfl rfl rfl rfl rfl rfl<|RK.D<|AWp_ret ?_
 refine ends_one rfl (.inr rfl) (res_cell_agg hT rfl rfl rfl rfl (cs := [_, _]) rfl rfl) ?_ O_ends
 exact Sub.I (by rw [wv_two]; exact of_sg)
theorem int_ofN (neg : Bool) (m : Nat) : Call0 Tryz.prog 127 [B neg, .p (.c (nt m))] (I (sg neg m)) := by
 have h := int_of neg (wl m) (wl_ok m)
 rwa [wv_wl] at h
theorem int_DivMod (x y : Int) (hx : L 44 x) (hy : L 44 y) (h0 : y ≠ 0) :
  Call0 Tryz.prog 59 [I x, I y] (.t [PI (x / y), PI (x % y), PE 0]) := by
 have hq : L 44 (sg (!(decide (x < 0) == decide (y < 0))) (x.natAbs / y.natAbs)) := L.of_le hx (by rw [sg_abs]; exact Nat.div_le_self _ _)
 have hr : L 44 (sg (decide (x < 0)) (x.natAbs % y.natAbs)) := L.of_le hx (by rw [sg_abs]; exact Nat.mod_le _ _)
 refine callM_of (np := 0) Tryz.func59 (by kernel_rfl) rfl rfl (Nat.le_of_ble_eq_true rfl) (fun m h => absurd rfl h) (fun m h => absurd rfl h) rfl ?_
 refine AWp_sr hP<|RK.alc guard_none (op_box rfl rfl)<|RK.alc guard_none (op_box rfl rfl)<|RK.alc guard_none (op_alloc hT rfl rfl)<|RK.alc guard_none (op_alloc hT rfl rfl)<|RK.As rfl<|RK.D<|AWp_seq<|AWp_sr hP<|RK.F hT rfl rfl rfl rfl rfl rfl<|RK.V (op_load_one hT rfl rfl rfl rfl (by first | rfl | exact vget (by omega))) ?_
 refine RK.V (op_len hT rfl rfl rfl rfl)<|RK.V (op_eql rfl rfl) ?_
 refine RK.D ?_
 refine AWp_cond rfl (fun hb1 => ?_) (fun hb1 => ?_)
 ·have hb1_ := bT hb1
  exact absurd (wl_len_zero.1 hb1_) h0
 ·have hb1_ := bF hb1
  refine AWp_skip<|AWp_sr hP<|RK.F hT rfl rfl rfl rfl rfl rfl<|RK.V (op_load_one hT rfl rfl rfl rfl (by first | rfl | exact vget (by omega))) ?_
  refine RK.F hT rfl rfl rfl rfl rfl rfl<|RK.V (op_load_one hT rfl rfl rfl rfl (by first | rfl | exact vget (by omega))) ?_
  refine RK.V (Eff.call0 (nat_div x.natAbs y.natAbs (sz (hx.mono (by decide))) (by omega))) ?_
  refine RK.V (op_move (rfl : _ = AV.t _))<|RK.V (op_extract rfl (v := .c _) rfl)<|RK.V (op_extract rfl (v := .c _) rfl)<|RK.As rfl<|RK.As rfl<|RK.D<|AWp_sr hP<|RK.F hT rfl rfl rfl rfl rfl rfl<|RK.V (op_load_one hT rfl rfl rfl rfl (by first | rfl | exact vget (by omega))) ?_
  refine RK.F hT rfl rfl rfl rfl rfl rfl<|RK.V (op_load_one hT rfl rfl rfl rfl (by first | rfl | exact vget (by omega))) ?_
  refine RK.V (op_bne hT rfl rfl rfl rfl) ?_
  refine RK.M rfl<|RK.V (Eff.call0 (int_ofN _ _)) ?_
  refine RK.F hT rfl rfl rfl rfl rfl rfl<|RK.V (op_load_one hT rfl rfl rfl rfl (by first | rfl | exact vget (by omega))) ?_
  refine RK.M rfl<|RK.V (Eff.call0 (int_ofN _ _)) ?_
  refine RK.alc guard_none (op_alloc hT rfl rfl)<|RK.alc guard_none (op_alloc hT rfl rfl)<|RK.S hT rfl rfl rfl rfl rfl rfl rfl<|RK.S hT rfl rfl rfl rfl rfl rfl rfl<|RK.D<|AWp_seq<|AWp_sr hP<|RK.F hT rfl rfl rfl rfl rfl rfl<|RK.V (op_load_one hT rfl rfl rfl rfl (by first | rfl | exact vget (by omega))) ?_
  refine RK.D ?_
  refine AWp_cond rfl (fun hb2 => ?_) (fun hb2 => ?_)
  ·have e1 := (divmod_neg h0 (of_decide_eq_true hb2)).1
   have e2 := (divmod_neg h0 (of_decide_eq_true hb2)).2
   refine AWp_sr hP<|RK.G2 hT rfl rfl rfl rfl rfl rfl<|RK.G2 hT rfl rfl rfl rfl rfl rfl<|RK.V (Eff.call0 (int_Abs _)) ?_
   refine RK.V (Eff.call0 (int_Add _ _ (hr.mono (by decide)) (hy.abs.mono (by decide)))) ?_
   refine RK.S hT rfl rfl rfl rfl rfl rfl rfl<|RK.D<|AWp_region hP<|RK.G2 hT rfl rfl rfl rfl rfl rfl<|RK.G2 hT rfl rfl rfl rfl rfl rfl<|RK.V (Eff.call0 (int_Sign _)) ?_
   refine RK.V (Eff.call0 (int_Of (sgn y) (by unfold sgn; split <;> (try split) <;> decide))) ?_
   refine RK.V (Eff.call0 (int_Sub _ _ (hq.mono (by decide)) ((L_sgn y).mono (by decide)))) ?_
   refine RK.S hT rfl rfl rfl rfl rfl rfl rfl<|RK.D<|AWp_sr hP<|RK.G2 hT rfl rfl rfl rfl rfl rfl<|RK.G2 hT rfl rfl rfl rfl rfl rfl<|RK.S hT rfl rfl rfl rfl rfl rfl rfl<|RK.S hT rfl rfl rfl rfl rfl rfl rfl<|RK.As rfl<|RK.D<|AWp_ret ?_
   refine ends_three rfl (.inr rfl) (res_cell_agg hT rfl rfl rfl rfl (cs := [_, _]) rfl rfl) (res_cell_agg hT rfl rfl rfl rfl (cs := [_, _]) rfl rfl) (res_tmp rfl) ?_ O_ends
   exact Sub.of_eq (by rw [e1, e2])
  ·have e1 := (divmod_pos h0 (of_decide_eq_false hb2)).1
   have e2 := (divmod_pos h0 (of_decide_eq_false hb2)).2
   refine AWp_skip<|AWp_sr hP<|RK.G2 hT rfl rfl rfl rfl rfl rfl<|RK.G2 hT rfl rfl rfl rfl rfl rfl<|RK.S hT rfl rfl rfl rfl rfl rfl rfl<|RK.S hT rfl rfl rfl rfl rfl rfl rfl<|RK.As rfl<|RK.D<|AWp_ret ?_
   refine ends_three rfl (.inr rfl) (res_cell_agg hT rfl rfl rfl rfl (cs := [_, _]) rfl rfl) (res_cell_agg hT rfl rfl rfl rfl (cs := [_, _]) rfl rfl) (res_tmp rfl) ?_ O_ends
   exact Sub.of_eq (by rw [e1, e2])
theorem int_mod (x y : Int) (hx : L 44 x) (hy : L 44 y) (h0 : y ≠ 0) :
  Call0 Tryz.prog 236 [I x, I y] (I (x % y)) := by
 refine callM_of (np := 0) Tryz.func236 (by kernel_rfl) rfl rfl (Nat.le_of_ble_eq_true rfl) (fun m h => absurd rfl h) (fun m h => absurd rfl h) rfl ?_
 refine AWp_sr hP<|RK.alc guard_none (op_box rfl rfl)<|RK.alc guard_none (op_box rfl rfl)<|RK.alc guard_none (op_alloc hT rfl rfl)<|RK.D<|AWp_sr hP<|RK.G2 hT rfl rfl rfl rfl rfl rfl<|RK.G2 hT rfl rfl rfl rfl rfl rfl<|RK.V (Eff.call0 (int_DivMod x y hx hy h0)) ?_
 refine RK.V (op_move (rfl : _ = AV.t _))<|RK.V (op_extract rfl (v := .a _) rfl)<|RK.V (op_extract rfl (v := .a _) rfl)<|RK.V (op_extract rfl (v := .c _) rfl)<|RK.alc guard_none (op_alloc hT rfl rfl)<|RK.alc guard_none (op_alloc hT rfl rfl)<|RK.S hT rfl rfl rfl rfl rfl rfl rfl<|RK.S hT rfl rfl rfl rfl rfl rfl rfl<|RK.As rfl<|RK.D<|AWp_sr hP<|RK.G2 hT rfl rfl rfl rfl rfl rfl<|RK.S hT rfl rfl rfl rfl rfl rfl rfl<|RK.D<|AWp_ret ?_
 refine ends_one rfl (.inr rfl) (res_cell_agg hT rfl rfl rfl rfl (cs := [_, _]) rfl rfl) ?_ O_ends
 exact .refl _
theorem int_Gcd (x y : Int) (hx : L 44 x) (hy : L 44 y) :
  Call0 Tryz.prog 209 [I x, I y] (I (Int.gcd x y)) := by
 refine callM_of (np := 0) Tryz.func209 (by kernel_rfl) rfl rfl (Nat.le_of_ble_eq_true rfl) (fun m h => absurd rfl h) (fun m h => absurd rfl h) rfl ?_
 refine AWp_sr hP<|RK.alc guard_none (op_box rfl rfl)<|RK.alc guard_none (op_box rfl rfl)<|RK.alc guard_none (op_alloc hT rfl rfl)<|RK.D<|AWp_seq<|AWp_block<|AWp_loop (ι := Int × Int) (fun p => stL [(2, .loc 2 0), (3, .loc 3 0), (4, .loc 4 0)] [(2, ⟨false, 1, 36, [zn (p.1), zm (p.1)]⟩), (3, ⟨false, 1, 36, [zn (p.2), zm (p.2)]⟩), (4, ⟨false, 1, 36, [zn (0), zm (0)]⟩)]) (fun p => L 44 p.1 ∧ L 44 p.2 ∧ Int.gcd p.1 p.2 = Int.gcd x y) (fun p => p.2.natAbs) (x, y) ⟨hx, hy, rfl⟩ (le_stL ⟨.refl _, .refl _, .refl _, trivial⟩ ⟨rfl, rfl, rfl, trivial⟩) ?_
 rintro ⟨a, b⟩ ⟨ha, hb, hg⟩
 refine AWp_seq<|AWp_sr hP<|RK.F hT rfl rfl rfl rfl rfl rfl<|RK.V (op_load_one hT rfl rfl rfl rfl (by first | rfl | exact vget (by omega))) ?_
 refine RK.V (op_len hT rfl rfl rfl rfl)<|RK.V (op_gtr rfl rfl) ?_
 refine RK.D ?_
 refine AWp_cond rfl (fun hb1 => ?_) (fun hb1 => ?_)
 ·have hb1_ := of_decide_eq_true hb1
  have h0 : b ≠ 0 := fun e => by
   have e2 : 0 < ((wl b.natAbs).length : Int) := hb1_
   rw [e] at e2; exact absurd e2 (by decide)
  refine AWp_skip<|AWp_block<|AWp_region hP<|RK.G2 hT rfl rfl rfl rfl rfl rfl<|RK.G2 hT rfl rfl rfl rfl rfl rfl<|RK.G2 hT rfl rfl rfl rfl rfl rfl<|RK.V (Eff.call0 (int_mod a b ha hb h0)) ?_
  refine RK.S hT rfl rfl rfl rfl rfl rfl rfl<|RK.S hT rfl rfl rfl rfl rfl rfl rfl<|RK.D ?_
  refine ⟨(b, a % b), ⟨hb, (ha.emod hb).mono (by decide), ?_⟩, ?_, le_stL ⟨.refl _, .refl _, .refl _, trivial⟩ ⟨rfl, rfl, rfl, trivial⟩⟩
  ·rw [← hg]; exact gcd_step a b
  ·have h1 := Int.emod_nonneg a h0
   have h2 := Int.emod_lt a h0
   show (a % b).natAbs < b.natAbs
   omega
 ·have hb1_ := of_decide_eq_false hb1
  refine AWp_exit<|AWp_sr hP<|RK.G2 hT rfl rfl rfl rfl rfl rfl<|RK.V (Eff.call0 (int_Abs _)) ?_
  refine RK.S hT rfl rfl rfl rfl rfl rfl rfl<|RK.D<|AWp_ret ?_
  refine ends_one rfl (.inr rfl) (res_cell_agg hT rfl rfl rfl rfl (cs := [_, _]) rfl rfl) ?_ O_ends
  have h0 : b = 0 := by
   have e2 : ¬ 0 < ((wl b.natAbs).length : Int) := hb1_
   have : ((wl b.natAbs).length : Int) = 0 := by omega
   exact wl_len_zero.1 this
  exact Sub.I (by rw [← hg, h0]; simp)
theorem int_power1 (x : Int) (hx : L 44 x) :
  Call0 Tryz.prog 239 [I x, Z 1] (I x) := by
 refine callM_of (np := 0) Tryz.func239 (by kernel_rfl) rfl rfl (Nat.le_of_ble_eq_true rfl) (fun m h => absurd rfl h) (fun m h => absurd rfl h) rfl ?_
 refine AWp_sr hP<|RK.alc guard_none (op_box rfl rfl)<|RK.alc guard_none (op_alloc hT rfl rfl)<|RK.D<|AWp_sr hP<|RK.V (Eff.call0 (int_Of 1 (by decide))) ?_
 refine RK.alc guard_none (op_alloc hT rfl rfl)<|RK.S hT rfl rfl rfl rfl rfl rfl rfl<|RK.D<|AWp_seq<|AWp_block<|AWp_unroll 2 ?_
 refine AWp_seq<|AWp_sr hP<|RK.M rfl<|RK.V (op_gtr rfl rfl) ?_
 refine RK.D<|AWp_cond_true rfl (by decide) ?_
 refine AWp_skip<|AWp_seq<|AWp_block<|AWp_seq<|AWp_sr hP<|RK.M rfl<|RK.V (op_rem rfl rfl (by first | decide | omega) (by first | exact Int.tmod_eq_emod_of_nonneg (by omega) | rfl)) ?_
 refine RK.V (op_eql rfl rfl) ?_
 refine RK.D<|AWp_cond_true rfl rfl ?_
 refine AWp_region hP<|RK.G2 hT rfl rfl rfl rfl rfl rfl<|RK.G2 hT rfl rfl rfl rfl rfl rfl<|RK.V (Eff.call0 (int_Mul 1 x (L.mono (n := 0) (by decide) (by decide)) (hx.mono (by decide)))) ?_
 refine RK.S hT rfl rfl rfl rfl rfl rfl rfl<|RK.D<|AWp_sr hP<|RK.M rfl<|RK.V (op_gtr rfl rfl) ?_
 refine RK.D<|AWp_cond_false rfl rfl ?_
 refine AWp_skip<|AWp_region hP<|RK.M rfl<|RK.V (op_quo rfl rfl (by first | decide | omega) (by first | exact IntWalk.i64_in _ (by omega) | rfl)) ?_
 refine RK.As rfl<|RK.D<|AWp_seq<|AWp_sr hP<|RK.M rfl<|RK.V (op_gtr rfl rfl) ?_
 refine RK.D<|AWp_cond_false rfl (by decide) ?_
 refine AWp_exit<|AWp_sr hP<|RK.G2 hT rfl rfl rfl rfl rfl rfl<|RK.S hT rfl rfl rfl rfl rfl rfl rfl<|RK.D<|AWp_ret ?_
 refine ends_one rfl (.inr rfl) (res_cell_agg hT rfl rfl rfl rfl (cs := [_, _]) rfl rfl) ?_ O_ends
 exact Sub.I (by rw [Int.one_mul])
end Go.Proofs.YtpaifigafaijpaaGreatDoor
end
section
namespace Go.Proofs.YtpaifigafaijpaaGreatDoor
open Go Go.AM
theorem int_Root2 (x : Int) (hx : L 40 x) :
  Call0 Tryz.prog 219 [I x, Z 2] (.t [PI (rootV x), PE (rootE x)]) := by
 have hbl := blen_L hx
 refine callM_of (np := 0) Tryz.func219 (by kernel_rfl) rfl rfl (Nat.le_of_ble_eq_true rfl) (fun m h => absurd rfl h) (fun m h => absurd rfl h) rfl ?_
 refine AWp_sr hP<|RK.alc guard_none (op_box rfl rfl)<|RK.alc guard_none (op_alloc hT rfl rfl)<|RK.As rfl<|RK.D<|AWp_sr hP<|RK.G2 hT rfl rfl rfl rfl rfl rfl<|RK.V (Eff.call0 (int_Bits x)) ?_
 refine RK.As rfl<|RK.D<|AWp_seq<|AWp_block<|AWp_sr hP<|RK.F hT rfl rfl rfl rfl rfl rfl<|RK.V (op_load_one hT rfl rfl rfl rfl (by first | rfl | exact vget (by omega))) ?_
 refine RK.M rfl ?_
 refine RK.split (t := 16) rfl (fun hg1 => ?_) (fun hg1 => ?_)
 ·have hx0 : x < 0 := of_decide_eq_true hg1
  refine RK.skip (guard_no rfl rfl hg1) ?_
  refine RK.skip (guard_no rfl rfl hg1) ?_
  refine RK.V (op_pick_t rfl hg1 (rfl : _ = AV.p (.c _))) ?_
  refine RK.As rfl<|RK.D<|AWp_cond_true rfl rfl ?_
  refine AWp_sr hP<|RK.V (op_build_st hT rfl rfl rfl (es := [_, _]) rfl) ?_
  refine RK.S hT rfl rfl rfl rfl rfl rfl rfl<|RK.As rfl<|RK.D<|AWp_ret ?_
  refine ends_two rfl (.inr rfl) (res_cell_agg hT rfl rfl rfl rfl (cs := [_, _]) rfl rfl) (res_tmp rfl) ?_ O_ends
  exact Sub.of_eq (by rw [(root_neg hx0).1, (root_neg hx0).2])
 ·have hx0 : ¬ x < 0 := of_decide_eq_false hg1
  refine RK.val (guard_yes rfl rfl hg1) (op_move (rfl : _ = AV.p (.c _))) ?_
  refine RK.val (guard_yes rfl rfl hg1) (op_lss rfl rfl) ?_
  refine RK.V (op_pick_f rfl hg1 (rfl : _ = AV.p (.c _))) ?_
  refine RK.As rfl<|RK.D<|AWp_cond_false rfl rfl ?_
  refine AWp_sr hP<|RK.M rfl<|RK.V (op_eql rfl rfl) ?_
  refine RK.M rfl ?_
  refine RK.split (t := 24) rfl (fun hg2 => ?_) (fun hg2 => ?_)
  ·have hg2_ := bT hg2
   refine RK.skip (guard_no rfl rfl hg2) ?_
   refine RK.skip (guard_no rfl rfl hg2) ?_
   refine RK.V (op_pick_t rfl hg2 (rfl : _ = AV.p (.c _))) ?_
   refine RK.As rfl<|RK.D<|AWp_cond_true rfl rfl ?_
   refine AWp_sr hP<|RK.G2 hT rfl rfl rfl rfl rfl rfl<|RK.S hT rfl rfl rfl rfl rfl rfl rfl<|RK.As rfl<|RK.D<|AWp_ret ?_
   refine ends_two rfl (.inr rfl) (res_cell_agg hT rfl rfl rfl rfl (cs := [_, _]) rfl rfl) (res_tmp rfl) ?_ O_ends
   have e := root_zero hg2_
   exact Sub.of_eq (by rw [e]; rfl)
  ·have hg2_ := bF hg2
   refine RK.val (guard_yes rfl rfl hg2) (op_move (rfl : _ = AV.p (.c _))) ?_
   refine RK.val (guard_yes rfl rfl hg2) (op_eql rfl rfl) ?_
   refine RK.V (op_pick_f rfl hg2 (rfl : _ = AV.p (.c _))) ?_
   refine RK.As rfl<|RK.D<|AWp_cond_false rfl rfl ?_
   refine AWp_sr hP<|RK.M rfl<|RK.M rfl<|RK.V (op_geq rfl rfl) ?_
   refine RK.As rfl<|RK.D ?_
   refine AWp_cond rfl (fun hb3 => ?_) (fun hb3 => ?_)
   ·have hb3_ := of_decide_eq_true hb3
    refine AWp_sr hP<|RK.V (Eff.call0 (int_Of _ (by decide))) ?_
    refine RK.S hT rfl rfl rfl rfl rfl rfl rfl<|RK.As rfl<|RK.D<|AWp_ret ?_
    refine ends_two rfl (.inr rfl) (res_cell_agg hT rfl rfl rfl rfl (cs := [_, _]) rfl rfl) (res_tmp rfl) ?_ O_ends
    exact Sub.of_eq (by rw [root_small hx0 hg2_ hb3_, rootE_nn hx0])
   ·have hb3_ := of_decide_eq_false hb3
    have hx1 : 0 < x := by
     rcases Int.lt_trichotomy x 0 with e | e | e
     ·exact absurd e hx0
     ·rw [e] at hg2_; exact absurd rfl hg2_
     ·exact e
    refine AWp_skip<|AWp_sr hP<|RK.V (op_bslice hT rfl rfl rfl (es := [_]) rfl rfl rfl) ?_
    refine RK.M rfl<|RK.M rfl<|RK.V (op_add rfl rfl (by first | exact IntWalk.i64_in _ (by omega) | rfl)) ?_
    refine RK.V (op_sub rfl rfl (by first | exact IntWalk.i64_in _ (by omega) | rfl)) ?_
    refine RK.M rfl<|RK.V (op_quo rfl rfl (by decide) (quo2 _ hbl)) ?_
    refine RK.V (Eff.call0 (nat_shl [1] ((blen x.natAbs + 1) / 2) okW_one (by decide) (by omega))) ?_
    refine RK.V (Eff.call0 (int_ofN _ _)) ?_
    refine RK.alc guard_none (op_alloc hT rfl rfl)<|RK.S hT rfl rfl rfl rfl rfl rfl rfl<|RK.D<|AWp_block<|AWp_loop (ι := Int) (fun s => stL [(1, Z 2), (2, .loc 2 0), (4, .loc 4 0), (7, .loc 7 0)] [(2, ⟨false, 1, 36, [zn (x), zm (x)]⟩), (4, ⟨false, 1, 36, [zn (0), zm (0)]⟩), (7, ⟨false, 1, 36, [zn (s), zm (s)]⟩)]) (fun s => 0 < s ∧ rootV x ≤ s ∧ s ≤ 2 * x) (fun s => s.toNat) (2 ^ ((blen x.natAbs + 1) / 2) : Nat) ?_ (le_stL ⟨.refl _, .refl _, .refl _, .refl _, trivial⟩ ⟨rfl, rfl, ?_, trivial⟩) ?_
    ·exact root_start hx1
    ·exact congrArg (fun z => some (⟨false, 1, 36, [zn z, zm z]⟩ : Blk)) (sg_shl _)
    intro s hs
    have ix : LB x 40 := ⟨hx⟩
    have is : LB s 41 := ⟨L.of_le (b := 2 * x) (lz (by rfl)) (by omega)⟩
    refine AWp_block<|AWp_sr hP<|RK.G2 hT rfl rfl rfl rfl rfl rfl<|RK.G2 hT rfl rfl rfl rfl rfl rfl<|RK.M rfl<|RK.V (op_sub rfl rfl (by first | exact IntWalk.i64_in _ (by omega) | rfl)) ?_
    refine RK.V (Eff.call0 (int_power1 s lz)) ?_
    refine RK.V (Eff.call0 (int_DivMod x s lz lz (by omega))) ?_
    refine RK.V (op_move (rfl : _ = AV.t _))<|RK.V (op_extract rfl (v := .a _) rfl)<|RK.V (op_extract rfl (v := .a _) rfl)<|RK.V (op_extract rfl (v := .c _) rfl)<|RK.alc guard_none (op_alloc hT rfl rfl)<|RK.alc guard_none (op_alloc hT rfl rfl)<|RK.S hT rfl rfl rfl rfl rfl rfl rfl<|RK.S hT rfl rfl rfl rfl rfl rfl rfl<|RK.As rfl<|RK.D<|AWp_sr hP<|RK.G2 hT rfl rfl rfl rfl rfl rfl<|RK.M rfl<|RK.V (op_sub rfl rfl (by first | exact IntWalk.i64_in _ (by omega) | rfl)) ?_
    refine RK.V (Eff.call0 (int_Of _ (by decide))) ?_
    refine RK.V (Eff.call0 (int_Mul _ _ lz lz)) ?_
    refine RK.G2 hT rfl rfl rfl rfl rfl rfl<|RK.V (Eff.call0 (int_Add _ _ lz lz)) ?_
    refine RK.M rfl<|RK.V (Eff.call0 (int_Of _ (by decide))) ?_
    refine RK.V (Eff.call0 (int_DivMod _ 2 lz lz (by decide))) ?_
    refine RK.V (op_move (rfl : _ = AV.t _))<|RK.V (op_extract rfl (v := .a _) rfl)<|RK.V (op_extract rfl (v := .a _) rfl)<|RK.V (op_extract rfl (v := .c _) rfl)<|RK.S hT rfl rfl rfl rfl rfl rfl rfl<|RK.D<|AWp_seq<|AWp_sr hP<|RK.G2 hT rfl rfl rfl rfl rfl rfl<|RK.G2 hT rfl rfl rfl rfl rfl rfl<|RK.V (Eff.call0 (int_Cmp _ _)) ?_
    refine RK.V (op_geq rfl rfl) ?_
    refine RK.D ?_
    refine AWp_cond rfl (fun hb4 => ?_) (fun hb4 => ?_)
    ·have hb4_ := of_decide_eq_true hb4
     have hge := cmpI_nonneg hb4_
     refine AWp_sr hP<|RK.G2 hT rfl rfl rfl rfl rfl rfl<|RK.S hT rfl rfl rfl rfl rfl rfl rfl<|RK.As rfl<|RK.D<|AWp_ret ?_
     refine ends_two rfl (.inr rfl) (res_cell_agg hT rfl rfl rfl rfl (cs := [_, _]) rfl rfl) (res_tmp rfl) ?_ O_ends
     have e := root_stop hx1 hs.1 hs.2.1 hge
     exact Sub.of_eq (by rw [e, rootE_nn hx0])
    ·have hb4_ := of_decide_eq_false hb4
     have hge := cmpI_negative hb4_
     refine AWp_skip<|AWp_region hP<|RK.G2 hT rfl rfl rfl rfl rfl rfl<|RK.S hT rfl rfl rfl rfl rfl rfl rfl<|RK.D ?_
     refine ⟨(s * 1 + x / s) / 2, ⟨(root_step hx1 hs.1).2, (root_step hx1 hs.1).1, Int.le_trans (Int.le_of_lt hge) hs.2.2⟩, ?_, le_stL ⟨.refl _, .refl _, .refl _, .refl _, trivial⟩ ⟨rfl, rfl, rfl, trivial⟩⟩
     have h3 := (root_step hx1 hs.1).2
     show ((s * 1 + x / s) / 2).toNat < s.toNat
     omega
theorem int_Sqrt (x : Int) (hx : L 40 x) :
  Call0 Tryz.prog 180 [I x] (.t [PI (rootV x), PI (if x < 0 then 0 else x - rootV x * rootV x), PE (rootE x)]) := by
 have ix : LB x 40 := ⟨hx⟩
 refine callM_of (np := 0) Tryz.func180 (by kernel_rfl) rfl rfl (Nat.le_of_ble_eq_true rfl) (fun m h => absurd rfl h) (fun m h => absurd rfl h) rfl ?_
 refine AWp_sr hP<|RK.alc guard_none (op_box rfl rfl)<|RK.alc guard_none (op_alloc hT rfl rfl)<|RK.alc guard_none (op_alloc hT rfl rfl)<|RK.As rfl<|RK.D<|AWp_sr hP<|RK.G2 hT rfl rfl rfl rfl rfl rfl<|RK.V (Eff.call0 (int_Root2 x hx)) ?_
 refine RK.V (op_move (rfl : _ = AV.t _))<|RK.V (op_extract rfl (v := .a _) rfl)<|RK.V (op_extract rfl (v := .c _) rfl)<|RK.alc guard_none (op_alloc hT rfl rfl)<|RK.S hT rfl rfl rfl rfl rfl rfl rfl<|RK.As rfl<|RK.D<|AWp_seq<|AWp_sr hP<|RK.M rfl<|RK.V (op_neq rfl rfl) ?_
 refine RK.D ?_
 refine AWp_cond rfl (fun hb1 => ?_) (fun hb1 => ?_)
 ·have hb1_ := bneT hb1
  refine AWp_sr hP<|RK.V (op_build_st hT rfl rfl rfl (es := [_, _]) rfl) ?_
  refine RK.V (op_build_st hT rfl rfl rfl (es := [_, _]) rfl) ?_
  refine RK.M rfl<|RK.S hT rfl rfl rfl rfl rfl rfl rfl<|RK.S hT rfl rfl rfl rfl rfl rfl rfl<|RK.As rfl<|RK.D<|AWp_ret ?_
  refine ends_three rfl (.inr rfl) (res_cell_agg hT rfl rfl rfl rfl (cs := [_, _]) rfl rfl) (res_cell_agg hT rfl rfl rfl rfl (cs := [_, _]) rfl rfl) (res_tmp rfl) ?_ O_ends
  have h0 : x < 0 := by
   rcases Int.lt_or_le x 0 with h | h
   ·exact h
   ·exact absurd (rootE_nn (by omega)) hb1_
  exact Sub.of_eq (by rw [(root_neg h0).1, if_pos h0])
 ·have hb1_ := bneF hb1
  refine AWp_skip<|AWp_sr hP<|RK.G2 hT rfl rfl rfl rfl rfl rfl<|RK.G2 hT rfl rfl rfl rfl rfl rfl<|RK.G2 hT rfl rfl rfl rfl rfl rfl<|RK.G2 hT rfl rfl rfl rfl rfl rfl<|RK.V (Eff.call0 (int_Mul _ _ lz lz)) ?_
  refine RK.V (Eff.call0 (int_Sub _ _ lz lz)) ?_
  refine RK.S hT rfl rfl rfl rfl rfl rfl rfl<|RK.S hT rfl rfl rfl rfl rfl rfl rfl<|RK.As rfl<|RK.D<|AWp_ret ?_
  refine ends_three rfl (.inr rfl) (res_cell_agg hT rfl rfl rfl rfl (cs := [_, _]) rfl rfl) (res_cell_agg hT rfl rfl rfl rfl (cs := [_, _]) rfl rfl) (res_tmp rfl) ?_ O_ends
  have h0 : ¬ x < 0 := fun h => by rw [(root_neg h).2] at hb1_; cases hb1_
  exact Sub.of_eq (by rw [if_neg h0, rootE_nn h0])
end Go.Proofs.YtpaifigafaijpaaGreatDoor
end
section
namespace Go.Proofs.YtpaifigafaijpaaGreatDoor
open Go Go.AM
theorem q_number (z : Int) (hz : InI64 z) :
  Call0 Tryz.prog 99 [.p (.c (.v (.int .i64 z)))] (I z) := by
 refine callM_of (np := 0) Tryz.func99 (by kernel_rfl) rfl rfl (Nat.le_of_ble_eq_true rfl) (fun m h => absurd rfl h) (fun m h => absurd rfl h) rfl ?_
 refine AWp_sr hP<|RK.alc guard_none (op_alloc hT rfl rfl)<|RK.D<|AWp_sr hP<|RK.M rfl<|RK.V (Eff.call0 (int_Of z hz)) ?_
 refine RK.S hT rfl rfl rfl rfl rfl rfl rfl<|RK.D<|AWp_ret ?_
 refine ends_one rfl (.inr rfl) (res_cell_agg hT rfl rfl rfl rfl (cs := [_, _]) rfl rfl) ?_ O_ends
 exact .refl _
theorem q_product2 (x y : Int) (hx : L 40 x) (hy : L 40 y) :
  Call0 Tryz.prog 101 [.p (.c (.sl 2 [zn x, zm x, zn y, zm y]))] (I (x * y)) := by
 have ix : LB x 40 := ⟨hx⟩
 have iy : LB y 40 := ⟨hy⟩
 refine callM_of (np := 0) Tryz.func101 (by kernel_rfl) rfl rfl (Nat.le_of_ble_eq_true rfl) (fun m h => absurd rfl h) (fun m h => absurd rfl h) rfl ?_
 refine AWp_sr hP<|RK.alc guard_none (op_alloc hT rfl rfl)<|RK.D<|AWp_sr hP<|RK.V (Eff.call0 (q_number _ (by first | assumption | decide))) ?_
 refine RK.alc guard_none (op_alloc hT rfl rfl)<|RK.S hT rfl rfl rfl rfl rfl rfl rfl<|RK.D<|AWp_seq<|AWp_sr hP<|RK.M rfl<|RK.V (op_len hT rfl rfl rfl rfl)<|RK.M rfl<|RK.D<|AWp_block<|AWp_unroll 3 ?_
 refine AWp_sr hP<|RK.V (op_lss rfl rfl)<|RK.D<|AWp_seq<|AWp_cond_true rfl (by decide) ?_
 refine AWp_skip<|AWp_seq<|AWp_block<|AWp_sr hP<|RK.V (by first | exact op_index_WN hT rfl rfl rfl rfl rfl rfl (by omega) | exact op_index_sl hT rfl rfl rfl rfl rfl rfl (by omega) (by first | exact W_ne (by omega) | simp)) ?_
 refine RK.V (op_load_ip_agg hT rfl rfl rfl (cs := [_, _]) rfl rfl) ?_
 refine RK.alc guard_none (op_alloc hT rfl rfl)<|RK.S hT rfl rfl rfl rfl rfl rfl rfl<|RK.D<|AWp_region hP<|RK.G2 hT rfl rfl rfl rfl rfl rfl<|RK.G2 hT rfl rfl rfl rfl rfl rfl<|RK.V (Eff.call0 (int_Mul _ _ lz lz)) ?_
 refine RK.S hT rfl rfl rfl rfl rfl rfl rfl<|RK.D<|AWp_region hP<|RK.V (op_add rfl rfl (by first | exact IntWalk.i64_in _ (by omega) | rfl)) ?_
 refine RK.M rfl<|RK.D<|AWp_sr hP<|RK.V (op_lss rfl rfl)<|RK.D<|AWp_seq<|AWp_cond_true rfl (by decide) ?_
 refine AWp_skip<|AWp_seq<|AWp_block<|AWp_sr hP<|RK.V (by first | exact op_index_WN hT rfl rfl rfl rfl rfl rfl (by omega) | exact op_index_sl hT rfl rfl rfl rfl rfl rfl (by omega) (by first | exact W_ne (by omega) | simp)) ?_
 refine RK.V (op_load_ip_agg hT rfl rfl rfl (cs := [_, _]) rfl rfl) ?_
 refine RK.alc guard_none (op_alloc hT rfl rfl)<|RK.S hT rfl rfl rfl rfl rfl rfl rfl<|RK.D<|AWp_region hP<|RK.G2 hT rfl rfl rfl rfl rfl rfl<|RK.G2 hT rfl rfl rfl rfl rfl rfl<|RK.V (Eff.call0 (int_Mul _ _ lz lz)) ?_
 refine RK.S hT rfl rfl rfl rfl rfl rfl rfl<|RK.D<|AWp_region hP<|RK.V (op_add rfl rfl (by first | exact IntWalk.i64_in _ (by omega) | rfl)) ?_
 refine RK.M rfl<|RK.D<|AWp_sr hP<|RK.V (op_lss rfl rfl)<|RK.D<|AWp_seq<|AWp_cond_false rfl (by decide) ?_
 refine AWp_exit<|AWp_sr hP<|RK.G2 hT rfl rfl rfl rfl rfl rfl<|RK.S hT rfl rfl rfl rfl rfl rfl rfl<|RK.D<|AWp_ret ?_
 refine ends_one rfl (.inr rfl) (res_cell_agg hT rfl rfl rfl rfl (cs := [_, _]) rfl rfl) ?_ O_ends
 exact Sub.I (by rw [Int.one_mul])
theorem q_product3 (x y z : Int) (hx : L 40 x) (hy : L 40 y) (hz : L 40 z) :
  Call0 Tryz.prog 101 [.p (.c (.sl 3 [zn x, zm x, zn y, zm y, zn z, zm z]))] (I (x * y * z)) := by
 have ix : LB x 40 := ⟨hx⟩
 have iy : LB y 40 := ⟨hy⟩
 have iz : LB z 40 := ⟨hz⟩
 refine callM_of (np := 0) Tryz.func101 (by kernel_rfl) rfl rfl (Nat.le_of_ble_eq_true rfl) (fun m h => absurd rfl h) (fun m h => absurd rfl h) rfl ?_
 refine AWp_sr hP<|RK.alc guard_none (op_alloc hT rfl rfl)<|RK.D<|AWp_sr hP<|RK.V (Eff.call0 (q_number _ (by first | assumption | decide))) ?_
 refine RK.alc guard_none (op_alloc hT rfl rfl)<|RK.S hT rfl rfl rfl rfl rfl rfl rfl<|RK.D<|AWp_seq<|AWp_sr hP<|RK.M rfl<|RK.V (op_len hT rfl rfl rfl rfl)<|RK.M rfl<|RK.D<|AWp_block<|AWp_unroll 4 ?_
 refine AWp_sr hP<|RK.V (op_lss rfl rfl)<|RK.D<|AWp_seq<|AWp_cond_true rfl (by decide) ?_
 refine AWp_skip<|AWp_seq<|AWp_block<|AWp_sr hP<|RK.V (by first | exact op_index_WN hT rfl rfl rfl rfl rfl rfl (by omega) | exact op_index_sl hT rfl rfl rfl rfl rfl rfl (by omega) (by first | exact W_ne (by omega) | simp)) ?_
 refine RK.V (op_load_ip_agg hT rfl rfl rfl (cs := [_, _]) rfl rfl) ?_
 refine RK.alc guard_none (op_alloc hT rfl rfl)<|RK.S hT rfl rfl rfl rfl rfl rfl rfl<|RK.D<|AWp_region hP<|RK.G2 hT rfl rfl rfl rfl rfl rfl<|RK.G2 hT rfl rfl rfl rfl rfl rfl<|RK.V (Eff.call0 (int_Mul _ _ lz lz)) ?_
 refine RK.S hT rfl rfl rfl rfl rfl rfl rfl<|RK.D<|AWp_region hP<|RK.V (op_add rfl rfl (by first | exact IntWalk.i64_in _ (by omega) | rfl)) ?_
 refine RK.M rfl<|RK.D<|AWp_sr hP<|RK.V (op_lss rfl rfl)<|RK.D<|AWp_seq<|AWp_cond_true rfl (by decide) ?_
 refine AWp_skip<|AWp_seq<|AWp_block<|AWp_sr hP<|RK.V (by first | exact op_index_WN hT rfl rfl rfl rfl rfl rfl (by omega) | exact op_index_sl hT rfl rfl rfl rfl rfl rfl (by omega) (by first | exact W_ne (by omega) | simp)) ?_
 refine RK.V (op_load_ip_agg hT rfl rfl rfl (cs := [_, _]) rfl rfl) ?_
 refine RK.alc guard_none (op_alloc hT rfl rfl)<|RK.S hT rfl rfl rfl rfl rfl rfl rfl<|RK.D<|AWp_region hP<|RK.G2 hT rfl rfl rfl rfl rfl rfl<|RK.G2 hT rfl rfl rfl rfl rfl rfl<|RK.V (Eff.call0 (int_Mul _ _ lz lz)) ?_
 refine RK.S hT rfl rfl rfl rfl rfl rfl rfl<|RK.D<|AWp_region hP<|RK.V (op_add rfl rfl (by first | exact IntWalk.i64_in _ (by omega) | rfl)) ?_
 refine RK.M rfl<|RK.D<|AWp_sr hP<|RK.V (op_lss rfl rfl)<|RK.D<|AWp_seq<|AWp_cond_true rfl (by decide) ?_
 refine AWp_skip<|AWp_seq<|AWp_block<|AWp_sr hP<|RK.V (by first | exact op_index_WN hT rfl rfl rfl rfl rfl rfl (by omega) | exact op_index_sl hT rfl rfl rfl rfl rfl rfl (by omega) (by first | exact W_ne (by omega) | simp)) ?_
 refine RK.V (op_load_ip_agg hT rfl rfl rfl (cs := [_, _]) rfl rfl) ?_
 refine RK.alc guard_none (op_alloc hT rfl rfl)<|RK.S hT rfl rfl rfl rfl rfl rfl rfl<|RK.D<|AWp_region hP<|RK.G2 hT rfl rfl rfl rfl rfl rfl<|RK.G2 hT rfl rfl rfl rfl rfl rfl<|RK.V (Eff.call0 (int_Mul _ _ lz lz)) ?_
 refine RK.S hT rfl rfl rfl rfl rfl rfl rfl<|RK.D<|AWp_region hP<|RK.V (op_add rfl rfl (by first | exact IntWalk.i64_in _ (by omega) | rfl)) ?_
 refine RK.M rfl<|RK.D<|AWp_sr hP<|RK.V (op_lss rfl rfl)<|RK.D<|AWp_seq<|AWp_cond_false rfl (by decide) ?_
 refine AWp_exit<|AWp_sr hP<|RK.G2 hT rfl rfl rfl rfl rfl rfl<|RK.S hT rfl rfl rfl rfl rfl rfl rfl<|RK.D<|AWp_ret ?_
 refine ends_one rfl (.inr rfl) (res_cell_agg hT rfl rfl rfl rfl (cs := [_, _]) rfl rfl) ?_ O_ends
 exact Sub.I (by rw [Int.one_mul])
theorem q_isSquare (x : Int) (hx : L 40 x) :
  Call0 Tryz.prog 132 [I x] (B (isSq x)) := by
 have ix : LB x 40 := ⟨hx⟩
 refine callM_of (np := 0) Tryz.func132 (by kernel_rfl) rfl rfl (Nat.le_of_ble_eq_true rfl) (fun m h => absurd rfl h) (fun m h => absurd rfl h) rfl ?_
 refine AWp_sr hP<|RK.alc guard_none (op_box rfl rfl)<|RK.As rfl<|RK.D<|AWp_sr hP<|RK.G2 hT rfl rfl rfl rfl rfl rfl<|RK.V (Eff.call0 (int_Sqrt _ lz)) ?_
 refine RK.V (op_move (rfl : _ = AV.t _))<|RK.V (op_extract rfl (v := .a _) rfl)<|RK.V (op_extract rfl (v := .a _) rfl)<|RK.V (op_extract rfl (v := .c _) rfl)<|RK.alc guard_none (op_alloc hT rfl rfl)<|RK.alc guard_none (op_alloc hT rfl rfl)<|RK.S hT rfl rfl rfl rfl rfl rfl rfl<|RK.S hT rfl rfl rfl rfl rfl rfl rfl<|RK.As rfl<|RK.D<|AWp_sr hP<|RK.M rfl<|RK.V (op_eql rfl rfl) ?_
 refine RK.M rfl ?_
 refine RK.split (t := 14) rfl (fun hg1 => ?_) (fun hg1 => ?_)
 ·have hg1_ := bT hg1
  refine RK.val (guard_yes rfl rfl hg1) (op_load_agg hT rfl rfl rfl rfl (cs := [_, _]) rfl rfl) ?_
  refine RK.val (guard_yes rfl rfl hg1) (Eff.call0 (int_Sign _)) ?_
  refine RK.val (guard_yes rfl rfl hg1) (op_eql rfl rfl) ?_
  refine RK.V (op_pick_t rfl hg1 (rfl : _ = AV.p (.c _))) ?_
  refine RK.As rfl<|RK.D<|AWp_ret ?_
  refine ends_one rfl (.inr rfl) (res_tmp rfl) ?_ O_ends
  exact Sub.bool (isSq_yes hg1)
 ·have hg1_ := bF hg1
  refine RK.skip (guard_no rfl rfl hg1) ?_
  refine RK.skip (guard_no rfl rfl hg1) ?_
  refine RK.skip (guard_no rfl rfl hg1) ?_
  refine RK.V (op_pick_f rfl hg1 (rfl : _ = AV.p (.c _))) ?_
  refine RK.As rfl<|RK.D<|AWp_ret ?_
  refine ends_one rfl (.inr rfl) (res_tmp rfl) ?_ O_ends
  exact Sub.bool (isSq_no hg1)
theorem q_Disc (a b c : Int) (ha : L 36 a) (hb : L 36 b) (hc : L 36 c) :
  Call0 Tryz.prog 56 [FA a b c] (I (dsc a b c)) := by
 have ia : LB a 36 := ⟨ha⟩
 have ib : LB b 36 := ⟨hb⟩
 have ic : LB c 36 := ⟨hc⟩
 refine callM_of (np := 0) Tryz.func56 (by kernel_rfl) rfl rfl (Nat.le_of_ble_eq_true rfl) (fun m h => absurd rfl h) (fun m h => absurd rfl h) rfl ?_
 refine AWp_sr hP<|RK.alc guard_none (op_box rfl rfl)<|RK.alc guard_none (op_alloc hT rfl rfl)<|RK.D<|AWp_sr hP<|RK.F hT rfl rfl rfl rfl rfl rfl<|RK.G2 hT rfl rfl rfl rfl rfl rfl<|RK.F hT rfl rfl rfl rfl rfl rfl<|RK.G2 hT rfl rfl rfl rfl rfl rfl<|RK.V (op_bslice hT rfl rfl rfl (es := [_, _, _, _]) rfl rfl rfl) ?_
 refine RK.V (Eff.call0 (q_product2 _ _ lz lz)) ?_
 refine RK.V (Eff.call0 (q_number _ (by first | assumption | decide))) ?_
 refine RK.F hT rfl rfl rfl rfl rfl rfl<|RK.G2 hT rfl rfl rfl rfl rfl rfl<|RK.F hT rfl rfl rfl rfl rfl rfl<|RK.G2 hT rfl rfl rfl rfl rfl rfl<|RK.V (op_bslice hT rfl rfl rfl (es := [_, _, _, _, _, _]) rfl rfl rfl) ?_
 refine RK.V (Eff.call0 (q_product3 _ _ _ lz lz lz)) ?_
 refine RK.V (Eff.call0 (int_Sub _ _ lz lz)) ?_
 refine RK.S hT rfl rfl rfl rfl rfl rfl rfl<|RK.D<|AWp_ret ?_
 refine ends_one rfl (.inr rfl) (res_cell_agg hT rfl rfl rfl rfl (cs := [_, _]) rfl rfl) ?_ O_ends
 exact .refl _
theorem q_Check (a b c : Int) (ha : L 34 a) (hb : L 34 b) (hc : L 34 c) :
  Call0 Tryz.prog 98 [FA a b c] (Z (ck a b c)) := by
 have ia : LB a 34 := ⟨ha⟩
 have ib : LB b 34 := ⟨hb⟩
 have ic : LB c 34 := ⟨hc⟩
 have cDs := q_Disc a b c lz lz lz
 have ids : LB (dsc a b c) 40 := ⟨lz⟩
 generalize hδ : dsc a b c = δ at cDs ids
 refine callM_of (np := 0) Tryz.func98 (by kernel_rfl) rfl rfl (Nat.le_of_ble_eq_true rfl) (fun m h => absurd rfl h) (fun m h => absurd rfl h) rfl ?_
 refine AWp_sr hP<|RK.alc guard_none (op_box rfl rfl)<|RK.As rfl<|RK.D<|AWp_seq<|AWp_sr hP<|RK.F hT rfl rfl rfl rfl rfl rfl<|RK.G2 hT rfl rfl rfl rfl rfl rfl<|RK.F hT rfl rfl rfl rfl rfl rfl<|RK.G2 hT rfl rfl rfl rfl rfl rfl<|RK.F hT rfl rfl rfl rfl rfl rfl<|RK.G2 hT rfl rfl rfl rfl rfl rfl<|RK.V (op_build_ar hT rfl rfl rfl (es := [_, _, _, _, _, _]) rfl) ?_
 refine RK.M rfl<|RK.D<|AWp_block<|AWp_unroll 4 ?_
 refine AWp_sr hP<|RK.V (op_lss rfl rfl)<|RK.D<|AWp_seq<|AWp_cond_true rfl (by decide) ?_
 refine AWp_skip<|AWp_seq<|AWp_block<|AWp_sr hP<|RK.V (op_aindex_agg hT rfl rfl rfl rfl rfl rfl (by decide) (es := [_, _]) rfl rfl) ?_
 refine RK.alc guard_none (op_alloc hT rfl rfl)<|RK.S hT rfl rfl rfl rfl rfl rfl rfl<|RK.D<|AWp_sr hP<|RK.G2 hT rfl rfl rfl rfl rfl rfl<|RK.V (Eff.call0 (int_Valid _ lz)) ?_
 refine RK.V (op_unot rfl) ?_
 refine RK.D<|AWp_cond_false rfl rfl ?_
 refine AWp_skip<|AWp_region hP<|RK.V (op_add rfl rfl (by first | exact IntWalk.i64_in _ (by omega) | rfl)) ?_
 refine RK.M rfl<|RK.D<|AWp_sr hP<|RK.V (op_lss rfl rfl)<|RK.D<|AWp_seq<|AWp_cond_true rfl (by decide) ?_
 refine AWp_skip<|AWp_seq<|AWp_block<|AWp_sr hP<|RK.V (op_aindex_agg hT rfl rfl rfl rfl rfl rfl (by decide) (es := [_, _]) rfl rfl) ?_
 refine RK.alc guard_none (op_alloc hT rfl rfl)<|RK.S hT rfl rfl rfl rfl rfl rfl rfl<|RK.D<|AWp_sr hP<|RK.G2 hT rfl rfl rfl rfl rfl rfl<|RK.V (Eff.call0 (int_Valid _ lz)) ?_
 refine RK.V (op_unot rfl) ?_
 refine RK.D<|AWp_cond_false rfl rfl ?_
 refine AWp_skip<|AWp_region hP<|RK.V (op_add rfl rfl (by first | exact IntWalk.i64_in _ (by omega) | rfl)) ?_
 refine RK.M rfl<|RK.D<|AWp_sr hP<|RK.V (op_lss rfl rfl)<|RK.D<|AWp_seq<|AWp_cond_true rfl (by decide) ?_
 refine AWp_skip<|AWp_seq<|AWp_block<|AWp_sr hP<|RK.V (op_aindex_agg hT rfl rfl rfl rfl rfl rfl (by decide) (es := [_, _]) rfl rfl) ?_
 refine RK.alc guard_none (op_alloc hT rfl rfl)<|RK.S hT rfl rfl rfl rfl rfl rfl rfl<|RK.D<|AWp_sr hP<|RK.G2 hT rfl rfl rfl rfl rfl rfl<|RK.V (Eff.call0 (int_Valid _ lz)) ?_
 refine RK.V (op_unot rfl) ?_
 refine RK.D<|AWp_cond_false rfl rfl ?_
 refine AWp_skip<|AWp_region hP<|RK.V (op_add rfl rfl (by first | exact IntWalk.i64_in _ (by omega) | rfl)) ?_
 refine RK.M rfl<|RK.D<|AWp_sr hP<|RK.V (op_lss rfl rfl)<|RK.D<|AWp_seq<|AWp_cond_false rfl (by decide) ?_
 refine AWp_exit<|AWp_le (t := stL [(1, .loc 1 0)] [(1, ⟨false, 1, 53, FL a b c⟩)]) (le_stL ⟨.refl _, trivial⟩ ⟨rfl, trivial⟩) ?_
 refine AWp_sr hP<|RK.G6 hT rfl rfl rfl rfl rfl rfl<|RK.V (Eff.call0 cDs) ?_
 refine RK.alc guard_none (op_alloc hT rfl rfl)<|RK.S hT rfl rfl rfl rfl rfl rfl rfl<|RK.D<|AWp_seq<|AWp_block<|AWp_sr hP<|RK.G2 hT rfl rfl rfl rfl rfl rfl<|RK.V (Eff.call0 (q_isSquare _ lz)) ?_
 refine RK.As rfl<|RK.D ?_
 refine AWp_cond rfl (fun hb1 => ?_) (fun hb1 => ?_)
 ·refine AWp_sr hP<|RK.As rfl<|RK.D<|AWp_ret ?_
  refine ends_one rfl (.inr rfl) (res_tmp rfl) ?_ O_ends
  exact Sub.int (ck_sq (by rw [hδ]; exact hb1))
 ·refine AWp_sr hP<|RK.G2 hT rfl rfl rfl rfl rfl rfl<|RK.V (Eff.call0 (int_Sign _)) ?_
  refine RK.V (op_lss rfl rfl)<|RK.M rfl ?_
  refine RK.split (t := 29) rfl (fun hg2 => ?_) (fun hg2 => ?_)
  ·have hg2_ := of_decide_eq_true hg2
   refine RK.val (guard_yes rfl rfl hg2) (op_field_loc hT rfl rfl rfl rfl rfl rfl) ?_
   refine RK.val (guard_yes rfl rfl hg2) (op_load_agg hT rfl rfl rfl rfl (cs := [_, _]) rfl rfl) ?_
   refine RK.val (guard_yes rfl rfl hg2) (Eff.call0 (int_Sign _)) ?_
   refine RK.val (guard_yes rfl rfl hg2) (op_leq rfl rfl) ?_
   refine RK.V (op_pick_t rfl hg2 (rfl : _ = AV.p (.c _))) ?_
   refine RK.As rfl<|RK.D ?_
   refine AWp_cond rfl (fun hb3 => ?_) (fun hb3 => ?_)
   ·have hb3_ := of_decide_eq_true hb3
    refine AWp_sr hP<|RK.As rfl<|RK.D<|AWp_ret ?_
    refine ends_one rfl (.inr rfl) (res_tmp rfl) ?_ O_ends
    exact Sub.int (ck_neg (by rw [hδ]; exact hb1) (by rw [hδ]; exact hg2_) hb3_)
   ·have hb3_ := of_decide_eq_false hb3
    refine AWp_skip<|AWp_sr hP<|RK.As rfl<|RK.D<|AWp_ret ?_
    refine ends_one rfl (.inr rfl) (res_tmp rfl) ?_ O_ends
    exact Sub.int (ck_ok (by rw [hδ]; exact hb1) (by rw [hδ]; exact hg2_) hb3_)
  ·have hg2_ := of_decide_eq_false hg2
   refine RK.skip (guard_no rfl rfl hg2) ?_
   refine RK.skip (guard_no rfl rfl hg2) ?_
   refine RK.skip (guard_no rfl rfl hg2) ?_
   refine RK.skip (guard_no rfl rfl hg2) ?_
   refine RK.V (op_pick_f rfl hg2 (rfl : _ = AV.p (.c _))) ?_
   refine RK.As rfl<|RK.D<|AWp_cond_false rfl rfl ?_
   refine AWp_skip<|AWp_sr hP<|RK.As rfl<|RK.D<|AWp_ret ?_
   refine ends_one rfl (.inr rfl) (res_tmp rfl) ?_ O_ends
   exact Sub.int (ck_pos (by rw [hδ]; exact hb1) (by rw [hδ]; exact hg2_))
theorem q_Primitive (a b c : Int) (ha : L 44 a) (hb : L 44 b) (hc : L 44 c) :
  Call0 Tryz.prog 157 [FA a b c] (B (prim a b c)) := by
 have ia : LB a 44 := ⟨ha⟩
 have ib : LB b 44 := ⟨hb⟩
 have ic : LB c 44 := ⟨hc⟩
 have ig := LB_gcd hb hc
 refine callM_of (np := 0) Tryz.func157 (by kernel_rfl) rfl rfl (Nat.le_of_ble_eq_true rfl) (fun m h => absurd rfl h) (fun m h => absurd rfl h) rfl ?_
 refine AWp_sr hP<|RK.alc guard_none (op_box rfl rfl)<|RK.As rfl<|RK.D<|AWp_sr hP<|RK.F hT rfl rfl rfl rfl rfl rfl<|RK.G2 hT rfl rfl rfl rfl rfl rfl<|RK.F hT rfl rfl rfl rfl rfl rfl<|RK.G2 hT rfl rfl rfl rfl rfl rfl<|RK.F hT rfl rfl rfl rfl rfl rfl<|RK.G2 hT rfl rfl rfl rfl rfl rfl<|RK.V (Eff.call0 (int_Gcd _ _ lz lz)) ?_
 refine RK.V (Eff.call0 (int_Gcd _ _ lz lz)) ?_
 refine RK.V (Eff.call0 (q_number _ (by first | assumption | decide))) ?_
 refine RK.V (Eff.call0 (int_Cmp _ _)) ?_
 refine RK.V (op_eql rfl rfl) ?_
 refine RK.As rfl<|RK.D<|AWp_ret ?_
 refine ends_one rfl (.inr rfl) (res_tmp rfl) ?_ O_ends
 exact Sub.bool (prim_cmp _ _ _)
theorem q_Value (a b c x y : Int) (ha : L 36 a) (hb : L 36 b) (hc : L 36 c) (hx : L 36 x) (hy : L 36 y) :
  Call0 Tryz.prog 36 [FA a b c, I x, I y] (I (vl a b c x y)) := by
 have ia : LB a 36 := ⟨ha⟩
 have ib : LB b 36 := ⟨hb⟩
 have ic : LB c 36 := ⟨hc⟩
 have ix : LB x 36 := ⟨hx⟩
 have iy : LB y 36 := ⟨hy⟩
 refine callM_of (np := 0) Tryz.func36 (by kernel_rfl) rfl rfl (Nat.le_of_ble_eq_true rfl) (fun m h => absurd rfl h) (fun m h => absurd rfl h) rfl ?_
 refine AWp_sr hP<|RK.alc guard_none (op_box rfl rfl)<|RK.alc guard_none (op_box rfl rfl)<|RK.alc guard_none (op_box rfl rfl)<|RK.alc guard_none (op_alloc hT rfl rfl)<|RK.D<|AWp_sr hP<|RK.F hT rfl rfl rfl rfl rfl rfl<|RK.G2 hT rfl rfl rfl rfl rfl rfl<|RK.G2 hT rfl rfl rfl rfl rfl rfl<|RK.G2 hT rfl rfl rfl rfl rfl rfl<|RK.V (op_bslice hT rfl rfl rfl (es := [_, _, _, _, _, _]) rfl rfl rfl) ?_
 refine RK.V (Eff.call0 (q_product3 _ _ _ lz lz lz)) ?_
 refine RK.F hT rfl rfl rfl rfl rfl rfl<|RK.G2 hT rfl rfl rfl rfl rfl rfl<|RK.G2 hT rfl rfl rfl rfl rfl rfl<|RK.G2 hT rfl rfl rfl rfl rfl rfl<|RK.V (op_bslice hT rfl rfl rfl (es := [_, _, _, _, _, _]) rfl rfl rfl) ?_
 refine RK.V (Eff.call0 (q_product3 _ _ _ lz lz lz)) ?_
 refine RK.V (Eff.call0 (int_Add _ _ lz lz)) ?_
 refine RK.F hT rfl rfl rfl rfl rfl rfl<|RK.G2 hT rfl rfl rfl rfl rfl rfl<|RK.G2 hT rfl rfl rfl rfl rfl rfl<|RK.G2 hT rfl rfl rfl rfl rfl rfl<|RK.V (op_bslice hT rfl rfl rfl (es := [_, _, _, _, _, _]) rfl rfl rfl) ?_
 refine RK.V (Eff.call0 (q_product3 _ _ _ lz lz lz)) ?_
 refine RK.V (Eff.call0 (int_Add _ _ lz lz)) ?_
 refine RK.S hT rfl rfl rfl rfl rfl rfl rfl<|RK.D<|AWp_ret ?_
 refine ends_one rfl (.inr rfl) (res_cell_agg hT rfl rfl rfl rfl (cs := [_, _]) rfl rfl) ?_ O_ends
 exact .refl _
theorem q_Apply (a b c p q r s : Int) (ha : L 34 a) (hb : L 34 b) (hc : L 34 c) (hp : L 34 p) (hq : L 34 q) (hr : L 34 r) (hs : L 34 s) :
  Call0 Tryz.prog 62 [FA a b c, MA p q r s] (FA (vl a b c p r) (apB a b c p q r s) (vl a b c q s)) := by
 have ia : LB a 34 := ⟨ha⟩
 have ib : LB b 34 := ⟨hb⟩
 have ic : LB c 34 := ⟨hc⟩
 have ip : LB p 34 := ⟨hp⟩
 have iq : LB q 34 := ⟨hq⟩
 have ir : LB r 34 := ⟨hr⟩
 have is : LB s 34 := ⟨hs⟩
 refine callM_of (np := 0) Tryz.func62 (by kernel_rfl) rfl rfl (Nat.le_of_ble_eq_true rfl) (fun m h => absurd rfl h) (fun m h => absurd rfl h) rfl ?_
 refine AWp_sr hP<|RK.alc guard_none (op_box rfl rfl)<|RK.alc guard_none (op_box rfl rfl)<|RK.alc guard_none (op_alloc hT rfl rfl)<|RK.D<|AWp_sr hP<|RK.F hT rfl rfl rfl rfl rfl rfl<|RK.G2 hT rfl rfl rfl rfl rfl rfl<|RK.F hT rfl rfl rfl rfl rfl rfl<|RK.G2 hT rfl rfl rfl rfl rfl rfl<|RK.V (op_bslice hT rfl rfl rfl (es := [_, _, _, _]) rfl rfl rfl) ?_
 refine RK.V (Eff.call0 (q_product2 _ _ lz lz)) ?_
 refine RK.F hT rfl rfl rfl rfl rfl rfl<|RK.G2 hT rfl rfl rfl rfl rfl rfl<|RK.F hT rfl rfl rfl rfl rfl rfl<|RK.G2 hT rfl rfl rfl rfl rfl rfl<|RK.V (op_bslice hT rfl rfl rfl (es := [_, _, _, _]) rfl rfl rfl) ?_
 refine RK.V (Eff.call0 (q_product2 _ _ lz lz)) ?_
 refine RK.V (Eff.call0 (int_Add _ _ lz lz)) ?_
 refine RK.alc guard_none (op_alloc hT rfl rfl)<|RK.S hT rfl rfl rfl rfl rfl rfl rfl<|RK.D<|AWp_sr hP<|RK.F hT rfl rfl rfl rfl rfl rfl<|RK.G2 hT rfl rfl rfl rfl rfl rfl<|RK.F hT rfl rfl rfl rfl rfl rfl<|RK.G2 hT rfl rfl rfl rfl rfl rfl<|RK.F hT rfl rfl rfl rfl rfl rfl<|RK.G2 hT rfl rfl rfl rfl rfl rfl<|RK.V (op_bslice hT rfl rfl rfl (es := [_, _, _, _, _, _]) rfl rfl rfl) ?_
 refine RK.V (Eff.call0 (q_product3 _ _ _ lz lz lz)) ?_
 refine RK.F hT rfl rfl rfl rfl rfl rfl<|RK.G2 hT rfl rfl rfl rfl rfl rfl<|RK.F hT rfl rfl rfl rfl rfl rfl<|RK.G2 hT rfl rfl rfl rfl rfl rfl<|RK.F hT rfl rfl rfl rfl rfl rfl<|RK.G2 hT rfl rfl rfl rfl rfl rfl<|RK.V (op_bslice hT rfl rfl rfl (es := [_, _, _, _, _, _]) rfl rfl rfl) ?_
 refine RK.V (Eff.call0 (q_product3 _ _ _ lz lz lz)) ?_
 refine RK.V (Eff.call0 (int_Add _ _ lz lz)) ?_
 refine RK.alc guard_none (op_alloc hT rfl rfl)<|RK.S hT rfl rfl rfl rfl rfl rfl rfl<|RK.D<|AWp_sr hP<|RK.G6 hT rfl rfl rfl rfl rfl rfl<|RK.F hT rfl rfl rfl rfl rfl rfl<|RK.G2 hT rfl rfl rfl rfl rfl rfl<|RK.F hT rfl rfl rfl rfl rfl rfl<|RK.G2 hT rfl rfl rfl rfl rfl rfl<|RK.V (Eff.call0 (q_Value _ _ _ _ _ lz lz lz lz lz)) ?_
 refine RK.V (Eff.call0 (q_number _ (by first | assumption | decide))) ?_
 refine RK.G2 hT rfl rfl rfl rfl rfl rfl<|RK.V (op_bslice hT rfl rfl rfl (es := [_, _, _, _]) rfl rfl rfl) ?_
 refine RK.V (Eff.call0 (q_product2 _ _ lz lz)) ?_
 refine RK.F hT rfl rfl rfl rfl rfl rfl<|RK.G2 hT rfl rfl rfl rfl rfl rfl<|RK.G2 hT rfl rfl rfl rfl rfl rfl<|RK.V (op_bslice hT rfl rfl rfl (es := [_, _, _, _]) rfl rfl rfl) ?_
 refine RK.V (Eff.call0 (q_product2 _ _ lz lz)) ?_
 refine RK.V (Eff.call0 (int_Add _ _ lz lz)) ?_
 refine RK.G6 hT rfl rfl rfl rfl rfl rfl<|RK.F hT rfl rfl rfl rfl rfl rfl<|RK.G2 hT rfl rfl rfl rfl rfl rfl<|RK.F hT rfl rfl rfl rfl rfl rfl<|RK.G2 hT rfl rfl rfl rfl rfl rfl<|RK.V (Eff.call0 (q_Value _ _ _ _ _ lz lz lz lz lz)) ?_
 refine RK.V (op_build_st hT rfl rfl rfl (es := [_, _, _, _, _, _]) rfl) ?_
 refine RK.S hT rfl rfl rfl rfl rfl rfl rfl<|RK.D<|AWp_ret ?_
 refine ends_one rfl (.inr rfl) (res_cell_agg hT rfl rfl rfl rfl (cs := [_, _, _, _, _, _]) rfl rfl) ?_ O_ends
 exact .refl _
theorem q_rows (p q r s : Int) :
  Call0 Tryz.prog 211 [MA p q r s] (MA p q r s) := by
 refine callM_of (np := 0) Tryz.func211 (by kernel_rfl) rfl rfl (Nat.le_of_ble_eq_true rfl) (fun m h => absurd rfl h) (fun m h => absurd rfl h) rfl ?_
 refine AWp_sr hP<|RK.alc guard_none (op_box rfl rfl)<|RK.alc guard_none (op_alloc hT rfl rfl)<|RK.D<|AWp_sr hP<|RK.F hT rfl rfl rfl rfl rfl rfl<|RK.G2 hT rfl rfl rfl rfl rfl rfl<|RK.F hT rfl rfl rfl rfl rfl rfl<|RK.G2 hT rfl rfl rfl rfl rfl rfl<|RK.V (op_build_ar hT rfl rfl rfl (es := [_, _, _, _]) rfl) ?_
 refine RK.F hT rfl rfl rfl rfl rfl rfl<|RK.G2 hT rfl rfl rfl rfl rfl rfl<|RK.F hT rfl rfl rfl rfl rfl rfl<|RK.G2 hT rfl rfl rfl rfl rfl rfl<|RK.V (op_build_ar hT rfl rfl rfl (es := [_, _, _, _]) rfl) ?_
 refine RK.V (op_build_ar hT rfl rfl rfl (es := [_, _, _, _, _, _, _, _]) rfl) ?_
 refine RK.S hT rfl rfl rfl rfl rfl rfl rfl<|RK.D<|AWp_ret ?_
 refine ends_one rfl (.inr rfl) (res_cell_agg hT rfl rfl rfl rfl (cs := [_, _, _, _, _, _, _, _]) rfl rfl) ?_ O_ends
 exact .refl _
theorem q_Times (p q r s t u v w : Int) (hp : L 38 p) (hq : L 38 q) (hr : L 38 r) (hs : L 38 s) (ht : L 38 t) (hu : L 38 u) (hv : L 38 v) (hw : L 38 w) :
  Call0 Tryz.prog 162 [MA p q r s, MA t u v w] (MA (p * t + q * v) (p * u + q * w) (r * t + s * v) (r * u + s * w)) := by
 have ip : LB p 38 := ⟨hp⟩
 have iq : LB q 38 := ⟨hq⟩
 have ir : LB r 38 := ⟨hr⟩
 have is : LB s 38 := ⟨hs⟩
 have it : LB t 38 := ⟨ht⟩
 have iu : LB u 38 := ⟨hu⟩
 have iv : LB v 38 := ⟨hv⟩
 have iw : LB w 38 := ⟨hw⟩
 refine callM_of (np := 0) Tryz.func162 (by kernel_rfl) rfl rfl (Nat.le_of_ble_eq_true rfl) (fun m h => absurd rfl h) (fun m h => absurd rfl h) rfl ?_
 refine AWp_sr hP<|RK.alc guard_none (op_box rfl rfl)<|RK.alc guard_none (op_box rfl rfl)<|RK.alc guard_none (op_alloc hT rfl rfl)<|RK.D<|AWp_sr hP<|RK.V (op_load_agg hT rfl rfl rfl rfl (cs := [_, _, _, _, _, _, _, _]) rfl rfl) ?_
 refine RK.V (Eff.call0 (q_rows _ _ _ _)) ?_
 refine RK.V (op_load_agg hT rfl rfl rfl rfl (cs := [_, _, _, _, _, _, _, _]) rfl rfl) ?_
 refine RK.V (Eff.call0 (q_rows _ _ _ _)) ?_
 refine RK.alc guard_none (op_alloc hT rfl rfl)<|RK.alc guard_none (op_alloc hT rfl rfl)<|RK.S hT rfl rfl rfl rfl rfl rfl rfl<|RK.S hT rfl rfl rfl rfl rfl rfl rfl<|RK.D<|AWp_sr hP<|RK.alc guard_none (op_alloc hT rfl rfl)<|RK.D<|AWp_seq<|AWp_sr hP<|RK.M rfl<|RK.D<|AWp_block<|AWp_unroll 3 ?_
 refine AWp_sr hP<|RK.V (op_lss rfl rfl)<|RK.D<|AWp_seq<|AWp_cond_true rfl (by decide) ?_
 refine AWp_skip<|AWp_seq<|AWp_block<|AWp_sr hP<|RK.M rfl<|RK.As rfl<|RK.D<|AWp_sr hP<|RK.M rfl<|RK.D<|AWp_block<|AWp_unroll 3 ?_
 refine AWp_sr hP<|RK.V (op_lss rfl rfl)<|RK.D<|AWp_seq<|AWp_cond_true rfl (by decide) ?_
 refine AWp_skip<|AWp_seq<|AWp_block<|AWp_sr hP<|RK.M rfl<|RK.As rfl<|RK.D<|AWp_region hP<|RK.M rfl<|RK.M rfl<|RK.M rfl<|RK.V (op_index_arr hT rfl rfl rfl rfl rfl (by first | decide | omega)) ?_
 refine RK.V (op_index_arr hT rfl rfl rfl rfl rfl (by first | decide | omega)) ?_
 refine RK.G2 hT rfl rfl rfl rfl rfl rfl<|RK.M rfl<|RK.V (op_index_arr hT rfl rfl rfl rfl rfl (by first | decide | omega)) ?_
 refine RK.V (op_index_arr hT rfl rfl rfl rfl rfl (by first | decide | omega)) ?_
 refine RK.G2 hT rfl rfl rfl rfl rfl rfl<|RK.V (op_bslice hT rfl rfl rfl (es := [_, _, _, _]) rfl rfl rfl) ?_
 refine RK.V (Eff.call0 (q_product2 _ _ lz lz)) ?_
 refine RK.M rfl<|RK.V (op_index_arr hT rfl rfl rfl rfl rfl (by first | decide | omega)) ?_
 refine RK.V (op_index_arr hT rfl rfl rfl rfl rfl (by first | decide | omega)) ?_
 refine RK.G2 hT rfl rfl rfl rfl rfl rfl<|RK.M rfl<|RK.V (op_index_arr hT rfl rfl rfl rfl rfl (by first | decide | omega)) ?_
 refine RK.V (op_index_arr hT rfl rfl rfl rfl rfl (by first | decide | omega)) ?_
 refine RK.G2 hT rfl rfl rfl rfl rfl rfl<|RK.V (op_bslice hT rfl rfl rfl (es := [_, _, _, _]) rfl rfl rfl) ?_
 refine RK.V (Eff.call0 (q_product2 _ _ lz lz)) ?_
 refine RK.V (Eff.call0 (int_Add _ _ lz lz)) ?_
 refine RK.V (op_index_arr hT rfl rfl rfl rfl rfl (by first | decide | omega)) ?_
 refine RK.V (op_index_arr hT rfl rfl rfl rfl rfl (by first | decide | omega)) ?_
 refine RK.S hT rfl rfl rfl rfl rfl rfl rfl<|RK.D<|AWp_region hP<|RK.V (op_add rfl rfl (by first | exact IntWalk.i64_in _ (by omega) | rfl)) ?_
 refine RK.M rfl<|RK.D<|AWp_sr hP<|RK.V (op_lss rfl rfl)<|RK.D<|AWp_seq<|AWp_cond_true rfl (by decide) ?_
 refine AWp_skip<|AWp_seq<|AWp_block<|AWp_sr hP<|RK.M rfl<|RK.As rfl<|RK.D<|AWp_region hP<|RK.M rfl<|RK.M rfl<|RK.M rfl<|RK.V (op_index_arr hT rfl rfl rfl rfl rfl (by first | decide | omega)) ?_
 refine RK.V (op_index_arr hT rfl rfl rfl rfl rfl (by first | decide | omega)) ?_
 refine RK.G2 hT rfl rfl rfl rfl rfl rfl<|RK.M rfl<|RK.V (op_index_arr hT rfl rfl rfl rfl rfl (by first | decide | omega)) ?_
 refine RK.V (op_index_arr hT rfl rfl rfl rfl rfl (by first | decide | omega)) ?_
 refine RK.G2 hT rfl rfl rfl rfl rfl rfl<|RK.V (op_bslice hT rfl rfl rfl (es := [_, _, _, _]) rfl rfl rfl) ?_
 refine RK.V (Eff.call0 (q_product2 _ _ lz lz)) ?_
 refine RK.M rfl<|RK.V (op_index_arr hT rfl rfl rfl rfl rfl (by first | decide | omega)) ?_
 refine RK.V (op_index_arr hT rfl rfl rfl rfl rfl (by first | decide | omega)) ?_
 refine RK.G2 hT rfl rfl rfl rfl rfl rfl<|RK.M rfl<|RK.V (op_index_arr hT rfl rfl rfl rfl rfl (by first | decide | omega)) ?_
 refine RK.V (op_index_arr hT rfl rfl rfl rfl rfl (by first | decide | omega)) ?_
 refine RK.G2 hT rfl rfl rfl rfl rfl rfl<|RK.V (op_bslice hT rfl rfl rfl (es := [_, _, _, _]) rfl rfl rfl) ?_
 refine RK.V (Eff.call0 (q_product2 _ _ lz lz)) ?_
 refine RK.V (Eff.call0 (int_Add _ _ lz lz)) ?_
 refine RK.V (op_index_arr hT rfl rfl rfl rfl rfl (by first | decide | omega)) ?_
 refine RK.V (op_index_arr hT rfl rfl rfl rfl rfl (by first | decide | omega)) ?_
 refine RK.S hT rfl rfl rfl rfl rfl rfl rfl<|RK.D<|AWp_region hP<|RK.V (op_add rfl rfl (by first | exact IntWalk.i64_in _ (by omega) | rfl)) ?_
 refine RK.M rfl<|RK.D<|AWp_sr hP<|RK.V (op_lss rfl rfl)<|RK.D<|AWp_seq<|AWp_cond_false rfl (by decide) ?_
 refine AWp_exit<|AWp_region hP<|RK.V (op_add rfl rfl (by first | exact IntWalk.i64_in _ (by omega) | rfl)) ?_
 refine RK.M rfl<|RK.D<|AWp_sr hP<|RK.V (op_lss rfl rfl)<|RK.D<|AWp_seq<|AWp_cond_true rfl (by decide) ?_
 refine AWp_skip<|AWp_seq<|AWp_block<|AWp_sr hP<|RK.M rfl<|RK.As rfl<|RK.D<|AWp_sr hP<|RK.M rfl<|RK.D<|AWp_block<|AWp_unroll 3 ?_
 refine AWp_sr hP<|RK.V (op_lss rfl rfl)<|RK.D<|AWp_seq<|AWp_cond_true rfl (by decide) ?_
 refine AWp_skip<|AWp_seq<|AWp_block<|AWp_sr hP<|RK.M rfl<|RK.As rfl<|RK.D<|AWp_region hP<|RK.M rfl<|RK.M rfl<|RK.M rfl<|RK.V (op_index_arr hT rfl rfl rfl rfl rfl (by first | decide | omega)) ?_
 refine RK.V (op_index_arr hT rfl rfl rfl rfl rfl (by first | decide | omega)) ?_
 refine RK.G2 hT rfl rfl rfl rfl rfl rfl<|RK.M rfl<|RK.V (op_index_arr hT rfl rfl rfl rfl rfl (by first | decide | omega)) ?_
 refine RK.V (op_index_arr hT rfl rfl rfl rfl rfl (by first | decide | omega)) ?_
 refine RK.G2 hT rfl rfl rfl rfl rfl rfl<|RK.V (op_bslice hT rfl rfl rfl (es := [_, _, _, _]) rfl rfl rfl) ?_
 refine RK.V (Eff.call0 (q_product2 _ _ lz lz)) ?_
 refine RK.M rfl<|RK.V (op_index_arr hT rfl rfl rfl rfl rfl (by first | decide | omega)) ?_
 refine RK.V (op_index_arr hT rfl rfl rfl rfl rfl (by first | decide | omega)) ?_
 refine RK.G2 hT rfl rfl rfl rfl rfl rfl<|RK.M rfl<|RK.V (op_index_arr hT rfl rfl rfl rfl rfl (by first | decide | omega)) ?_
 refine RK.V (op_index_arr hT rfl rfl rfl rfl rfl (by first | decide | omega)) ?_
 refine RK.G2 hT rfl rfl rfl rfl rfl rfl<|RK.V (op_bslice hT rfl rfl rfl (es := [_, _, _, _]) rfl rfl rfl) ?_
 refine RK.V (Eff.call0 (q_product2 _ _ lz lz)) ?_
 refine RK.V (Eff.call0 (int_Add _ _ lz lz)) ?_
 refine RK.V (op_index_arr hT rfl rfl rfl rfl rfl (by first | decide | omega)) ?_
 refine RK.V (op_index_arr hT rfl rfl rfl rfl rfl (by first | decide | omega)) ?_
 refine RK.S hT rfl rfl rfl rfl rfl rfl rfl<|RK.D<|AWp_region hP<|RK.V (op_add rfl rfl (by first | exact IntWalk.i64_in _ (by omega) | rfl)) ?_
 refine RK.M rfl<|RK.D<|AWp_sr hP<|RK.V (op_lss rfl rfl)<|RK.D<|AWp_seq<|AWp_cond_true rfl (by decide) ?_
 refine AWp_skip<|AWp_seq<|AWp_block<|AWp_sr hP<|RK.M rfl<|RK.As rfl<|RK.D<|AWp_region hP<|RK.M rfl<|RK.M rfl<|RK.M rfl<|RK.V (op_index_arr hT rfl rfl rfl rfl rfl (by first | decide | omega)) ?_
 refine RK.V (op_index_arr hT rfl rfl rfl rfl rfl (by first | decide | omega)) ?_
 refine RK.G2 hT rfl rfl rfl rfl rfl rfl<|RK.M rfl<|RK.V (op_index_arr hT rfl rfl rfl rfl rfl (by first | decide | omega)) ?_
 refine RK.V (op_index_arr hT rfl rfl rfl rfl rfl (by first | decide | omega)) ?_
 refine RK.G2 hT rfl rfl rfl rfl rfl rfl<|RK.V (op_bslice hT rfl rfl rfl (es := [_, _, _, _]) rfl rfl rfl) ?_
 refine RK.V (Eff.call0 (q_product2 _ _ lz lz)) ?_
 refine RK.M rfl<|RK.V (op_index_arr hT rfl rfl rfl rfl rfl (by first | decide | omega)) ?_
 refine RK.V (op_index_arr hT rfl rfl rfl rfl rfl (by first | decide | omega)) ?_
 refine RK.G2 hT rfl rfl rfl rfl rfl rfl<|RK.M rfl<|RK.V (op_index_arr hT rfl rfl rfl rfl rfl (by first | decide | omega)) ?_
 refine RK.V (op_index_arr hT rfl rfl rfl rfl rfl (by first | decide | omega)) ?_
 refine RK.G2 hT rfl rfl rfl rfl rfl rfl<|RK.V (op_bslice hT rfl rfl rfl (es := [_, _, _, _]) rfl rfl rfl) ?_
 refine RK.V (Eff.call0 (q_product2 _ _ lz lz)) ?_
 refine RK.V (Eff.call0 (int_Add _ _ lz lz)) ?_
 refine RK.V (op_index_arr hT rfl rfl rfl rfl rfl (by first | decide | omega)) ?_
 refine RK.V (op_index_arr hT rfl rfl rfl rfl rfl (by first | decide | omega)) ?_
 refine RK.S hT rfl rfl rfl rfl rfl rfl rfl<|RK.D<|AWp_region hP<|RK.V (op_add rfl rfl (by first | exact IntWalk.i64_in _ (by omega) | rfl)) ?_
 refine RK.M rfl<|RK.D<|AWp_sr hP<|RK.V (op_lss rfl rfl)<|RK.D<|AWp_seq<|AWp_cond_false rfl (by decide) ?_
 refine AWp_exit<|AWp_region hP<|RK.V (op_add rfl rfl (by first | exact IntWalk.i64_in _ (by omega) | rfl)) ?_
 refine RK.M rfl<|RK.D<|AWp_sr hP<|RK.V (op_lss rfl rfl)<|RK.D<|AWp_seq<|AWp_cond_false rfl (by decide) ?_
 refine AWp_exit<|AWp_sr hP<|RK.V (op_index_arr hT rfl rfl rfl rfl rfl (by first | decide | omega)) ?_
 refine RK.V (op_index_arr hT rfl rfl rfl rfl rfl (by first | decide | omega)) ?_
 refine RK.G2 hT rfl rfl rfl rfl rfl rfl<|RK.V (op_index_arr hT rfl rfl rfl rfl rfl (by first | decide | omega)) ?_
 refine RK.V (op_index_arr hT rfl rfl rfl rfl rfl (by first | decide | omega)) ?_
 refine RK.G2 hT rfl rfl rfl rfl rfl rfl<|RK.V (op_index_arr hT rfl rfl rfl rfl rfl (by first | decide | omega)) ?_
 refine RK.V (op_index_arr hT rfl rfl rfl rfl rfl (by first | decide | omega)) ?_
 refine RK.G2 hT rfl rfl rfl rfl rfl rfl<|RK.V (op_index_arr hT rfl rfl rfl rfl rfl (by first | decide | omega)) ?_
 refine RK.V (op_index_arr hT rfl rfl rfl rfl rfl (by first | decide | omega)) ?_
 refine RK.G2 hT rfl rfl rfl rfl rfl rfl<|RK.V (op_build_st hT rfl rfl rfl (es := [_, _, _, _, _, _, _, _]) rfl) ?_
 refine RK.S hT rfl rfl rfl rfl rfl rfl rfl<|RK.D<|AWp_ret ?_
 refine ends_one rfl (.inr rfl) (res_cell_agg hT rfl rfl rfl rfl (cs := [_, _, _, _, _, _, _, _]) rfl rfl) ?_ O_ends
 exact .refl _
theorem q_Reduced (a b c : Int) (ha : L 34 a) (hb : L 34 b) (hc : L 34 c) :
  Call0 Tryz.prog 61 [FA a b c] (B (rdd a b c)) := by
 have ia : LB a 34 := ⟨ha⟩
 have ib : LB b 34 := ⟨hb⟩
 have ic : LB c 34 := ⟨hc⟩
 refine callM_of (np := 0) Tryz.func61 (by kernel_rfl) rfl rfl (Nat.le_of_ble_eq_true rfl) (fun m h => absurd rfl h) (fun m h => absurd rfl h) rfl ?_
 refine AWp_sr hP<|RK.alc guard_none (op_box rfl rfl)<|RK.As rfl<|RK.D<|AWp_seq<|AWp_sr hP<|RK.G6 hT rfl rfl rfl rfl rfl rfl<|RK.V (Eff.call0 (q_Check _ _ _ lz lz lz)) ?_
 refine RK.V (op_neq rfl rfl) ?_
 refine RK.M rfl ?_
 refine RK.split (t := 8) rfl (fun hg1 => ?_) (fun hg1 => ?_)
 ·have hg1_ := bneT hg1
  refine RK.skip (guard_no rfl rfl hg1) ?_
  refine RK.skip (guard_no rfl rfl hg1) ?_
  refine RK.skip (guard_no rfl rfl hg1) ?_
  refine RK.skip (guard_no rfl rfl hg1) ?_
  refine RK.V (op_pick_t rfl hg1 (rfl : _ = AV.p (.c _))) ?_
  refine RK.D<|AWp_cond_true rfl rfl ?_
  refine AWp_sr hP<|RK.As rfl<|RK.D<|AWp_ret ?_
  refine ends_one rfl (.inr rfl) (res_tmp rfl) ?_ O_ends
  exact Sub.bool (rdd_1 hg1_)
 ·have hg1_ := bneF hg1
  refine RK.val (guard_yes rfl rfl hg1) (op_load_agg hT rfl rfl rfl rfl (cs := [_, _, _, _, _, _]) rfl rfl) ?_
  refine RK.val (guard_yes rfl rfl hg1) (Eff.call0 (q_Disc _ _ _ lz lz lz)) ?_
  refine RK.val (guard_yes rfl rfl hg1) (Eff.call0 (int_Sign _)) ?_
  refine RK.val (guard_yes rfl rfl hg1) (op_gtr rfl rfl) ?_
  refine RK.V (op_pick_f rfl hg1 (rfl : _ = AV.p (.c _))) ?_
  refine RK.D ?_
  refine AWp_cond rfl (fun hb2 => ?_) (fun hb2 => ?_)
  ·have hb2_ := of_decide_eq_true hb2
   refine AWp_sr hP<|RK.As rfl<|RK.D<|AWp_ret ?_
   refine ends_one rfl (.inr rfl) (res_tmp rfl) ?_ O_ends
   exact Sub.bool (rdd_2 hb2_)
  ·have hb2_ := of_decide_eq_false hb2
   refine AWp_skip<|AWp_sr hP<|RK.F hT rfl rfl rfl rfl rfl rfl<|RK.G2 hT rfl rfl rfl rfl rfl rfl<|RK.V (Eff.call0 (int_Abs _)) ?_
   refine RK.F hT rfl rfl rfl rfl rfl rfl<|RK.G2 hT rfl rfl rfl rfl rfl rfl<|RK.V (Eff.call0 (int_Cmp _ _)) ?_
   refine RK.F hT rfl rfl rfl rfl rfl rfl<|RK.G2 hT rfl rfl rfl rfl rfl rfl<|RK.F hT rfl rfl rfl rfl rfl rfl<|RK.G2 hT rfl rfl rfl rfl rfl rfl<|RK.V (Eff.call0 (int_Cmp _ _)) ?_
   refine RK.As rfl<|RK.As rfl<|RK.D<|AWp_sr hP<|RK.M rfl<|RK.V (op_leq rfl rfl) ?_
   refine RK.M rfl ?_
   refine RK.split (t := 27) rfl (fun hg3 => ?_) (fun hg3 => ?_)
   ·have hg3_ := of_decide_eq_true hg3
    refine RK.val (guard_yes rfl rfl hg3) (op_move (rfl : _ = AV.p (.c _))) ?_
    refine RK.val (guard_yes rfl rfl hg3) (op_leq rfl rfl) ?_
    refine RK.V (op_pick_t rfl hg3 (rfl : _ = AV.p (.c _))) ?_
    refine RK.M rfl ?_
    refine RK.split (t := 31) rfl (fun hg4 => ?_) (fun hg4 => ?_)
    ·have hg4_ := of_decide_eq_true hg4
     refine RK.val (guard_yes rfl rfl hg4) (op_move (rfl : _ = AV.p (.c _))) ?_
     refine RK.val (guard_yes rfl rfl hg4) (op_lss rfl rfl) ?_
     refine RK.val (guard_yes rfl rfl hg4) (op_move (rfl : _ = AV.p (.c _))) ?_
     refine RK.split (t := 34) rfl (fun hg5 => ?_) (fun hg5 => ?_)
     ·have hg5_ := of_decide_eq_true hg5
      refine RK.val (guard_yes rfl rfl hg5) (op_move (rfl : _ = AV.p (.c _))) ?_
      refine RK.val (guard_yes rfl rfl hg5) (op_lss rfl rfl) ?_
      refine RK.val (guard_yes rfl rfl hg4) (op_pick_t rfl hg5 (rfl : _ = AV.p (.c _))) ?_
      refine RK.val (guard_yes rfl rfl hg4) (op_move (rfl : _ = AV.p (.c _))) ?_
      refine RK.split (t := 38) rfl (fun hg6 => ?_) (fun hg6 => ?_)
      ·have hg6_ := of_decide_eq_true hg6
       refine RK.skip (guard_no rfl rfl hg6) ?_
       refine RK.skip (guard_no rfl rfl hg6) ?_
       refine RK.skip (guard_no rfl rfl hg6) ?_
       refine RK.skip (guard_no rfl rfl hg6) ?_
       refine RK.val (guard_yes rfl rfl hg4) (op_pick_t rfl hg6 (rfl : _ = AV.p (.c _))) ?_
       refine RK.V (op_pick_t rfl hg4 (rfl : _ = AV.p (.c _))) ?_
       refine RK.As rfl<|RK.D<|AWp_ret ?_
       refine ends_one rfl (.inr rfl) (res_tmp rfl) ?_ O_ends
       exact Sub.bool (rdd_3 hg1_ hb2_ hg5_ hg6_)
      ·have hg6_ := of_decide_eq_false hg6
       refine RK.val (guard_yes rfl rfl hg6) (op_field_loc hT rfl rfl rfl rfl rfl rfl) ?_
       refine RK.val (guard_yes rfl rfl hg6) (op_load_agg hT rfl rfl rfl rfl (cs := [_, _]) rfl rfl) ?_
       refine RK.val (guard_yes rfl rfl hg6) (Eff.call0 (int_Sign _)) ?_
       refine RK.val (guard_yes rfl rfl hg6) (op_geq rfl rfl) ?_
       refine RK.val (guard_yes rfl rfl hg4) (op_pick_f rfl hg6 (rfl : _ = AV.p (.c _))) ?_
       refine RK.V (op_pick_t rfl hg4 (rfl : _ = AV.p (.c _))) ?_
       refine RK.As rfl<|RK.D<|AWp_ret ?_
       refine ends_one rfl (.inr rfl) (res_tmp rfl) ?_ O_ends
       exact Sub.bool (rdd_4 hg1_ hb2_ hg3_ hg4_ (fun h => hg6_ h.2))
     ·have hg5_ := of_decide_eq_false hg5
      refine RK.skip (guard_no rfl rfl hg5) ?_
      refine RK.skip (guard_no rfl rfl hg5) ?_
      refine RK.val (guard_yes rfl rfl hg4) (op_pick_f rfl hg5 (rfl : _ = AV.p (.c _))) ?_
      refine RK.val (guard_yes rfl rfl hg4) (op_move (rfl : _ = AV.p (.c _))) ?_
      refine RK.val (guard_yes rfl rfl rfl) (op_field_loc hT rfl rfl rfl rfl rfl rfl) ?_
      refine RK.val (guard_yes rfl rfl rfl) (op_load_agg hT rfl rfl rfl rfl (cs := [_, _]) rfl rfl) ?_
      refine RK.val (guard_yes rfl rfl rfl) (Eff.call0 (int_Sign _)) ?_
      refine RK.val (guard_yes rfl rfl rfl) (op_geq rfl rfl) ?_
      refine RK.val (guard_yes rfl rfl hg4) (op_pick_f rfl rfl (rfl : _ = AV.p (.c _))) ?_
      refine RK.V (op_pick_t rfl hg4 (rfl : _ = AV.p (.c _))) ?_
      refine RK.As rfl<|RK.D<|AWp_ret ?_
      refine ends_one rfl (.inr rfl) (res_tmp rfl) ?_ O_ends
      exact Sub.bool (rdd_4 hg1_ hb2_ hg3_ hg4_ (fun h => hg5_ h.1))
    ·have hg4_ := of_decide_eq_false hg4
     refine RK.skip (guard_no rfl rfl hg4) ?_
     refine RK.skip (guard_no rfl rfl hg4) ?_
     refine RK.skip (guard_no rfl rfl hg4) ?_
     refine RK.skip (guard_sk rfl rfl) ?_
     refine RK.skip (guard_sk rfl rfl) ?_
     refine RK.skip (guard_no rfl rfl hg4) ?_
     refine RK.skip (guard_no rfl rfl hg4) ?_
     refine RK.skip (guard_sk rfl rfl) ?_
     refine RK.skip (guard_sk rfl rfl) ?_
     refine RK.skip (guard_sk rfl rfl) ?_
     refine RK.skip (guard_sk rfl rfl) ?_
     refine RK.skip (guard_no rfl rfl hg4) ?_
     refine RK.V (op_pick_f rfl hg4 (rfl : _ = AV.p (.c _))) ?_
     refine RK.As rfl<|RK.D<|AWp_ret ?_
     refine ends_one rfl (.inr rfl) (res_tmp rfl) ?_ O_ends
     exact Sub.bool (rdd_5 hg4_)
   ·have hg3_ := of_decide_eq_false hg3
    refine RK.skip (guard_no rfl rfl hg3) ?_
    refine RK.skip (guard_no rfl rfl hg3) ?_
    refine RK.V (op_pick_f rfl hg3 (rfl : _ = AV.p (.c _))) ?_
    refine RK.M rfl<|RK.skip (guard_no rfl rfl rfl) ?_
    refine RK.skip (guard_no rfl rfl rfl) ?_
    refine RK.skip (guard_no rfl rfl rfl) ?_
    refine RK.skip (guard_sk rfl rfl) ?_
    refine RK.skip (guard_sk rfl rfl) ?_
    refine RK.skip (guard_no rfl rfl rfl) ?_
    refine RK.skip (guard_no rfl rfl rfl) ?_
    refine RK.skip (guard_sk rfl rfl) ?_
    refine RK.skip (guard_sk rfl rfl) ?_
    refine RK.skip (guard_sk rfl rfl) ?_
    refine RK.skip (guard_sk rfl rfl) ?_
    refine RK.skip (guard_no rfl rfl rfl) ?_
    refine RK.V (op_pick_f rfl rfl (rfl : _ = AV.p (.c _))) ?_
    refine RK.As rfl<|RK.D<|AWp_ret ?_
    refine ends_one rfl (.inr rfl) (res_tmp rfl) ?_ O_ends
    exact Sub.bool (rdd_6 hg3_)
end Go.Proofs.YtpaifigafaijpaaGreatDoor
end

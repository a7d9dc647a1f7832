/- The types of this seat, by program (gen_ty.py). -/
import Derived.Test.YtfdjankalhfceaaGreatLGB
import Derived.Test.YtfdjankalhfceaaGreatLGH
import Derived.Test.YtfdjankalhfceaaGreatProg
import Derived.KernelRfl
section
namespace Go.Proofs.YtfdjankalhfceaaGreat
open Go Go.AM
/- int64 -/
def ty2 : TyI := ⟨.int .i64, 1, 8, [.v (.int .i64 0)]⟩
theorem ty2_ok : TyOK Tryz.prog 2 ty2 := TyOK.mk' (z := .int .i64 0) (by kernel_rfl) Tryz.underlying2 rfl rfl ⟨z_v _ rfl, trivial⟩
/- int -/
def ty3 : TyI := ⟨.int .i64, 1, 8, [.v (.int .i64 0)]⟩
theorem ty3_ok : TyOK Tryz.prog 3 ty3 := TyOK.mk' (z := .int .i64 0) (by kernel_rfl) Tryz.underlying3 rfl rfl ⟨z_v _ rfl, trivial⟩
/- bool -/
def ty4 : TyI := ⟨.bool, 1, 1, [.v (.bool false)]⟩
theorem ty4_ok : TyOK Tryz.prog 4 ty4 := TyOK.mk' (z := .bool false) (by kernel_rfl) Tryz.underlying4 trivial rfl ⟨z_v _ rfl, trivial⟩
/- uint8 -/
def ty5 : TyI := ⟨.int .u8, 1, 1, [.v (.int .u8 0)]⟩
theorem ty5_ok : TyOK Tryz.prog 5 ty5 := TyOK.mk' (z := .int .u8 0) (by kernel_rfl) Tryz.underlying5 rfl rfl ⟨z_v _ rfl, trivial⟩
/- string -/
def ty9 : TyI := ⟨.str, 1, 16, [.v (.string ⟨#[]⟩)]⟩
theorem ty9_ok : TyOK Tryz.prog 9 ty9 := TyOK.mk' (z := .string ⟨#[]⟩) (by kernel_rfl) Tryz.underlying9 trivial rfl ⟨z_v _ rfl, trivial⟩
/- uintptr -/
def ty12 : TyI := ⟨.int .u64, 1, 8, [.v (.int .u64 0)]⟩
theorem ty12_ok : TyOK Tryz.prog 12 ty12 := TyOK.mk' (z := .int .u64 0) (by kernel_rfl) Tryz.underlying12 rfl rfl ⟨z_v _ rfl, trivial⟩
/- int32 -/
def ty21 : TyI := ⟨.int .i32, 1, 4, [.v (.int .i32 0)]⟩
theorem ty21_ok : TyOK Tryz.prog 21 ty21 := TyOK.mk' (z := .int .i32 0) (by kernel_rfl) Tryz.underlying21 rfl rfl ⟨z_v _ rfl, trivial⟩
/- uint16 -/
def ty22 : TyI := ⟨.int .u16, 1, 2, [.v (.int .u16 0)]⟩
theorem ty22_ok : TyOK Tryz.prog 22 ty22 := TyOK.mk' (z := .int .u16 0) (by kernel_rfl) Tryz.underlying22 rfl rfl ⟨z_v _ rfl, trivial⟩
/- int8 -/
def ty23 : TyI := ⟨.int .i8, 1, 1, [.v (.int .i8 0)]⟩
theorem ty23_ok : TyOK Tryz.prog 23 ty23 := TyOK.mk' (z := .int .i8 0) (by kernel_rfl) Tryz.underlying23 rfl rfl ⟨z_v _ rfl, trivial⟩
/- []uint32 -/
def ty24 : TyI := ⟨.sl 52, 1, 24, [.sl 0 []]⟩
theorem ty24_ok : TyOK Tryz.prog 24 ty24 := TyOK.mk' (z := .slice none 0 0) (by kernel_rfl) Tryz.underlying24 rfl rfl ⟨z_sl, trivial⟩
/- struct { Neg bool; Mag []uint32 } -/
def ty25 : TyI := ⟨.st [(0, 4), (1, 24)], 2, 32, [.v (.bool false), .sl 0 []]⟩
theorem ty25_ok : TyOK Tryz.prog 25 ty25 := TyOK.mk' (z := .agg #[.bool false, .slice none 0 0]) (by kernel_rfl) Tryz.underlying25 rfl rfl ⟨z_v _ rfl, z_sl, trivial⟩
/- api.Int -/
def ty26 : TyI := ⟨.st [(0, 4), (1, 24)], 2, 32, [zn 0, zm 0]⟩
theorem ty26_ok : TyOK Tryz.prog 26 ty26 := TyOK.mk' (z := .agg #[.bool false, .slice none 0 0]) (by kernel_rfl) Tryz.underlying26 rfl rfl ⟨z_zn, z_zm, trivial⟩
/- [2]uint16 -/
def ty29 : TyI := ⟨.ar 2 22, 2, 4, [.v (.int .u16 0), .v (.int .u16 0)]⟩
theorem ty29_ok : TyOK Tryz.prog 29 ty29 := TyOK.mk' (z := .agg #[.int .u16 0, .int .u16 0]) (by kernel_rfl) Tryz.underlying29 ⟨rfl, rfl⟩ rfl ⟨z_v _ rfl, z_v _ rfl, trivial⟩
/- [2]uint8 -/
def ty30 : TyI := ⟨.ar 2 5, 2, 2, [.v (.int .u8 0), .v (.int .u8 0)]⟩
theorem ty30_ok : TyOK Tryz.prog 30 ty30 := TyOK.mk' (z := .agg #[.int .u8 0, .int .u8 0]) (by kernel_rfl) Tryz.underlying30 ⟨rfl, rfl⟩ rfl ⟨z_v _ rfl, z_v _ rfl, trivial⟩
/- struct { D uint16; I [2]uint16; M [2]uint8 } -/
def ty31 : TyI := ⟨.st [(0, 22), (1, 29), (3, 30)], 5, 8, [.v (.int .u16 0), .v (.int .u16 0), .v (.int .u16 0), .v (.int .u8 0), .v (.int .u8 0)]⟩
theorem ty31_ok : TyOK Tryz.prog 31 ty31 := TyOK.mk' (z := .agg #[.int .u16 0, .int .u16 0, .int .u16 0, .int .u8 0, .int .u8 0]) (by kernel_rfl) Tryz.underlying31 rfl rfl ⟨z_v _ rfl, z_v _ rfl, z_v _ rfl, z_v _ rfl, z_v _ rfl, trivial⟩
/- algoristref17.Raw -/
def ty32 : TyI := ⟨.st [(0, 22), (1, 29), (3, 30)], 5, 8, [.v (.int .u16 0), .v (.int .u16 0), .v (.int .u16 0), .v (.int .u8 0), .v (.int .u8 0)]⟩
theorem ty32_ok : TyOK Tryz.prog 32 ty32 := TyOK.mk' (z := .agg #[.int .u16 0, .int .u16 0, .int .u16 0, .int .u8 0, .int .u8 0]) (by kernel_rfl) Tryz.underlying32 rfl rfl ⟨z_v _ rfl, z_v _ rfl, z_v _ rfl, z_v _ rfl, z_v _ rfl, trivial⟩
/- struct { A api.Int; B api.Int; C api.Int } -/
def ty35 : TyI := ⟨.st [(0, 26), (2, 26), (4, 26)], 6, 96, [zn 0, zm 0, zn 0, zm 0, zn 0, zm 0]⟩
theorem ty35_ok : TyOK Tryz.prog 35 ty35 := TyOK.mk' (z := .agg #[.bool false, .slice none 0 0, .bool false, .slice none 0 0, .bool false, .slice none 0 0]) (by kernel_rfl) Tryz.underlying35 rfl rfl ⟨z_zn, z_zm, z_zn, z_zm, z_zn, z_zm, trivial⟩
/- api.Form -/
def ty36 : TyI := ⟨.st [(0, 26), (2, 26), (4, 26)], 6, 96, [zn 0, zm 0, zn 0, zm 0, zn 0, zm 0]⟩
theorem ty36_ok : TyOK Tryz.prog 36 ty36 := TyOK.mk' (z := .agg #[.bool false, .slice none 0 0, .bool false, .slice none 0 0, .bool false, .slice none 0 0]) (by kernel_rfl) Tryz.underlying36 rfl rfl ⟨z_zn, z_zm, z_zn, z_zm, z_zn, z_zm, trivial⟩
/- api.Errno -/
def ty37 : TyI := ⟨.int .i64, 1, 8, [.v (.int .i64 0)]⟩
theorem ty37_ok : TyOK Tryz.prog 37 ty37 := TyOK.mk' (z := .int .i64 0) (by kernel_rfl) Tryz.underlying37 rfl rfl ⟨z_v _ rfl, trivial⟩
/- []api.Quad -/
def ty40 : TyI := ⟨.sl 45, 1, 24, [.sl 0 []]⟩
theorem ty40_ok : TyOK Tryz.prog 40 ty40 := TyOK.mk' (z := .slice none 0 0) (by kernel_rfl) Tryz.underlying40 rfl rfl ⟨z_sl, trivial⟩
/- struct { X api.Int; Y api.Int } -/
def ty44 : TyI := ⟨.st [(0, 26), (2, 26)], 4, 64, [zn 0, zm 0, zn 0, zm 0]⟩
theorem ty44_ok : TyOK Tryz.prog 44 ty44 := TyOK.mk' (z := .agg #[.bool false, .slice none 0 0, .bool false, .slice none 0 0]) (by kernel_rfl) Tryz.underlying44 rfl rfl ⟨z_zn, z_zm, z_zn, z_zm, trivial⟩
/- api.Quad -/
def ty45 : TyI := ⟨.st [(0, 26), (2, 26)], 4, 64, [zn 0, zm 0, zn 0, zm 0]⟩
theorem ty45_ok : TyOK Tryz.prog 45 ty45 := TyOK.mk' (z := .agg #[.bool false, .slice none 0 0, .bool false, .slice none 0 0]) (by kernel_rfl) Tryz.underlying45 rfl rfl ⟨z_zn, z_zm, z_zn, z_zm, trivial⟩
/- uint64 -/
def ty50 : TyI := ⟨.int .u64, 1, 8, [.v (.int .u64 0)]⟩
theorem ty50_ok : TyOK Tryz.prog 50 ty50 := TyOK.mk' (z := .int .u64 0) (by kernel_rfl) Tryz.underlying50 rfl rfl ⟨z_v _ rfl, trivial⟩
/- uint32 -/
def ty52 : TyI := ⟨.int .u32, 1, 4, [.v (.int .u32 0)]⟩
theorem ty52_ok : TyOK Tryz.prog 52 ty52 := TyOK.mk' (z := .int .u32 0) (by kernel_rfl) Tryz.underlying52 rfl rfl ⟨z_v _ rfl, trivial⟩
/- uint -/
def ty53 : TyI := ⟨.int .u64, 1, 8, [.v (.int .u64 0)]⟩
theorem ty53_ok : TyOK Tryz.prog 53 ty53 := TyOK.mk' (z := .int .u64 0) (by kernel_rfl) Tryz.underlying53 rfl rfl ⟨z_v _ rfl, trivial⟩
/- integer.nat -/
def ty57 : TyI := ⟨.sl 52, 1, 24, [.sl 0 []]⟩
theorem ty57_ok : TyOK Tryz.prog 57 ty57 := TyOK.mk' (z := .slice none 0 0) (by kernel_rfl) Tryz.underlying57 rfl rfl ⟨z_sl, trivial⟩
/- struct { d api.Int; eta api.Quad } -/
def ty67 : TyI := ⟨.st [(0, 26), (2, 45)], 6, 96, [zn 0, zm 0, zn 0, zm 0, zn 0, zm 0]⟩
theorem ty67_ok : TyOK Tryz.prog 67 ty67 := TyOK.mk' (z := .agg #[.bool false, .slice none 0 0, .bool false, .slice none 0 0, .bool false, .slice none 0 0]) (by kernel_rfl) Tryz.underlying67 rfl rfl ⟨z_zn, z_zm, z_zn, z_zm, z_zn, z_zm, trivial⟩
/- pell.field -/
def ty68 : TyI := ⟨.st [(0, 26), (2, 45)], 6, 96, [zn 0, zm 0, zn 0, zm 0, zn 0, zm 0]⟩
theorem ty68_ok : TyOK Tryz.prog 68 ty68 := TyOK.mk' (z := .agg #[.bool false, .slice none 0 0, .bool false, .slice none 0 0, .bool false, .slice none 0 0]) (by kernel_rfl) Tryz.underlying68 rfl rfl ⟨z_zn, z_zm, z_zn, z_zm, z_zn, z_zm, trivial⟩
/- [2]string -/
def ty77 : TyI := ⟨.ar 2 9, 2, 32, [.v (.string ⟨#[]⟩), .v (.string ⟨#[]⟩)]⟩
theorem ty77_ok : TyOK Tryz.prog 77 ty77 := TyOK.mk' (z := .agg #[.string ⟨#[]⟩, .string ⟨#[]⟩]) (by kernel_rfl) Tryz.underlying77 ⟨rfl, rfl⟩ rfl ⟨z_v _ rfl, z_v _ rfl, trivial⟩
/- []api.Form -/
def ty81 : TyI := ⟨.sl 36, 1, 24, [.sl 0 []]⟩
theorem ty81_ok : TyOK Tryz.prog 81 ty81 := TyOK.mk' (z := .slice none 0 0) (by kernel_rfl) Tryz.underlying81 rfl rfl ⟨z_sl, trivial⟩
/- struct { x api.Int; y api.Int; z api.Int; d api.Int } -/
def ty86 : TyI := ⟨.st [(0, 26), (2, 26), (4, 26), (6, 26)], 8, 128, [zn 0, zm 0, zn 0, zm 0, zn 0, zm 0, zn 0, zm 0]⟩
theorem ty86_ok : TyOK Tryz.prog 86 ty86 := TyOK.mk' (z := .agg #[.bool false, .slice none 0 0, .bool false, .slice none 0 0, .bool false, .slice none 0 0, .bool false, .slice none 0 0]) (by kernel_rfl) Tryz.underlying86 rfl rfl ⟨z_zn, z_zm, z_zn, z_zm, z_zn, z_zm, z_zn, z_zm, trivial⟩
/- unit.fraction -/
def ty87 : TyI := ⟨.st [(0, 26), (2, 26), (4, 26), (6, 26)], 8, 128, [zn 0, zm 0, zn 0, zm 0, zn 0, zm 0, zn 0, zm 0]⟩
theorem ty87_ok : TyOK Tryz.prog 87 ty87 := TyOK.mk' (z := .agg #[.bool false, .slice none 0 0, .bool false, .slice none 0 0, .bool false, .slice none 0 0, .bool false, .slice none 0 0]) (by kernel_rfl) Tryz.underlying87 rfl rfl ⟨z_zn, z_zm, z_zn, z_zm, z_zn, z_zm, z_zn, z_zm, trivial⟩
/- []api.Term -/
def ty88 : TyI := ⟨.sl 91, 1, 24, [.sl 0 []]⟩
theorem ty88_ok : TyOK Tryz.prog 88 ty88 := TyOK.mk' (z := .slice none 0 0) (by kernel_rfl) Tryz.underlying88 rfl rfl ⟨z_sl, trivial⟩
/- struct { A api.Int; B api.Int; C api.Int; E api.Int } -/
def ty90 : TyI := ⟨.st [(0, 26), (2, 26), (4, 26), (6, 26)], 8, 128, [zn 0, zm 0, zn 0, zm 0, zn 0, zm 0, zn 0, zm 0]⟩
theorem ty90_ok : TyOK Tryz.prog 90 ty90 := TyOK.mk' (z := .agg #[.bool false, .slice none 0 0, .bool false, .slice none 0 0, .bool false, .slice none 0 0, .bool false, .slice none 0 0]) (by kernel_rfl) Tryz.underlying90 rfl rfl ⟨z_zn, z_zm, z_zn, z_zm, z_zn, z_zm, z_zn, z_zm, trivial⟩
/- api.Term -/
def ty91 : TyI := ⟨.st [(0, 26), (2, 26), (4, 26), (6, 26)], 8, 128, [zn 0, zm 0, zn 0, zm 0, zn 0, zm 0, zn 0, zm 0]⟩
theorem ty91_ok : TyOK Tryz.prog 91 ty91 := TyOK.mk' (z := .agg #[.bool false, .slice none 0 0, .bool false, .slice none 0 0, .bool false, .slice none 0 0, .bool false, .slice none 0 0]) (by kernel_rfl) Tryz.underlying91 rfl rfl ⟨z_zn, z_zm, z_zn, z_zm, z_zn, z_zm, z_zn, z_zm, trivial⟩
/- []int -/
def ty103 : TyI := ⟨.sl 3, 1, 24, [.sl 0 []]⟩
theorem ty103_ok : TyOK Tryz.prog 103 ty103 := TyOK.mk' (z := .slice none 0 0) (by kernel_rfl) Tryz.underlying103 rfl rfl ⟨z_sl, trivial⟩
/- struct { A api.Int; B api.Int; C api.Int; D api.Int } -/
def ty114 : TyI := ⟨.st [(0, 26), (2, 26), (4, 26), (6, 26)], 8, 128, [zn 0, zm 0, zn 0, zm 0, zn 0, zm 0, zn 0, zm 0]⟩
theorem ty114_ok : TyOK Tryz.prog 114 ty114 := TyOK.mk' (z := .agg #[.bool false, .slice none 0 0, .bool false, .slice none 0 0, .bool false, .slice none 0 0, .bool false, .slice none 0 0]) (by kernel_rfl) Tryz.underlying114 rfl rfl ⟨z_zn, z_zm, z_zn, z_zm, z_zn, z_zm, z_zn, z_zm, trivial⟩
/- api.Mat -/
def ty115 : TyI := ⟨.st [(0, 26), (2, 26), (4, 26), (6, 26)], 8, 128, [zn 0, zm 0, zn 0, zm 0, zn 0, zm 0, zn 0, zm 0]⟩
theorem ty115_ok : TyOK Tryz.prog 115 ty115 := TyOK.mk' (z := .agg #[.bool false, .slice none 0 0, .bool false, .slice none 0 0, .bool false, .slice none 0 0, .bool false, .slice none 0 0]) (by kernel_rfl) Tryz.underlying115 rfl rfl ⟨z_zn, z_zm, z_zn, z_zm, z_zn, z_zm, z_zn, z_zm, trivial⟩
/- []api.Mat -/
def ty125 : TyI := ⟨.sl 115, 1, 24, [.sl 0 []]⟩
theorem ty125_ok : TyOK Tryz.prog 125 ty125 := TyOK.mk' (z := .slice none 0 0) (by kernel_rfl) Tryz.underlying125 rfl rfl ⟨z_sl, trivial⟩
/- [2]int64 -/
def ty130 : TyI := ⟨.ar 2 2, 2, 16, [.v (.int .i64 0), .v (.int .i64 0)]⟩
theorem ty130_ok : TyOK Tryz.prog 130 ty130 := TyOK.mk' (z := .agg #[.int .i64 0, .int .i64 0]) (by kernel_rfl) Tryz.underlying130 ⟨rfl, rfl⟩ rfl ⟨z_v _ rfl, z_v _ rfl, trivial⟩
/- [3]int64 -/
def ty146 : TyI := ⟨.ar 3 2, 3, 24, [.v (.int .i64 0), .v (.int .i64 0), .v (.int .i64 0)]⟩
theorem ty146_ok : TyOK Tryz.prog 146 ty146 := TyOK.mk' (z := .agg #[.int .i64 0, .int .i64 0, .int .i64 0]) (by kernel_rfl) Tryz.underlying146 ⟨rfl, rfl⟩ rfl ⟨z_v _ rfl, z_v _ rfl, z_v _ rfl, trivial⟩
/- cycle.triple -/
def ty147 : TyI := ⟨.ar 3 2, 3, 24, [.v (.int .i64 0), .v (.int .i64 0), .v (.int .i64 0)]⟩
theorem ty147_ok : TyOK Tryz.prog 147 ty147 := TyOK.mk' (z := .agg #[.int .i64 0, .int .i64 0, .int .i64 0]) (by kernel_rfl) Tryz.underlying147 ⟨rfl, rfl⟩ rfl ⟨z_v _ rfl, z_v _ rfl, z_v _ rfl, trivial⟩
/- []uint8 -/
def ty151 : TyI := ⟨.sl 5, 1, 24, [.sl 0 []]⟩
theorem ty151_ok : TyOK Tryz.prog 151 ty151 := TyOK.mk' (z := .slice none 0 0) (by kernel_rfl) Tryz.underlying151 rfl rfl ⟨z_sl, trivial⟩
/- slices.sortedHint -/
def ty153 : TyI := ⟨.int .i64, 1, 8, [.v (.int .i64 0)]⟩
theorem ty153_ok : TyOK Tryz.prog 153 ty153 := TyOK.mk' (z := .int .i64 0) (by kernel_rfl) Tryz.underlying153 rfl rfl ⟨z_v _ rfl, trivial⟩
/- struct { Q []uint32; R []uint32 } -/
def ty167 : TyI := ⟨.st [(0, 24), (1, 24)], 2, 48, [.sl 0 [], .sl 0 []]⟩
theorem ty167_ok : TyOK Tryz.prog 167 ty167 := TyOK.mk' (z := .agg #[.slice none 0 0, .slice none 0 0]) (by kernel_rfl) Tryz.underlying167 rfl rfl ⟨z_sl, z_sl, trivial⟩
/- algoristref01.quotient -/
def ty168 : TyI := ⟨.st [(0, 24), (1, 24)], 2, 48, [.sl 0 [], .sl 0 []]⟩
theorem ty168_ok : TyOK Tryz.prog 168 ty168 := TyOK.mk' (z := .agg #[.slice none 0 0, .slice none 0 0]) (by kernel_rfl) Tryz.underlying168 rfl rfl ⟨z_sl, z_sl, trivial⟩
/- [3]api.Int -/
def ty172 : TyI := ⟨.ar 3 26, 6, 96, [zn 0, zm 0, zn 0, zm 0, zn 0, zm 0]⟩
theorem ty172_ok : TyOK Tryz.prog 172 ty172 := TyOK.mk' (z := .agg #[.bool false, .slice none 0 0, .bool false, .slice none 0 0, .bool false, .slice none 0 0]) (by kernel_rfl) Tryz.underlying172 ⟨rfl, rfl⟩ rfl ⟨z_zn, z_zm, z_zn, z_zm, z_zn, z_zm, trivial⟩
/- [2]api.Int -/
def ty174 : TyI := ⟨.ar 2 26, 4, 64, [zn 0, zm 0, zn 0, zm 0]⟩
theorem ty174_ok : TyOK Tryz.prog 174 ty174 := TyOK.mk' (z := .agg #[.bool false, .slice none 0 0, .bool false, .slice none 0 0]) (by kernel_rfl) Tryz.underlying174 ⟨rfl, rfl⟩ rfl ⟨z_zn, z_zm, z_zn, z_zm, trivial⟩
/- [2][2]api.Int -/
def ty175 : TyI := ⟨.ar 2 174, 8, 128, [zn 0, zm 0, zn 0, zm 0, zn 0, zm 0, zn 0, zm 0]⟩
theorem ty175_ok : TyOK Tryz.prog 175 ty175 := TyOK.mk' (z := .agg #[.bool false, .slice none 0 0, .bool false, .slice none 0 0, .bool false, .slice none 0 0, .bool false, .slice none 0 0]) (by kernel_rfl) Tryz.underlying175 ⟨rfl, rfl⟩ rfl ⟨z_zn, z_zm, z_zn, z_zm, z_zn, z_zm, z_zn, z_zm, trivial⟩
/- slices.xorshift -/
def ty177 : TyI := ⟨.int .u64, 1, 8, [.v (.int .u64 0)]⟩
theorem ty177_ok : TyOK Tryz.prog 177 ty177 := TyOK.mk' (z := .int .u64 0) (by kernel_rfl) Tryz.underlying177 rfl rfl ⟨z_v _ rfl, trivial⟩
/- *int -/
def ty181 : TyI := ⟨.pt 3, 1, 8, [.v (.pointer none)]⟩
theorem ty181_ok : TyOK Tryz.prog 181 ty181 := TyOK.mk' (z := .pointer none) (by kernel_rfl) Tryz.underlying181 rfl rfl ⟨z_v _ rfl, trivial⟩
/- []api.Int -/
def ty193 : TyI := ⟨.sl 26, 1, 24, [.sl 0 []]⟩
theorem ty193_ok : TyOK Tryz.prog 193 ty193 := TyOK.mk' (z := .slice none 0 0) (by kernel_rfl) Tryz.underlying193 rfl rfl ⟨z_sl, trivial⟩
/- *slices.xorshift -/
def ty194 : TyI := ⟨.pt 177, 1, 8, [.v (.pointer none)]⟩
theorem ty194_ok : TyOK Tryz.prog 194 ty194 := TyOK.mk' (z := .pointer none) (by kernel_rfl) Tryz.underlying194 rfl rfl ⟨z_v _ rfl, trivial⟩
/- *uint8 -/
def ty207 : TyI := ⟨.pt 5, 1, 8, [.v (.pointer none)]⟩
theorem ty207_ok : TyOK Tryz.prog 207 ty207 := TyOK.mk' (z := .pointer none) (by kernel_rfl) Tryz.underlying207 rfl rfl ⟨z_v _ rfl, trivial⟩
/- struct { s string } -/
def ty212 : TyI := ⟨.st [(0, 9)], 1, 16, [.v (.string ⟨#[]⟩)]⟩
theorem ty212_ok : TyOK Tryz.prog 212 ty212 := TyOK.mk' (z := .agg #[.string ⟨#[]⟩]) (by kernel_rfl) Tryz.underlying212 rfl rfl ⟨z_v _ rfl, trivial⟩
/- map[[2]string]bool -/
def ty71 : TyI := ⟨.mp 77 4, 1, 8, [.v (.map none)]⟩
theorem ty71_ok : TyOK Tryz.prog 71 ty71 := TyOK.mk' (z := .map none) (by kernel_rfl) Tryz.underlying71 ⟨rfl, rfl⟩ rfl ⟨z_v _ rfl, trivial⟩
/- map[[2]int64]int -/
def ty128 : TyI := ⟨.mp 130 3, 1, 8, [.v (.map none)]⟩
theorem ty128_ok : TyOK Tryz.prog 128 ty128 := TyOK.mk' (z := .map none) (by kernel_rfl) Tryz.underlying128 ⟨rfl, rfl⟩ rfl ⟨z_v _ rfl, trivial⟩
def tt : TT := findT [(2, ty2), (3, ty3), (4, ty4), (5, ty5), (9, ty9), (12, ty12), (21, ty21), (22, ty22), (23, ty23), (24, ty24), (25, ty25), (26, ty26), (29, ty29), (30, ty30), (31, ty31), (32, ty32), (35, ty35), (36, ty36), (37, ty37), (40, ty40), (44, ty44), (45, ty45), (50, ty50), (52, ty52), (53, ty53), (57, ty57), (67, ty67), (68, ty68), (77, ty77), (81, ty81), (86, ty86), (87, ty87), (88, ty88), (90, ty90), (91, ty91), (103, ty103), (114, ty114), (115, ty115), (125, ty125), (130, ty130), (146, ty146), (147, ty147), (151, ty151), (153, ty153), (167, ty167), (168, ty168), (172, ty172), (174, ty174), (175, ty175), (177, ty177), (181, ty181), (193, ty193), (194, ty194), (207, ty207), (212, ty212), (71, ty71), (128, ty128)]
theorem hT : TTok Tryz.prog tt := AllT.ok ⟨ty2_ok, ty3_ok, ty4_ok, ty5_ok, ty9_ok, ty12_ok, ty21_ok, ty22_ok, ty23_ok, ty24_ok, ty25_ok, ty26_ok, ty29_ok, ty30_ok, ty31_ok, ty32_ok, ty35_ok, ty36_ok, ty37_ok, ty40_ok, ty44_ok, ty45_ok, ty50_ok, ty52_ok, ty53_ok, ty57_ok, ty67_ok, ty68_ok, ty77_ok, ty81_ok, ty86_ok, ty87_ok, ty88_ok, ty90_ok, ty91_ok, ty103_ok, ty114_ok, ty115_ok, ty125_ok, ty130_ok, ty146_ok, ty147_ok, ty151_ok, ty153_ok, ty167_ok, ty168_ok, ty172_ok, ty174_ok, ty175_ok, ty177_ok, ty181_ok, ty193_ok, ty194_ok, ty207_ok, ty212_ok, ty71_ok, ty128_ok, trivial⟩
theorem hP : Tryz.prog.follows .mixedOrders = true := by kernel_rfl
end Go.Proofs.YtfdjankalhfceaaGreat
end

section
/- nat: trim -/
namespace Go.Proofs.YtfdjankalhfceaaGreat
open Go Go.AM
/- (algorist/integer.nat).trim -/
set_option maxHeartbeats 1000000 in
set_option maxRecDepth 100000 in
theorem nat_trim (ws : List Nat) (hok : okW ws) :
  Call0 Tryz.prog 86 [.p (.c (W ws))] (.p (.c (nt (wv ws)))) := by
 refine callM_of (np := 0) Tryz.func86 (by kernel_rfl) rfl rfl (Nat.le_of_ble_eq_true rfl) (fun m h => absurd rfl h) (fun m h => absurd rfl h) rfl ?_
 refine AWp_len (t := 0) rfl rfl (fun hlen => ?_)
 refine AWp_sr hP ?_
 refine RK.As rfl ?_
 refine RK.D ?_
 refine AWp_seq ?_
 refine AWp_block ?_
 refine AWp_loop (ι := List Nat) (fun l => stL [(0, .p (.c (W l)))] []) (fun l => okW l ∧ wv l = wv ws ∧ l.length ≤ 140737488355328) (fun l => l.length) ws ⟨hok, rfl, hlen⟩ (le_stL ⟨.refl _, trivial⟩ trivial) ?_
 rintro l ⟨hl, hv, hn⟩
 refine AWp_seq ?_
 refine AWp_sr hP ?_
 refine RK.M rfl ?_
 refine RK.V (op_len hT rfl rfl rfl rfl) ?_
 refine RK.V (op_gtr rfl rfl) ?_
 refine RK.M rfl ?_
 refine RK.split (t := 6) rfl (fun hg1 => ?_) (fun hg1 => ?_)
 ·have hg1_ := of_decide_eq_true hg1
  refine RK.val (guard_yes rfl rfl hg1) (op_move (rfl : _ = AV.p (.c _))) ?_
  refine RK.val (guard_yes rfl rfl hg1) (op_move (rfl : _ = AV.p (.c _))) ?_
  refine RK.val (guard_yes rfl rfl hg1) (op_len hT rfl rfl rfl rfl) ?_
  refine RK.val (guard_yes rfl rfl hg1) (op_sub rfl rfl (by first | exact IntWalk.i64_in _ (by omega) | rfl)) ?_
  refine RK.val (guard_yes rfl rfl hg1) (by first | exact op_index_WN hT rfl rfl rfl rfl rfl rfl (by omega) | exact op_index_sl hT rfl rfl rfl rfl rfl rfl (by omega) (by first | exact W_ne (by omega) | simp)) ?_
  refine RK.val (guard_yes rfl rfl hg1) (op_load_ip_one hT rfl rfl rfl (by first | rfl | exact wget (by omega))) ?_
  refine RK.val (guard_yes rfl rfl hg1) (op_eql rfl rfl) ?_
  refine RK.V (op_pick_t rfl hg1 (rfl : _ = AV.p (.c _))) ?_
  refine RK.D ?_
  refine AWp_cond rfl (fun hb2 => ?_) (fun hb2 => ?_)
  ·have hb2_ := bT hb2
   refine AWp_skip ?_
   refine AWp_block ?_
   refine AWp_region hP ?_
   refine RK.M rfl ?_
   refine RK.M rfl ?_
   refine RK.V (op_len hT rfl rfl rfl rfl) ?_
   refine RK.V (op_sub rfl rfl (by first | exact IntWalk.i64_in _ (by omega) | rfl)) ?_
   refine RK.V (op_slice_hW hT rfl rfl rfl rfl rfl rfl (by omega)) ?_
   refine RK.As rfl ?_
   refine RK.D ?_
   have e : ((l.length : Int) - 1).toNat = l.length - 1 := by omega
   refine ⟨l.take (l.length - 1), ⟨hl.take _, ?_, ?_⟩, ?_, le_stL ⟨Sub.of_eq ?_, trivial⟩ trivial⟩
   ·rw [wv_last0 (by omega) (by rw [← e]; omega), hv]
   ·rw [List.length_take]; omega
   ·rw [List.length_take]; omega
   ·show AV.p (.c (W (l.take ((l.length : Int) - 1).toNat))) = _
    rw [e]
  ·have hb2_ := bF hb2
   refine AWp_exit ?_
   refine AWp_sr hP ?_
   refine RK.M rfl ?_
   refine RK.As rfl ?_
   refine RK.D ?_
   refine AWp_ret ?_
   refine ends_one rfl (.inr rfl) (res_tmp rfl) ?_ O_ends
   have e : ((l.length : Int) - 1).toNat = l.length - 1 := by omega
   refine Sub.of_eq ?_
   rw [← hv, nt_of hl (.inr (by rw [← e]; omega))]
 ·have hg1_ := of_decide_eq_false hg1
  refine RK.skip (guard_no rfl rfl hg1) ?_
  refine RK.skip (guard_no rfl rfl hg1) ?_
  refine RK.skip (guard_no rfl rfl hg1) ?_
  refine RK.skip (guard_no rfl rfl hg1) ?_
  refine RK.skip (guard_no rfl rfl hg1) ?_
  refine RK.skip (guard_no rfl rfl hg1) ?_
  refine RK.skip (guard_no rfl rfl hg1) ?_
  refine RK.V (op_pick_f rfl hg1 (rfl : _ = AV.p (.c _))) ?_
  refine RK.D ?_
  refine AWp_cond_false rfl rfl ?_
  refine AWp_exit ?_
  refine AWp_sr hP ?_
  refine RK.M rfl ?_
  refine RK.As rfl ?_
  refine RK.D ?_
  refine AWp_ret ?_
  refine ends_one rfl (.inr rfl) (res_tmp rfl) ?_ O_ends
  refine Sub.of_eq ?_
  rw [← hv, nt_of hl (.inl (by omega))]
end Go.Proofs.YtfdjankalhfceaaGreat
end

section
/- numbers: cmp, math.bits -/
namespace Go.Proofs.YtfdjankalhfceaaGreat
open Go Go.AM
/- cmp.isNaN[int] -/
set_option maxHeartbeats 1000000 in
set_option maxRecDepth 100000 in
theorem isNaN_int (a : Int) :
  Call0 Tryz.prog 51 [Z a] (B false) := by
 refine callM_of (np := 0) Tryz.func51 (by kernel_rfl) rfl rfl (Nat.le_of_ble_eq_true rfl) (fun m h => absurd rfl h) (fun m h => absurd rfl h) rfl ?_
 refine AWp_sr hP ?_
 refine RK.As rfl ?_
 refine RK.D ?_
 refine AWp_sr hP ?_
 refine RK.M rfl ?_
 refine RK.M rfl ?_
 refine RK.V (op_neq rfl rfl) ?_
 refine RK.As rfl ?_
 refine RK.D ?_
 refine AWp_ret ?_
 refine ends_one rfl (.inr rfl) (res_tmp rfl) ?_ O_ends
 exact Sub.of_eq (by simp)
/- cmp.isNaN[uint32] -/
set_option maxHeartbeats 1000000 in
set_option maxRecDepth 100000 in
theorem isNaN_u32 (a : Int) :
  Call0 Tryz.prog 84 [.p (.c (.v (.int .u32 a)))] (B false) := by
 refine callM_of (np := 0) Tryz.func84 (by kernel_rfl) rfl rfl (Nat.le_of_ble_eq_true rfl) (fun m h => absurd rfl h) (fun m h => absurd rfl h) rfl ?_
 refine AWp_sr hP ?_
 refine RK.As rfl ?_
 refine RK.D ?_
 refine AWp_sr hP ?_
 refine RK.M rfl ?_
 refine RK.M rfl ?_
 refine RK.V (op_neq rfl rfl) ?_
 refine RK.As rfl ?_
 refine RK.D ?_
 refine AWp_ret ?_
 refine ends_one rfl (.inr rfl) (res_tmp rfl) ?_ O_ends
 exact Sub.of_eq (by simp)
/- cmp.Compare[int] -/
set_option maxHeartbeats 1000000 in
set_option maxRecDepth 100000 in
theorem compare_int (a b : Int) :
  Call0 Tryz.prog 15 [.p (.c (.v (.int .i64 a))), .p (.c (.v (.int .i64 b)))] (Z (cmpI a b)) := by
 refine callM_of (np := 0) Tryz.func15 (by kernel_rfl) rfl rfl (Nat.le_of_ble_eq_true rfl) (fun m h => absurd rfl h) (fun m h => absurd rfl h) rfl ?_
 refine AWp_sr hP ?_
 refine RK.As rfl ?_
 refine RK.D ?_
 refine AWp_sr hP ?_
 refine RK.M rfl ?_
 refine RK.V (Eff.call0 (isNaN_int _)) ?_
 refine RK.As rfl ?_
 refine RK.D ?_
 refine AWp_sr hP ?_
 refine RK.M rfl ?_
 refine RK.V (Eff.call0 (isNaN_int _)) ?_
 refine RK.As rfl ?_
 refine RK.D ?_
 refine AWp_seq ?_
 refine AWp_sr hP ?_
 refine RK.M rfl ?_
 refine RK.D ?_
 refine AWp_cond_false rfl rfl ?_
 refine AWp_skip ?_
 refine AWp_seq ?_
 refine AWp_sr hP ?_
 refine RK.M rfl ?_
 refine RK.D ?_
 refine AWp_cond_false rfl rfl ?_
 refine AWp_skip ?_
 refine AWp_seq ?_
 refine AWp_sr hP ?_
 refine RK.M rfl ?_
 refine RK.M rfl ?_
 refine RK.V (op_lss rfl rfl) ?_
 refine RK.D ?_
 refine AWp_cond rfl (fun hb1 => ?_) (fun hb1 => ?_)
 ·have hb1_ := of_decide_eq_true hb1
  refine AWp_sr hP ?_
  refine RK.As rfl ?_
  refine RK.D ?_
  refine AWp_ret ?_
  refine ends_one rfl (.inr rfl) (res_tmp rfl) ?_ O_ends
  exact Sub.of_eq (by unfold cmpI; rw [if_pos (by omega)])
 ·have hb1_ := of_decide_eq_false hb1
  refine AWp_skip ?_
  refine AWp_seq ?_
  refine AWp_sr hP ?_
  refine RK.M rfl ?_
  refine RK.M rfl ?_
  refine RK.V (op_gtr rfl rfl) ?_
  refine RK.D ?_
  refine AWp_cond rfl (fun hb2 => ?_) (fun hb2 => ?_)
  ·have hb2_ := of_decide_eq_true hb2
   refine AWp_sr hP ?_
   refine RK.As rfl ?_
   refine RK.D ?_
   refine AWp_ret ?_
   refine ends_one rfl (.inr rfl) (res_tmp rfl) ?_ O_ends
   exact Sub.of_eq (by unfold cmpI; rw [if_neg (by omega), if_pos (by omega)])
  ·have hb2_ := of_decide_eq_false hb2
   refine AWp_skip ?_
   refine AWp_sr hP ?_
   refine RK.As rfl ?_
   refine RK.D ?_
   refine AWp_ret ?_
   refine ends_one rfl (.inr rfl) (res_tmp rfl) ?_ O_ends
   exact Sub.of_eq (by unfold cmpI; rw [if_neg (by omega), if_neg (by omega)])
/- cmp.Compare[uint32] -/
set_option maxHeartbeats 1000000 in
set_option maxRecDepth 100000 in
theorem compare_u32 (a b : Int) :
  Call0 Tryz.prog 52 [.p (.c (.v (.int .u32 a))), .p (.c (.v (.int .u32 b)))] (Z (cmpI a b)) := by
 refine callM_of (np := 0) Tryz.func52 (by kernel_rfl) rfl rfl (Nat.le_of_ble_eq_true rfl) (fun m h => absurd rfl h) (fun m h => absurd rfl h) rfl ?_
 refine AWp_sr hP ?_
 refine RK.As rfl ?_
 refine RK.D ?_
 refine AWp_sr hP ?_
 refine RK.M rfl ?_
 refine RK.V (Eff.call0 (isNaN_u32 _)) ?_
 refine RK.As rfl ?_
 refine RK.D ?_
 refine AWp_sr hP ?_
 refine RK.M rfl ?_
 refine RK.V (Eff.call0 (isNaN_u32 _)) ?_
 refine RK.As rfl ?_
 refine RK.D ?_
 refine AWp_seq ?_
 refine AWp_sr hP ?_
 refine RK.M rfl ?_
 refine RK.D ?_
 refine AWp_cond_false rfl rfl ?_
 refine AWp_skip ?_
 refine AWp_seq ?_
 refine AWp_sr hP ?_
 refine RK.M rfl ?_
 refine RK.D ?_
 refine AWp_cond_false rfl rfl ?_
 refine AWp_skip ?_
 refine AWp_seq ?_
 refine AWp_sr hP ?_
 refine RK.M rfl ?_
 refine RK.M rfl ?_
 refine RK.V (op_lss rfl rfl) ?_
 refine RK.D ?_
 refine AWp_cond rfl (fun hb1 => ?_) (fun hb1 => ?_)
 ·have hb1_ := of_decide_eq_true hb1
  refine AWp_sr hP ?_
  refine RK.As rfl ?_
  refine RK.D ?_
  refine AWp_ret ?_
  refine ends_one rfl (.inr rfl) (res_tmp rfl) ?_ O_ends
  exact Sub.of_eq (by unfold cmpI; rw [if_pos (by omega)])
 ·have hb1_ := of_decide_eq_false hb1
  refine AWp_skip ?_
  refine AWp_seq ?_
  refine AWp_sr hP ?_
  refine RK.M rfl ?_
  refine RK.M rfl ?_
  refine RK.V (op_gtr rfl rfl) ?_
  refine RK.D ?_
  refine AWp_cond rfl (fun hb2 => ?_) (fun hb2 => ?_)
  ·have hb2_ := of_decide_eq_true hb2
   refine AWp_sr hP ?_
   refine RK.As rfl ?_
   refine RK.D ?_
   refine AWp_ret ?_
   refine ends_one rfl (.inr rfl) (res_tmp rfl) ?_ O_ends
   exact Sub.of_eq (by unfold cmpI; rw [if_neg (by omega), if_pos (by omega)])
  ·have hb2_ := of_decide_eq_false hb2
   refine AWp_skip ?_
   refine AWp_sr hP ?_
   refine RK.As rfl ?_
   refine RK.D ?_
   refine AWp_ret ?_
   refine ends_one rfl (.inr rfl) (res_tmp rfl) ?_ O_ends
   exact Sub.of_eq (by unfold cmpI; rw [if_neg (by omega), if_neg (by omega)])
/- cmp.Or[int] -/
set_option maxHeartbeats 1000000 in
set_option maxRecDepth 100000 in
theorem or_int (a b : Int) :
  Call0 Tryz.prog 18 [.p (.c (.sl 2 [.v (.int .i64 a), .v (.int .i64 b)]))] (Z (if a = 0 then b else a)) := by
 refine callM_of (np := 0) Tryz.func18 (by kernel_rfl) rfl rfl (Nat.le_of_ble_eq_true rfl) (fun m h => absurd rfl h) (fun m h => absurd rfl h) rfl ?_
 refine AWp_sr hP ?_
 refine RK.As rfl ?_
 refine RK.D ?_
 refine AWp_sr hP ?_
 refine RK.As rfl ?_
 refine RK.D ?_
 refine AWp_seq ?_
 refine AWp_sr hP ?_
 refine RK.M rfl ?_
 refine RK.V (op_len hT rfl rfl rfl rfl) ?_
 refine RK.M rfl ?_
 refine RK.D ?_
 refine AWp_block ?_
 refine AWp_unroll 3 ?_
 refine AWp_sr hP ?_
 refine RK.V (op_lss rfl rfl) ?_
 refine RK.D ?_
 refine AWp_seq ?_
 refine AWp_cond_true rfl (by decide) ?_
 refine AWp_skip ?_
 refine AWp_seq ?_
 refine AWp_block ?_
 refine AWp_sr hP ?_
 refine RK.V (by first | exact op_index_WN hT rfl rfl rfl rfl rfl rfl (by omega) | exact op_index_sl hT rfl rfl rfl rfl rfl rfl (by omega) (by first | exact W_ne (by omega) | simp)) ?_
 refine RK.V (op_load_ip_one hT rfl rfl rfl (by first | rfl | exact wget (by omega))) ?_
 refine RK.As rfl ?_
 refine RK.D ?_
 refine AWp_sr hP ?_
 refine RK.M rfl ?_
 refine RK.M rfl ?_
 refine RK.V (op_neq rfl rfl) ?_
 refine RK.D ?_
 refine AWp_cond rfl (fun hb1 => ?_) (fun hb1 => ?_)
 ·have hb1_ := bneT hb1
  refine AWp_sr hP ?_
  refine RK.M rfl ?_
  refine RK.As rfl ?_
  refine RK.D ?_
  refine AWp_ret ?_
  refine ends_one rfl (.inr rfl) (res_tmp rfl) ?_ O_ends
  exact Sub.of_eq (by rw [if_neg hb1_])
 ·have hb1_ := bneF hb1
  refine AWp_skip ?_
  refine AWp_region hP ?_
  refine RK.V (op_add rfl rfl (by first | exact IntWalk.i64_in _ (by omega) | rfl)) ?_
  refine RK.M rfl ?_
  refine RK.D ?_
  refine AWp_sr hP ?_
  refine RK.V (op_lss rfl rfl) ?_
  refine RK.D ?_
  refine AWp_seq ?_
  refine AWp_cond_true rfl (by decide) ?_
  refine AWp_skip ?_
  refine AWp_seq ?_
  refine AWp_block ?_
  refine AWp_sr hP ?_
  refine RK.V (by first | exact op_index_WN hT rfl rfl rfl rfl rfl rfl (by omega) | exact op_index_sl hT rfl rfl rfl rfl rfl rfl (by omega) (by first | exact W_ne (by omega) | simp)) ?_
  refine RK.V (op_load_ip_one hT rfl rfl rfl (by first | rfl | exact wget (by omega))) ?_
  refine RK.As rfl ?_
  refine RK.D ?_
  refine AWp_sr hP ?_
  refine RK.M rfl ?_
  refine RK.M rfl ?_
  refine RK.V (op_neq rfl rfl) ?_
  refine RK.D ?_
  refine AWp_cond rfl (fun hb2 => ?_) (fun hb2 => ?_)
  ·have hb2_ := bneT hb2
   refine AWp_sr hP ?_
   refine RK.M rfl ?_
   refine RK.As rfl ?_
   refine RK.D ?_
   refine AWp_ret ?_
   refine ends_one rfl (.inr rfl) (res_tmp rfl) ?_ O_ends
   exact Sub.of_eq (by rw [if_pos hb1_])
  ·have hb2_ := bneF hb2
   refine AWp_skip ?_
   refine AWp_region hP ?_
   refine RK.V (op_add rfl rfl (by first | exact IntWalk.i64_in _ (by omega) | rfl)) ?_
   refine RK.M rfl ?_
   refine RK.D ?_
   refine AWp_sr hP ?_
   refine RK.V (op_lss rfl rfl) ?_
   refine RK.D ?_
   refine AWp_seq ?_
   refine AWp_cond_false rfl (by decide) ?_
   refine AWp_exit ?_
   refine AWp_sr hP ?_
   refine RK.M rfl ?_
   refine RK.As rfl ?_
   refine RK.D ?_
   refine AWp_ret ?_
   refine ends_one rfl (.inr rfl) (res_tmp rfl) ?_ O_ends
   exact Sub.of_eq (by rw [if_pos hb1_, hb2_])
/- math/bits.Add32 -/
set_option maxHeartbeats 1000000 in
set_option maxRecDepth 100000 in
theorem add32 (x y c : Nat) (hx : x < 4294967296) (hy : y < 4294967296) (hc : c < 4294967296) :
  Call0 Tryz.prog 90 [.p (.c (w32 x)), .p (.c (w32 y)), .p (.c (w32 c))] (.t [.c (w32 ((x + y + c) % 4294967296)), .c (w32 ((x + y + c) / 4294967296))]) := by
 refine callM_of (np := 0) Tryz.func90 (by kernel_rfl) rfl rfl (Nat.le_of_ble_eq_true rfl) (fun m h => absurd rfl h) (fun m h => absurd rfl h) rfl ?_
 refine AWp_sr hP ?_
 refine RK.As rfl ?_
 refine RK.As rfl ?_
 refine RK.D ?_
 refine AWp_sr hP ?_
 refine RK.M rfl ?_
 refine RK.V (op_conv hT rfl rfl rfl rfl (by first | exact IntWalk.u64_in _ (by omega) | rfl)) ?_
 refine RK.M rfl ?_
 refine RK.V (op_conv hT rfl rfl rfl rfl (by first | exact IntWalk.u64_in _ (by omega) | rfl)) ?_
 refine RK.V (op_add rfl rfl (c := ((x + y : Nat) : Int)) (by rw [IntWalk.u64_in _ (by omega)]; omega)) ?_
 refine RK.M rfl ?_
 refine RK.V (op_conv hT rfl rfl rfl rfl (by first | exact IntWalk.u64_in _ (by omega) | rfl)) ?_
 refine RK.V (op_add rfl rfl (c := ((x + y + c : Nat) : Int)) (by rw [IntWalk.u64_in _ (by omega)]; omega)) ?_
 refine RK.As rfl ?_
 refine RK.D ?_
 refine AWp_sr hP ?_
 refine RK.M rfl ?_
 refine RK.V (op_conv hT rfl rfl rfl rfl (c := (((x + y + c) % 4294967296 : Nat) : Int)) (by rw [IntKind.wrap_u32]; omega)) ?_
 refine RK.As rfl ?_
 refine RK.D ?_
 refine AWp_sr hP ?_
 refine RK.M rfl ?_
 refine RK.V (op_shrN (j := 32) rfl rfl (by first | decide | omega)) ?_
 refine RK.V (op_conv hT rfl rfl rfl rfl (c := (((x + y + c) / 4294967296 : Nat) : Int)) (by rw [IntWalk.u32_in _ (by omega)])) ?_
 refine RK.As rfl ?_
 refine RK.D ?_
 refine AWp_ret ?_
 refine ends_two rfl (.inr rfl) (res_tmp rfl) (res_tmp rfl) ?_ O_ends
 exact .refl _
/- math/bits.Sub32 -/
set_option maxHeartbeats 1000000 in
set_option maxRecDepth 100000 in
theorem sub32 (x y c : Nat) (hx : x < 4294967296) (hy : y < 4294967296) (hc : c < 2) :
  Call0 Tryz.prog 89 [.p (.c (w32 x)), .p (.c (w32 y)), .p (.c (w32 c))] (.t [.c (w32 ((x + 8589934592 - y - c) % 4294967296)), .c (w32 (if x < y + c then 1 else 0))]) := by
 have hxy : (x ^^^ y) < 4294967296 := Nat.xor_lt_two_pow (n := 32) hx hy
 have hd : (x + 8589934592 - y - c) % 4294967296 < 4294967296 := Nat.mod_lt _ (by omega)
 have h1 : ((4294967295 - x) &&& y) < 4294967296 := Nat.lt_of_le_of_lt Nat.and_le_right hy
 have h2 : ((4294967295 - (x ^^^ y)) &&& ((x + 8589934592 - y - c) % 4294967296)) < 4294967296 := Nat.lt_of_le_of_lt Nat.and_le_right hd
 refine callM_of (np := 0) Tryz.func89 (by kernel_rfl) rfl rfl (Nat.le_of_ble_eq_true rfl) (fun m h => absurd rfl h) (fun m h => absurd rfl h) rfl ?_
 refine AWp_sr hP ?_
 refine RK.As rfl ?_
 refine RK.As rfl ?_
 refine RK.D ?_
 refine AWp_sr hP ?_
 refine RK.M rfl ?_
 refine RK.M rfl ?_
 refine RK.V (op_sub rfl rfl rfl) ?_
 refine RK.M rfl ?_
 refine RK.V (op_sub rfl rfl (c := (((x + 8589934592 - y - c) % 4294967296 : Nat) : Int)) (by simp only [IntKind.wrap_u32]; omega)) ?_
 refine RK.As rfl ?_
 refine RK.D ?_
 refine AWp_sr hP ?_
 refine RK.M rfl ?_
 refine RK.V (op_comp32 rfl (by first | assumption | omega)) ?_
 refine RK.M rfl ?_
 refine RK.V (op_andN rfl rfl rfl (by first | exact lt32 (by omega) | exact lt64 (by omega)) (by first | exact lt32 (by omega) | exact lt64 (by omega))) ?_
 refine RK.M rfl ?_
 refine RK.M rfl ?_
 refine RK.V (op_xorN rfl rfl rfl (by first | exact lt32 (by omega) | exact lt64 (by omega)) (by first | exact lt32 (by omega) | exact lt64 (by omega))) ?_
 refine RK.V (op_comp32 rfl (by first | assumption | omega)) ?_
 refine RK.M rfl ?_
 refine RK.V (op_andN rfl rfl rfl (by first | exact lt32 (by omega) | exact lt64 (by omega)) (by first | exact lt32 (by omega) | exact lt64 (by omega))) ?_
 refine RK.V (op_orN rfl rfl rfl (by first | exact lt32 (by omega) | exact lt64 (by omega)) (by first | exact lt32 (by omega) | exact lt64 (by omega))) ?_
 refine RK.V (op_shrN (j := 31) rfl rfl (by first | decide | omega)) ?_
 refine RK.As rfl ?_
 refine RK.D ?_
 refine AWp_ret ?_
 refine ends_two rfl (.inr rfl) (res_tmp rfl) (res_tmp rfl) ?_ O_ends
 exact Sub.of_eq (by rw [borrow_bit x y c hx hy hc]; rfl)
theorem len8tab : ∀ m, m < 256 → (⟨#[0, 1, 2, 2, 3, 3, 3, 3, 4, 4, 4, 4, 4, 4, 4, 4, 5, 5, 5, 5, 5, 5, 5, 5, 5, 5, 5, 5, 5, 5, 5, 5, 6, 6, 6, 6, 6, 6, 6, 6, 6, 6, 6, 6, 6, 6, 6, 6, 6, 6, 6, 6, 6, 6, 6, 6, 6, 6, 6, 6, 6, 6, 6, 6, 7, 7, 7, 7, 7, 7, 7, 7, 7, 7, 7, 7, 7, 7, 7, 7, 7, 7, 7, 7, 7, 7, 7, 7, 7, 7, 7, 7, 7, 7, 7, 7, 7, 7, 7, 7, 7, 7, 7, 7, 7, 7, 7, 7, 7, 7, 7, 7, 7, 7, 7, 7, 7, 7, 7, 7, 7, 7, 7, 7, 7, 7, 7, 7, 8, 8, 8, 8, 8, 8, 8, 8, 8, 8, 8, 8, 8, 8, 8, 8, 8, 8, 8, 8, 8, 8, 8, 8, 8, 8, 8, 8, 8, 8, 8, 8, 8, 8, 8, 8, 8, 8, 8, 8, 8, 8, 8, 8, 8, 8, 8, 8, 8, 8, 8, 8, 8, 8, 8, 8, 8, 8, 8, 8, 8, 8, 8, 8, 8, 8, 8, 8, 8, 8, 8, 8, 8, 8, 8, 8, 8, 8, 8, 8, 8, 8, 8, 8, 8, 8, 8, 8, 8, 8, 8, 8, 8, 8, 8, 8, 8, 8, 8, 8, 8, 8, 8, 8, 8, 8, 8, 8, 8, 8, 8, 8, 8, 8, 8, 8, 8, 8, 8, 8, 8, 8, 8, 8, 8, 8, 8, 8]⟩ : ByteArray)[m]? = some (UInt8.ofNat (blen m)) := by decide +kernel
theorem blen8 : ∀ m, m < 256 → (UInt8.ofNat (blen m)).toNat = blen m := by decide +kernel
theorem op_len8 {dst : Option Nat} {ty : TypeId} {pos : String} {af : Array Edge} {gd : Option (Nat × Bool)} {d : Nat} {ρ : Operand → AV} {own : Own} {x y : Operand} {m : Nat}
  (hx : ρ x = .p (.c (.v (.string ⟨#[0, 1, 2, 2, 3, 3, 3, 3, 4, 4, 4, 4, 4, 4, 4, 4, 5, 5, 5, 5, 5, 5, 5, 5, 5, 5, 5, 5, 5, 5, 5, 5, 6, 6, 6, 6, 6, 6, 6, 6, 6, 6, 6, 6, 6, 6, 6, 6, 6, 6, 6, 6, 6, 6, 6, 6, 6, 6, 6, 6, 6, 6, 6, 6, 7, 7, 7, 7, 7, 7, 7, 7, 7, 7, 7, 7, 7, 7, 7, 7, 7, 7, 7, 7, 7, 7, 7, 7, 7, 7, 7, 7, 7, 7, 7, 7, 7, 7, 7, 7, 7, 7, 7, 7, 7, 7, 7, 7, 7, 7, 7, 7, 7, 7, 7, 7, 7, 7, 7, 7, 7, 7, 7, 7, 7, 7, 7, 7, 8, 8, 8, 8, 8, 8, 8, 8, 8, 8, 8, 8, 8, 8, 8, 8, 8, 8, 8, 8, 8, 8, 8, 8, 8, 8, 8, 8, 8, 8, 8, 8, 8, 8, 8, 8, 8, 8, 8, 8, 8, 8, 8, 8, 8, 8, 8, 8, 8, 8, 8, 8, 8, 8, 8, 8, 8, 8, 8, 8, 8, 8, 8, 8, 8, 8, 8, 8, 8, 8, 8, 8, 8, 8, 8, 8, 8, 8, 8, 8, 8, 8, 8, 8, 8, 8, 8, 8, 8, 8, 8, 8, 8, 8, 8, 8, 8, 8, 8, 8, 8, 8, 8, 8, 8, 8, 8, 8, 8, 8, 8, 8, 8, 8, 8, 8, 8, 8, 8, 8, 8, 8, 8, 8, 8, 8, 8, 8]⟩)))) (hy : ρ y = .p (.c (.v (.int .u8 m)))) (hm : m < 256) : Eff Tryz.prog ⟨dst, .index 9 x y, ty, pos, af, gd⟩ d ρ own (.p (.c (.v (.int .u8 (blen m : Nat))))) [] none [] := by
 have h := op_index_str (P := Tryz.prog) (dst := dst) (ty := ty) (pos := pos) (af := af) (gd := gd) (d := d) (own := own) hT (T := 9) rfl rfl hx hy (by omega) (by rw [Int.toNat_natCast]; exact len8tab m hm)
 rw [blen8 m hm] at h
 exact h
/- math/bits.Len32 -/
set_option maxHeartbeats 1000000 in
set_option maxRecDepth 100000 in
theorem len32 (x : Nat) (hx : x < 4294967296) :
  Call0 Tryz.prog 111 [.p (.c (w32 x))] (Z (blen x)) := by
 refine callM_of (np := 0) Tryz.func111 (by kernel_rfl) rfl rfl (Nat.le_of_ble_eq_true rfl) (fun m h => absurd rfl h) (fun m h => absurd rfl h) rfl ?_
 refine AWp_sr hP ?_
 refine RK.As rfl ?_
 refine RK.D ?_
 refine AWp_seq ?_
 refine AWp_sr hP ?_
 refine RK.M rfl ?_
 refine RK.V (op_geq rfl rfl) ?_
 refine RK.D ?_
 refine AWp_cond rfl (fun hb1 => ?_) (fun hb1 => ?_)
 ·have hb1_ := of_decide_eq_true hb1
  refine AWp_sr hP ?_
  refine RK.M rfl ?_
  refine RK.V (op_shrN (j := 16) rfl rfl (by first | decide | omega)) ?_
  refine RK.As rfl ?_
  refine RK.D ?_
  refine AWp_region hP ?_
  refine RK.As rfl ?_
  refine RK.D ?_
  refine AWp_seq ?_
  refine AWp_sr hP ?_
  refine RK.M rfl ?_
  refine RK.V (op_geq rfl rfl) ?_
  refine RK.D ?_
  refine AWp_cond rfl (fun hb2 => ?_) (fun hb2 => ?_)
  ·have hb2_ := of_decide_eq_true hb2
   refine AWp_sr hP ?_
   refine RK.M rfl ?_
   refine RK.V (op_shrN (j := 8) rfl rfl (by first | decide | omega)) ?_
   refine RK.As rfl ?_
   refine RK.D ?_
   refine AWp_region hP ?_
   refine RK.M rfl ?_
   refine RK.V (op_add rfl rfl (by first | exact IntWalk.i64_in _ (by omega) | rfl)) ?_
   refine RK.As rfl ?_
   refine RK.D ?_
   refine AWp_sr hP ?_
   refine RK.M rfl ?_
   refine RK.M rfl ?_
   refine RK.V (op_conv hT rfl rfl rfl rfl (IntWalk.u8_in _ (by omega))) ?_
   refine RK.V (op_len8 rfl rfl (by omega)) ?_
   refine RK.V (op_conv hT rfl rfl rfl rfl (IntWalk.i64_in _ (by first | (have h8 := blen8_le (m := x / 2 ^ 16 / 2 ^ 8) (by omega); omega) | (have h8 := blen8_le (m := x / 2 ^ 16) (by omega); omega) | (have h8 := blen8_le (m := x / 2 ^ 8) (by omega); omega) | (have h8 := blen8_le (m := x) (by omega); omega)))) ?_
   refine RK.V (op_add rfl rfl (IntWalk.i64_in _ (by first | (have h8 := blen8_le (m := x / 2 ^ 16 / 2 ^ 8) (by omega); omega) | (have h8 := blen8_le (m := x / 2 ^ 16) (by omega); omega) | (have h8 := blen8_le (m := x / 2 ^ 8) (by omega); omega) | (have h8 := blen8_le (m := x) (by omega); omega)))) ?_
   refine RK.As rfl ?_
   refine RK.D ?_
   refine AWp_ret ?_
   refine ends_one rfl (.inr rfl) (res_tmp rfl) ?_ O_ends
   have e : blen x = 16 + (8 + blen (x / 2 ^ 16 / 2 ^ 8)) := by rw [blen_div (k := 16) (by omega), blen_div (n := x / 2 ^ 16) (k := 8) (by omega)]
   exact Sub.int (by omega)
  ·have hb2_ := of_decide_eq_false hb2
   refine AWp_skip ?_
   refine AWp_sr hP ?_
   refine RK.M rfl ?_
   refine RK.M rfl ?_
   refine RK.V (op_conv hT rfl rfl rfl rfl (IntWalk.u8_in _ (by omega))) ?_
   refine RK.V (op_len8 rfl rfl (by omega)) ?_
   refine RK.V (op_conv hT rfl rfl rfl rfl (IntWalk.i64_in _ (by first | (have h8 := blen8_le (m := x / 2 ^ 16 / 2 ^ 8) (by omega); omega) | (have h8 := blen8_le (m := x / 2 ^ 16) (by omega); omega) | (have h8 := blen8_le (m := x / 2 ^ 8) (by omega); omega) | (have h8 := blen8_le (m := x) (by omega); omega)))) ?_
   refine RK.V (op_add rfl rfl (IntWalk.i64_in _ (by first | (have h8 := blen8_le (m := x / 2 ^ 16 / 2 ^ 8) (by omega); omega) | (have h8 := blen8_le (m := x / 2 ^ 16) (by omega); omega) | (have h8 := blen8_le (m := x / 2 ^ 8) (by omega); omega) | (have h8 := blen8_le (m := x) (by omega); omega)))) ?_
   refine RK.As rfl ?_
   refine RK.D ?_
   refine AWp_ret ?_
   refine ends_one rfl (.inr rfl) (res_tmp rfl) ?_ O_ends
   have e : blen x = 16 + blen (x / 2 ^ 16) := by rw [blen_div (k := 16) (by omega)]
   exact Sub.int (by omega)
 ·have hb1_ := of_decide_eq_false hb1
  refine AWp_skip ?_
  refine AWp_seq ?_
  refine AWp_sr hP ?_
  refine RK.M rfl ?_
  refine RK.V (op_geq rfl rfl) ?_
  refine RK.D ?_
  refine AWp_cond rfl (fun hb3 => ?_) (fun hb3 => ?_)
  ·have hb3_ := of_decide_eq_true hb3
   refine AWp_sr hP ?_
   refine RK.M rfl ?_
   refine RK.V (op_shrN (j := 8) rfl rfl (by first | decide | omega)) ?_
   refine RK.As rfl ?_
   refine RK.D ?_
   refine AWp_region hP ?_
   refine RK.M rfl ?_
   refine RK.V (op_add rfl rfl (by first | exact IntWalk.i64_in _ (by omega) | rfl)) ?_
   refine RK.As rfl ?_
   refine RK.D ?_
   refine AWp_sr hP ?_
   refine RK.M rfl ?_
   refine RK.M rfl ?_
   refine RK.V (op_conv hT rfl rfl rfl rfl (IntWalk.u8_in _ (by omega))) ?_
   refine RK.V (op_len8 rfl rfl (by omega)) ?_
   refine RK.V (op_conv hT rfl rfl rfl rfl (IntWalk.i64_in _ (by first | (have h8 := blen8_le (m := x / 2 ^ 16 / 2 ^ 8) (by omega); omega) | (have h8 := blen8_le (m := x / 2 ^ 16) (by omega); omega) | (have h8 := blen8_le (m := x / 2 ^ 8) (by omega); omega) | (have h8 := blen8_le (m := x) (by omega); omega)))) ?_
   refine RK.V (op_add rfl rfl (IntWalk.i64_in _ (by first | (have h8 := blen8_le (m := x / 2 ^ 16 / 2 ^ 8) (by omega); omega) | (have h8 := blen8_le (m := x / 2 ^ 16) (by omega); omega) | (have h8 := blen8_le (m := x / 2 ^ 8) (by omega); omega) | (have h8 := blen8_le (m := x) (by omega); omega)))) ?_
   refine RK.As rfl ?_
   refine RK.D ?_
   refine AWp_ret ?_
   refine ends_one rfl (.inr rfl) (res_tmp rfl) ?_ O_ends
   have e : blen x = 8 + blen (x / 2 ^ 8) := by rw [blen_div (k := 8) (by omega)]
   exact Sub.int (by omega)
  ·have hb3_ := of_decide_eq_false hb3
   refine AWp_skip ?_
   refine AWp_sr hP ?_
   refine RK.M rfl ?_
   refine RK.M rfl ?_
   refine RK.V (op_conv hT rfl rfl rfl rfl (IntWalk.u8_in _ (by omega))) ?_
   refine RK.V (op_len8 rfl rfl (by omega)) ?_
   refine RK.V (op_conv hT rfl rfl rfl rfl (IntWalk.i64_in _ (by first | (have h8 := blen8_le (m := x / 2 ^ 16 / 2 ^ 8) (by omega); omega) | (have h8 := blen8_le (m := x / 2 ^ 16) (by omega); omega) | (have h8 := blen8_le (m := x / 2 ^ 8) (by omega); omega) | (have h8 := blen8_le (m := x) (by omega); omega)))) ?_
   refine RK.V (op_add rfl rfl (IntWalk.i64_in _ (by first | (have h8 := blen8_le (m := x / 2 ^ 16 / 2 ^ 8) (by omega); omega) | (have h8 := blen8_le (m := x / 2 ^ 16) (by omega); omega) | (have h8 := blen8_le (m := x / 2 ^ 8) (by omega); omega) | (have h8 := blen8_le (m := x) (by omega); omega)))) ?_
   refine RK.As rfl ?_
   refine RK.D ?_
   refine AWp_ret ?_
   refine ends_one rfl (.inr rfl) (res_tmp rfl) ?_ O_ends
   exact Sub.int (by omega)
/- math/bits.LeadingZeros32 -/
set_option maxHeartbeats 1000000 in
set_option maxRecDepth 100000 in
theorem lz32 (x : Nat) (hx : x < 4294967296) :
  Call0 Tryz.prog 87 [.p (.c (w32 x))] (Z (32 - (blen x : Nat))) := by
 have hb := blen_le (k := 32) hx
 refine callM_of (np := 0) Tryz.func87 (by kernel_rfl) rfl rfl (Nat.le_of_ble_eq_true rfl) (fun m h => absurd rfl h) (fun m h => absurd rfl h) rfl ?_
 refine AWp_sr hP ?_
 refine RK.As rfl ?_
 refine RK.D ?_
 refine AWp_sr hP ?_
 refine RK.M rfl ?_
 refine RK.V (Eff.call0 (len32 _ (by assumption))) ?_
 refine RK.V (op_sub rfl rfl (by first | exact IntWalk.i64_in _ (by omega) | rfl)) ?_
 refine RK.As rfl ?_
 refine RK.D ?_
 refine AWp_ret ?_
 refine ends_one rfl (.inr rfl) (res_tmp rfl) ?_ O_ends
 exact .refl _
/- math/bits.Div32 -/
set_option maxHeartbeats 1000000 in
set_option maxRecDepth 100000 in
theorem div32 (hi lo y : Nat) (hy : y < 4294967296) (hh : hi < y) (hl : lo < 4294967296) :
  Call0 Tryz.prog 128 [.p (.c (w32 hi)), .p (.c (w32 lo)), .p (.c (w32 y))] (.t [.c (w32 ((hi * 4294967296 + lo) / y)), .c (w32 ((hi * 4294967296 + lo) % y))]) := by
 have hq : (hi * 4294967296 + lo) / y < 4294967296 := (Nat.div_lt_iff_lt_mul (by omega)).2 (by have : (hi + 1) * 4294967296 ≤ y * 4294967296 := Nat.mul_le_mul_right _ hh; omega)
 have hr : (hi * 4294967296 + lo) % y < y := Nat.mod_lt _ (by omega)
 refine callM_of (np := 0) Tryz.func128 (by kernel_rfl) rfl rfl (Nat.le_of_ble_eq_true rfl) (fun m h => absurd rfl h) (fun m h => absurd rfl h) rfl ?_
 refine AWp_sr hP ?_
 refine RK.As rfl ?_
 refine RK.As rfl ?_
 refine RK.D ?_
 refine AWp_seq ?_
 refine AWp_sr hP ?_
 refine RK.M rfl ?_
 refine RK.V (op_neq rfl rfl) ?_
 refine RK.M rfl ?_
 refine RK.val (guard_yes rfl rfl (bne_iff_ne.2 (by omega))) (op_move (rfl : _ = AV.p (.c _))) ?_
 refine RK.val (guard_yes rfl rfl (bne_iff_ne.2 (by omega))) (op_move (rfl : _ = AV.p (.c _))) ?_
 refine RK.val (guard_yes rfl rfl (bne_iff_ne.2 (by omega))) (op_leq rfl rfl) ?_
 refine RK.V (op_pick_t rfl (bne_iff_ne.2 (by omega)) (rfl : _ = AV.p (.c _))) ?_
 refine RK.D ?_
 refine AWp_cond_false rfl (decide_eq_false (by omega)) ?_
 refine AWp_skip ?_
 refine AWp_sr hP ?_
 refine RK.M rfl ?_
 refine RK.V (op_conv hT rfl rfl rfl rfl (IntWalk.u64_in _ (by omega))) ?_
 refine RK.V (op_shlN (j := 32) rfl rfl (by first | decide | omega) rfl) ?_
 refine RK.M rfl ?_
 refine RK.V (op_conv hT rfl rfl rfl rfl (IntWalk.u64_in _ (by omega))) ?_
 refine RK.V (op_or rfl rfl (bits_hilo (by omega) hl)) ?_
 refine RK.As rfl ?_
 refine RK.D ?_
 refine AWp_sr hP ?_
 refine RK.M rfl ?_
 refine RK.M rfl ?_
 refine RK.V (op_conv hT rfl rfl rfl rfl (IntWalk.u64_in _ (by omega))) ?_
 refine RK.V (op_quo rfl rfl (by omega) (c := (((hi * 4294967296 + lo) / y : Nat) : Int)) (by rw [Int.tdiv_eq_ediv_of_nonneg (by omega), ← Int.natCast_ediv, u64N (by omega)])) ?_
 refine RK.V (op_conv hT rfl rfl rfl rfl (u32N (by omega))) ?_
 refine RK.M rfl ?_
 refine RK.M rfl ?_
 refine RK.V (op_conv hT rfl rfl rfl rfl (IntWalk.u64_in _ (by omega))) ?_
 refine RK.V (op_rem rfl rfl (by omega) (c := (((hi * 4294967296 + lo) % y : Nat) : Int)) (by rw [Int.tmod_eq_emod_of_nonneg (by omega), ← Int.natCast_emod])) ?_
 refine RK.V (op_conv hT rfl rfl rfl rfl (u32N (by omega))) ?_
 refine RK.As rfl ?_
 refine RK.As rfl ?_
 refine RK.D ?_
 refine AWp_ret ?_
 refine ends_two rfl (.inr rfl) (res_tmp rfl) (res_tmp rfl) ?_ O_ends
 exact .refl _
end Go.Proofs.YtfdjankalhfceaaGreat
end

section
/- sizes: cmp, bits, add -/
namespace Go.Proofs.YtfdjankalhfceaaGreat
open Go Go.AM
/- (algorist/integer.nat).cmp -/
set_option maxHeartbeats 1000000 in
set_option maxRecDepth 100000 in
theorem nat_cmp (m n : Nat) :
  Call0 Tryz.prog 17 [.p (.c (nt m)), .p (.c (nt n))] (Z (cmpI m n)) := by
 refine callM_of (np := 0) Tryz.func17 (by kernel_rfl) rfl rfl (Nat.le_of_ble_eq_true rfl) (fun m h => absurd rfl h) (fun m h => absurd rfl h) rfl ?_
 refine AWp_len (t := 0) rfl rfl (fun hlen => ?_)
 refine AWp_len (t := 1) rfl rfl (fun hlen2 => ?_)
 refine AWp_sr hP ?_
 refine RK.As rfl ?_
 refine RK.D ?_
 refine AWp_seq ?_
 refine AWp_sr hP ?_
 refine RK.M rfl ?_
 refine RK.V (op_len hT rfl rfl rfl rfl) ?_
 refine RK.M rfl ?_
 refine RK.V (op_len hT rfl rfl rfl rfl) ?_
 refine RK.V (Eff.call0 (compare_int _ _)) ?_
 refine RK.As rfl ?_
 refine RK.D ?_
 refine AWp_sr hP ?_
 refine RK.M rfl ?_
 refine RK.V (op_neq rfl rfl) ?_
 refine RK.D ?_
 refine AWp_cond rfl (fun hb1 => ?_) (fun hb1 => ?_)
 ·have hb1_ := bneT hb1
  refine AWp_sr hP ?_
  refine RK.M rfl ?_
  refine RK.As rfl ?_
  refine RK.D ?_
  refine AWp_ret ?_
  refine ends_one rfl (.inr rfl) (res_tmp rfl) ?_ O_ends
  exact Sub.int (cmp_len hb1_)
 ·have hb1_ := bneF hb1
  refine AWp_skip ?_
  refine AWp_seq ?_
  refine AWp_sr hP ?_
  refine RK.M rfl ?_
  refine RK.V (op_len hT rfl rfl rfl rfl) ?_
  refine RK.V (op_sub rfl rfl (by first | exact IntWalk.i64_in _ (by omega) | rfl)) ?_
  refine RK.As rfl ?_
  refine RK.D ?_
  refine AWp_block ?_
  have hll : (wl m).length = (wl n).length := by have := cmpI_eq hb1_; omega
  refine AWp_loop (ι := Nat) (fun k => stL [(0, .p (.c (nt m))), (1, .p (.c (nt n))), (6, Z ((k : Int) - 1))] []) (fun k => k ≤ (wl m).length ∧ (wl m).drop k = (wl n).drop k) (fun k => k) (wl m).length ⟨Nat.le_refl _, by rw [List.drop_length, hll, List.drop_length]⟩ (le_stL ⟨.refl _, .refl _, .refl _, trivial⟩ trivial) ?_
  rintro k ⟨hk, he⟩
  refine AWp_seq ?_
  refine AWp_sr hP ?_
  refine RK.M rfl ?_
  refine RK.V (op_geq rfl rfl) ?_
  refine RK.D ?_
  refine AWp_cond rfl (fun hb2 => ?_) (fun hb2 => ?_)
  ·have hb2_ := of_decide_eq_true hb2
   refine AWp_skip ?_
   refine AWp_seq ?_
   refine AWp_block ?_
   refine AWp_sr hP ?_
   refine RK.M rfl ?_
   refine RK.M rfl ?_
   refine RK.V (op_index_sl hT rfl rfl rfl rfl rfl rfl (l := (wl m).length) (xs := (wl m).map w32) (by omega) (W_ne (by omega))) ?_
   refine RK.V (op_load_ip_one hT rfl rfl rfl (by first | rfl | exact wget (by omega))) ?_
   refine RK.M rfl ?_
   refine RK.M rfl ?_
   refine RK.V (op_index_sl hT rfl rfl rfl rfl rfl rfl (l := (wl n).length) (xs := (wl n).map w32) (by omega) (W_ne (by omega))) ?_
   refine RK.V (op_load_ip_one hT rfl rfl rfl (by first | rfl | exact wget (by omega))) ?_
   refine RK.V (Eff.call0 (compare_u32 _ _)) ?_
   refine RK.As rfl ?_
   refine RK.D ?_
   refine AWp_sr hP ?_
   refine RK.M rfl ?_
   refine RK.V (op_neq rfl rfl) ?_
   refine RK.D ?_
   refine AWp_cond rfl (fun hb3 => ?_) (fun hb3 => ?_)
   ·have hb3_ := bneT hb3
    refine AWp_sr hP ?_
    refine RK.M rfl ?_
    refine RK.As rfl ?_
    refine RK.D ?_
    refine AWp_ret ?_
    refine ends_one rfl (.inr rfl) (res_tmp rfl) ?_ O_ends
    have hkk : ((k : Int) - 1).toNat = k - 1 := by omega
    rw [hkk] at hb3_ ⊢
    have h2 := cmp_word (wl_ok m) (wl_ok n) hll (k := k - 1) (by omega) (by rw [show k - 1 + 1 = k by omega]; exact he) hb3_
    rw [wv_wl, wv_wl] at h2
    exact Sub.int h2
   ·have hb3_ := bneF hb3
    refine AWp_skip ?_
    refine AWp_region hP ?_
    refine RK.M rfl ?_
    refine RK.V (op_sub rfl rfl (by first | exact IntWalk.i64_in _ (by omega) | rfl)) ?_
    refine RK.As rfl ?_
    refine RK.D ?_
    have hkk : ((k : Int) - 1).toNat = k - 1 := by omega
    have he2 := cmpI_eq hb3_
    rw [hkk] at he2
    refine ⟨k - 1, ⟨by omega, ?_⟩, by omega, le_stL ⟨.refl _, .refl _, Sub.int (by omega), trivial⟩ trivial⟩
    have e1 := drop_getD (ws := wl m) (k := k - 1) (by omega)
    have e2 := drop_getD (ws := wl n) (k := k - 1) (by omega)
    rw [e1, e2, show k - 1 + 1 = k by omega, he]
    congr 1
    omega
  ·have hb2_ := of_decide_eq_false hb2
   refine AWp_exit ?_
   refine AWp_sr hP ?_
   refine RK.As rfl ?_
   refine RK.D ?_
   refine AWp_ret ?_
   refine ends_one rfl (.inr rfl) (res_tmp rfl) ?_ O_ends
   have hk0 : k = 0 := by omega
   rw [hk0, List.drop_zero, List.drop_zero] at he
   have : m = n := by rw [← wv_wl m, he, wv_wl]
   exact Sub.int (by rw [this, cmpI_self])
/- (algorist/integer.nat).add -/
set_option maxHeartbeats 1000000 in
set_option maxRecDepth 100000 in
theorem nat_add (a b : List Nat) (ha : okW a) (hb : okW b) (hla : a.length ≤ 1099511627776) (hlb : b.length ≤ 1099511627776) :
  Call0 Tryz.prog 92 [.p (.c (W a)), .p (.c (W b))] (.p (.c (nt (wv a + wv b)))) := by
 refine callM_of (np := 0) Tryz.func92 (by kernel_rfl) rfl rfl (Nat.le_of_ble_eq_true rfl) (fun m h => absurd rfl h) (fun m h => absurd rfl h) rfl ?_
 refine AWp_sr hP ?_
 refine RK.As rfl ?_
 refine RK.D ?_
 refine AWp_seq_cut (ι := List Nat × List Nat) (fun ⟨p, q⟩ => stL [(0, .p (.c (W p))), (1, .p (.c (W q)))] []) (fun ⟨p, q⟩ => okW p ∧ okW q ∧ q.length ≤ p.length ∧ p.length ≤ 1099511627776 ∧ wv p + wv q = wv a + wv b) ?_ ?_
 ·refine AWp_sr hP ?_
  refine RK.M rfl ?_
  refine RK.V (op_len hT rfl rfl rfl rfl) ?_
  refine RK.M rfl ?_
  refine RK.V (op_len hT rfl rfl rfl rfl) ?_
  refine RK.V (op_lss rfl rfl) ?_
  refine RK.D ?_
  refine AWp_cond rfl (fun hb1 => ?_) (fun hb1 => ?_)
  ·have hb1_ := of_decide_eq_true hb1
   refine AWp_region hP ?_
   refine RK.M rfl ?_
   refine RK.M rfl ?_
   refine RK.As rfl ?_
   refine RK.As rfl ?_
   refine RK.D ?_
   exact ⟨(b, a), ⟨hb, ha, by omega, hlb, Nat.add_comm _ _⟩, le_stL ⟨.refl _, .refl _, trivial⟩ trivial⟩
  ·have hb1_ := of_decide_eq_false hb1
   refine AWp_skip ?_
   exact ⟨(a, b), ⟨ha, hb, by omega, hla, rfl⟩, le_stL ⟨.refl _, .refl _, trivial⟩ trivial⟩
 clear hla hlb
 generalize hS : wv a + wv b = S
 clear ha hb
 rintro ⟨a, b⟩ ⟨ha, hb, hl, hla, hs⟩
 refine AWp_sr hP ?_
 refine RK.M rfl ?_
 refine RK.V (op_len hT rfl rfl rfl rfl) ?_
 refine RK.V (op_add rfl rfl (by first | exact IntWalk.i64_in _ (by omega) | rfl)) ?_
 refine RK.alc guard_none (op_makeW hT rfl rfl rfl rfl rfl rfl rfl rfl (by omega)) ?_
 refine RK.V (op_assign (rfl : _ = AV.vec _)) ?_
 refine RK.D ?_
 refine AWp_sr hP ?_
 refine RK.V (op_move (rfl : _ = AV.vec _)) ?_
 refine RK.M rfl ?_
 refine RK.mut guard_none (op_copyWv hT rfl rfl rfl rfl rfl rfl rfl (by simp) (ws' := a ++ [0]) (by rw [rep_tail])) ?_
 refine RK.D ?_
 refine AWp_sr hP ?_
 refine RK.As rfl ?_
 refine RK.D ?_
 refine AWp_seq ?_
 refine AWp_sr hP ?_
 refine RK.V (op_move (rfl : _ = AV.vec _)) ?_
 refine RK.V (op_len_vecW hT rfl rfl rfl rfl) ?_
 refine RK.M rfl ?_
 refine RK.D ?_
 refine AWp_block ?_
 have hA : okW (a ++ [0]) := ha.snoc (by omega)
 refine AWp_loop (ι := List Nat × Nat) (fun ⟨l, c⟩ => stL [(1, .p (.c (W b))), (5, .vec 19), (6, .p (.c (w32 c))), (24, Z (((a ++ [0]).length : Nat) : Int)), (25, Z ((l.length : Nat) : Int))] [(19, WB 52 (l ++ (a ++ [0]).drop l.length))]) (fun ⟨l, c⟩ => l.length ≤ (a ++ [0]).length ∧ okW l ∧ c < 2 ∧ wv l + 4294967296 ^ l.length * c = wv ((a ++ [0]).take l.length) + wv (b.take l.length)) (fun ⟨l, _⟩ => (a ++ [0]).length - l.length) ([], 0) ⟨Nat.zero_le _, okW.nil, by omega, by simp [wv]⟩ (le_stL ⟨.refl _, .refl _, .refl _, .refl _, .refl _, trivial⟩ ⟨rfl, trivial⟩) ?_
 rintro ⟨l, c⟩ ⟨hll, hol, hc, hv⟩
 have hmid := mid_len hll
 have hAlen : (a ++ [0]).length = a.length + 1 := by simp
 refine AWp_sr hP ?_
 refine RK.V (op_lss rfl rfl) ?_
 refine RK.D ?_
 refine AWp_seq ?_
 refine AWp_cond rfl (fun hb2 => ?_) (fun hb2 => ?_)
 ·have hb2_ := of_decide_eq_true hb2
  have hlt : l.length < (a ++ [0]).length := by omega
  refine AWp_skip ?_
  refine AWp_seq ?_
  refine AWp_block ?_
  refine AWp_sr hP ?_
  refine RK.M rfl ?_
  refine RK.As rfl ?_
  refine RK.D ?_
  refine AWp_sr hP ?_
  refine RK.As rfl ?_
  refine RK.D ?_
  refine AWp_seq_cut (ι := Unit) (fun _ => stL [(1, .p (.c (W b))), (5, .vec 19), (6, .p (.c (w32 c))), (24, Z (((a ++ [0]).length : Nat) : Int)), (25, Z ((l.length : Nat) : Int)), (7, Z ((l.length : Nat) : Int)), (8, .p (.c (w32 (b.getD l.length 0))))] [(19, WB 52 (l ++ (a ++ [0]).drop l.length))]) (fun _ => True) ?_ ?_
  ·refine AWp_sr hP ?_
   refine RK.M rfl ?_
   refine RK.M rfl ?_
   refine RK.V (op_len hT rfl rfl rfl rfl) ?_
   refine RK.V (op_lss rfl rfl) ?_
   refine RK.D ?_
   refine AWp_cond rfl (fun hb3 => ?_) (fun hb3 => ?_)
   ·have hb3_ := of_decide_eq_true hb3
    refine AWp_region hP ?_
    refine RK.M rfl ?_
    refine RK.M rfl ?_
    refine RK.V (by first | exact op_index_WN hT rfl rfl rfl rfl rfl rfl (by omega) | exact op_index_sl hT rfl rfl rfl rfl rfl rfl (by omega) (by first | exact W_ne (by omega) | simp)) ?_
    refine RK.V (op_load_ip_one hT rfl rfl rfl (by first | rfl | exact wget (by omega))) ?_
    refine RK.As rfl ?_
    refine RK.D ?_
    exact ⟨(), trivial, le_stL ⟨.refl _, .refl _, .refl _, .refl _, .refl _, .refl _, .refl _, trivial⟩ ⟨rfl, trivial⟩⟩
   ·have hb3_ := of_decide_eq_false hb3
    refine AWp_skip ?_
    exact ⟨(), trivial, le_stL ⟨.refl _, .refl _, .refl _, .refl _, .refl _, .refl _, Sub.of_eq (by rw [getD_ge (by omega)]; rfl), trivial⟩ ⟨rfl, trivial⟩⟩
  rintro _ -
  refine AWp_region hP ?_
  refine RK.V (op_move (rfl : _ = AV.vec _)) ?_
  refine RK.M rfl ?_
  refine RK.V (op_move (rfl : _ = AV.vec _)) ?_
  refine RK.M rfl ?_
  refine RK.V (by first | exact op_index_vecWN hT rfl rfl rfl rfl rfl rfl rfl (by first | omega | (simp; omega)) | exact op_index_vecW hT rfl rfl rfl rfl rfl rfl rfl (by first | omega | (simp; omega))) ?_
  refine RK.V (op_loadWv hT rfl rfl rfl rfl (by first | omega | (simp; omega)) (mid_get hlt)) ?_
  refine RK.M rfl ?_
  refine RK.M rfl ?_
  refine RK.V (Eff.call0 (add32 _ _ _ (hA.getD _) (hb.getD _) (by omega))) ?_
  refine RK.V (op_move (rfl : _ = AV.t _)) ?_
  refine RK.V (op_extract rfl (v := .c _) rfl) ?_
  refine RK.V (op_extract rfl (v := .c _) rfl) ?_
  refine RK.V (by first | exact op_index_vecWN hT rfl rfl rfl rfl rfl rfl rfl (by first | omega | (simp; omega)) | exact op_index_vecW hT rfl rfl rfl rfl rfl rfl rfl (by first | omega | (simp; omega))) ?_
  refine RK.sto guard_none (op_storeWv hT rfl rfl rfl rfl rfl (by first | omega | (simp; omega)) (mid_set hlt)) ?_
  refine RK.As rfl ?_
  refine RK.D ?_
  refine AWp_region hP ?_
  refine RK.V (op_add rfl rfl (by first | exact IntWalk.i64_in _ (by omega) | rfl)) ?_
  refine RK.M rfl ?_
  refine RK.D ?_
  have hs1 := hA.getD l.length
  have hs2 := hb.getD l.length
  have hr := add_round (A := (a ++ [0])) (b := b) (_r := []) hlt rfl hv _ rfl
  refine ⟨(l ++ [((a ++ [0]).getD l.length 0 + b.getD l.length 0 + c) % 4294967296], ((a ++ [0]).getD l.length 0 + b.getD l.length 0 + c) / 4294967296), ⟨by simp; omega, hol.snoc (Nat.mod_lt _ (by omega)), by omega, by simpa using hr⟩, by simp; omega, le_stL ⟨.refl _, .refl _, .refl _, .refl _, Sub.int (by simp), trivial⟩ ⟨rfl, trivial⟩⟩
 ·have hb2_ := of_decide_eq_false hb2
  have hge : l.length = (a ++ [0]).length := by omega
  have hfin := hol.app (hA.drop l.length)
  have hval := add_final hge hl ha hb hol hv
  refine AWp_exit ?_
  refine AWp_freezeW (t := 5) rfl rfl ?_
  refine AWp_sr hP ?_
  refine RK.M rfl ?_
  refine RK.V (Eff.call0 (nat_trim _ hfin)) ?_
  refine RK.As rfl ?_
  refine RK.D ?_
  refine AWp_ret ?_
  refine ends_one rfl (.inr rfl) (res_tmp rfl) ?_ O_ends
  exact Sub.of_eq (by rw [hval, hs])
end Go.Proofs.YtfdjankalhfceaaGreat
end

section
/- sizes: sub, mul -/
namespace Go.Proofs.YtfdjankalhfceaaGreat
open Go Go.AM
/- (algorist/integer.nat).sub -/
set_option maxHeartbeats 1000000 in
set_option maxRecDepth 100000 in
theorem nat_sub (a b : List Nat) (ha : okW a) (hb : okW b) (hla : a.length ≤ 1099511627776) (hab : b.length ≤ a.length) (hle : wv b ≤ wv a) :
  Call0 Tryz.prog 93 [.p (.c (W a)), .p (.c (W b))] (.p (.c (nt (wv a - wv b)))) := by
 refine callM_of (np := 0) Tryz.func93 (by kernel_rfl) rfl rfl (Nat.le_of_ble_eq_true rfl) (fun m h => absurd rfl h) (fun m h => absurd rfl h) rfl ?_
 have h0l : (0 : Nat) ≤ a.length := Nat.zero_le _
 refine AWp_sr hP ?_
 refine RK.As rfl ?_
 refine RK.D ?_
 refine AWp_sr hP ?_
 refine RK.M rfl ?_
 refine RK.V (op_len hT rfl rfl rfl rfl) ?_
 refine RK.alc guard_none (op_makeW hT rfl rfl rfl rfl rfl rfl rfl rfl (by omega)) ?_
 refine RK.V (op_assign (rfl : _ = AV.vec _)) ?_
 refine RK.D ?_
 refine AWp_sr hP ?_
 refine RK.V (op_move (rfl : _ = AV.vec _)) ?_
 refine RK.M rfl ?_
 refine RK.mut guard_none (op_copyWv hT rfl rfl rfl rfl rfl rfl rfl (by simp) (ws' := a) (by rw [rep_none, List.append_nil])) ?_
 refine RK.D ?_
 refine AWp_sr hP ?_
 refine RK.As rfl ?_
 refine RK.D ?_
 refine AWp_seq ?_
 refine AWp_sr hP ?_
 refine RK.V (op_move (rfl : _ = AV.vec _)) ?_
 refine RK.V (op_len_vecW hT rfl rfl rfl rfl) ?_
 refine RK.M rfl ?_
 refine RK.D ?_
 refine AWp_block ?_
 refine AWp_loop (ι := List Nat × Nat) (fun ⟨l, c⟩ => stL [(1, .p (.c (W b))), (5, .vec 11), (6, .p (.c (w32 c))), (16, Z ((a.length : Nat) : Int)), (17, Z ((l.length : Nat) : Int))] [(11, WB 52 (l ++ a.drop l.length))]) (fun ⟨l, c⟩ => l.length ≤ a.length ∧ okW l ∧ c < 2 ∧ wv l + wv (b.take l.length) = wv (a.take l.length) + 4294967296 ^ l.length * c) (fun ⟨l, _⟩ => a.length - l.length) ([], 0) ⟨Nat.zero_le _, okW.nil, by omega, by simp [wv]⟩ (le_stL ⟨.refl _, .refl _, .refl _, .refl _, .refl _, trivial⟩ ⟨rfl, trivial⟩) ?_
 rintro ⟨l, c⟩ ⟨hll, hol, hc, hv⟩
 have hmid := mid_len hll
 refine AWp_sr hP ?_
 refine RK.V (op_lss rfl rfl) ?_
 refine RK.D ?_
 refine AWp_seq ?_
 refine AWp_cond rfl (fun hb1 => ?_) (fun hb1 => ?_)
 ·have hb1_ := of_decide_eq_true hb1
  have hlt : l.length < a.length := by omega
  refine AWp_skip ?_
  refine AWp_seq ?_
  refine AWp_block ?_
  refine AWp_sr hP ?_
  refine RK.M rfl ?_
  refine RK.As rfl ?_
  refine RK.D ?_
  refine AWp_sr hP ?_
  refine RK.As rfl ?_
  refine RK.D ?_
  refine AWp_seq_cut (ι := Unit) (fun _ => stL [(1, .p (.c (W b))), (5, .vec 11), (6, .p (.c (w32 c))), (16, Z ((a.length : Nat) : Int)), (17, Z ((l.length : Nat) : Int)), (7, Z ((l.length : Nat) : Int)), (8, .p (.c (w32 (b.getD l.length 0))))] [(11, WB 52 (l ++ a.drop l.length))]) (fun _ => True) ?_ ?_
  ·refine AWp_sr hP ?_
   refine RK.M rfl ?_
   refine RK.M rfl ?_
   refine RK.V (op_len hT rfl rfl rfl rfl) ?_
   refine RK.V (op_lss rfl rfl) ?_
   refine RK.D ?_
   refine AWp_cond rfl (fun hb2 => ?_) (fun hb2 => ?_)
   ·have hb2_ := of_decide_eq_true hb2
    refine AWp_region hP ?_
    refine RK.M rfl ?_
    refine RK.M rfl ?_
    refine RK.V (by first | exact op_index_WN hT rfl rfl rfl rfl rfl rfl (by omega) | exact op_index_sl hT rfl rfl rfl rfl rfl rfl (by omega) (by first | exact W_ne (by omega) | simp)) ?_
    refine RK.V (op_load_ip_one hT rfl rfl rfl (by first | rfl | exact wget (by omega))) ?_
    refine RK.As rfl ?_
    refine RK.D ?_
    exact ⟨(), trivial, le_stL ⟨.refl _, .refl _, .refl _, .refl _, .refl _, .refl _, .refl _, trivial⟩ ⟨rfl, trivial⟩⟩
   ·have hb2_ := of_decide_eq_false hb2
    refine AWp_skip ?_
    exact ⟨(), trivial, le_stL ⟨.refl _, .refl _, .refl _, .refl _, .refl _, .refl _, Sub.of_eq (by rw [getD_ge (by omega)]; rfl), trivial⟩ ⟨rfl, trivial⟩⟩
  rintro _ -
  refine AWp_region hP ?_
  refine RK.V (op_move (rfl : _ = AV.vec _)) ?_
  refine RK.M rfl ?_
  refine RK.V (op_move (rfl : _ = AV.vec _)) ?_
  refine RK.M rfl ?_
  refine RK.V (by first | exact op_index_vecWN hT rfl rfl rfl rfl rfl rfl rfl (by first | omega | (simp; omega)) | exact op_index_vecW hT rfl rfl rfl rfl rfl rfl rfl (by first | omega | (simp; omega))) ?_
  refine RK.V (op_loadWv hT rfl rfl rfl rfl (by first | omega | (simp; omega)) (mid_get hlt)) ?_
  refine RK.M rfl ?_
  refine RK.M rfl ?_
  refine RK.V (Eff.call0 (sub32 _ _ _ (ha.getD _) (hb.getD _) hc)) ?_
  refine RK.V (op_move (rfl : _ = AV.t _)) ?_
  refine RK.V (op_extract rfl (v := .c _) rfl) ?_
  refine RK.V (op_extract rfl (v := .c _) rfl) ?_
  refine RK.V (by first | exact op_index_vecWN hT rfl rfl rfl rfl rfl rfl rfl (by first | omega | (simp; omega)) | exact op_index_vecW hT rfl rfl rfl rfl rfl rfl rfl (by first | omega | (simp; omega))) ?_
  refine RK.sto guard_none (op_storeWv hT rfl rfl rfl rfl rfl (by first | omega | (simp; omega)) (mid_set hlt)) ?_
  refine RK.As rfl ?_
  refine RK.D ?_
  refine AWp_region hP ?_
  refine RK.V (op_add rfl rfl (by first | exact IntWalk.i64_in _ (by omega) | rfl)) ?_
  refine RK.M rfl ?_
  refine RK.D ?_
  have hr := sub_round rfl hc ha hb hv
  refine ⟨(l ++ [(a.getD l.length 0 + 8589934592 - b.getD l.length 0 - c) % 4294967296], if a.getD l.length 0 < b.getD l.length 0 + c then 1 else 0), ⟨by simp; omega, hol.snoc (Nat.mod_lt _ (by omega)), by split <;> omega, by simpa using hr⟩, by simp; omega, le_stL ⟨.refl _, .refl _, .refl _, .refl _, Sub.int (by simp), trivial⟩ ⟨rfl, trivial⟩⟩
 ·have hb1_ := of_decide_eq_false hb1
  have hge : l.length = a.length := by omega
  have hfin := hol.app (ha.drop l.length)
  have hval := sub_final hge hab hle hol hv
  refine AWp_exit ?_
  refine AWp_freezeW (t := 5) rfl rfl ?_
  refine AWp_sr hP ?_
  refine RK.M rfl ?_
  refine RK.V (Eff.call0 (nat_trim _ hfin)) ?_
  refine RK.As rfl ?_
  refine RK.D ?_
  refine AWp_ret ?_
  refine ends_one rfl (.inr rfl) (res_tmp rfl) ?_ O_ends
  exact Sub.of_eq (by rw [hval])
/- (algorist/integer.nat).mul -/
set_option maxHeartbeats 1000000 in
set_option maxRecDepth 100000 in
theorem nat_mul (a b : List Nat) (ha : okW a) (hb : okW b) (hla : a.length ≤ 1099511627776) (hlb : b.length ≤ 1099511627776) :
  Call0 Tryz.prog 69 [.p (.c (W a)), .p (.c (W b))] (.p (.c (nt (wv a * wv b)))) := by
 refine callM_of (np := 0) Tryz.func69 (by kernel_rfl) rfl rfl (Nat.le_of_ble_eq_true rfl) (fun m h => absurd rfl h) (fun m h => absurd rfl h) rfl ?_
 refine AWp_sr hP ?_
 refine RK.As rfl ?_
 refine RK.D ?_
 refine AWp_sr hP ?_
 refine RK.M rfl ?_
 refine RK.V (op_len hT rfl rfl rfl rfl) ?_
 refine RK.M rfl ?_
 refine RK.V (op_len hT rfl rfl rfl rfl) ?_
 refine RK.V (op_add rfl rfl (by first | exact IntWalk.i64_in _ (by omega) | rfl)) ?_
 refine RK.alc guard_none (op_makeW hT rfl rfl rfl rfl rfl rfl rfl rfl (by omega)) ?_
 refine RK.V (op_assign (rfl : _ = AV.vec _)) ?_
 refine RK.D ?_
 refine AWp_seq ?_
 refine AWp_sr hP ?_
 refine RK.M rfl ?_
 refine RK.V (op_len hT rfl rfl rfl rfl) ?_
 refine RK.M rfl ?_
 refine RK.D ?_
 refine AWp_block ?_
 refine AWp_loop (ι := List Nat × Nat) (fun ⟨o, i⟩ => stL [(1, .p (.c (W b))), (5, .vec 17), (18, .p (.c (W a))), (19, Z ((a.length : Nat) : Int)), (20, Z (i : Int))] [(17, WB 52 o)]) (fun ⟨o, i⟩ => i ≤ a.length ∧ o.length = a.length + b.length ∧ okW o ∧ wv o = wv (a.take i) * wv b ∧ ∀ j, i + b.length ≤ j → o.getD j 0 = 0) (fun ⟨_, i⟩ => a.length - i) (List.replicate ((a.length : Int) + (b.length : Int)).toNat 0, 0) ⟨Nat.zero_le _, by simp; omega, okW.rep _, by rw [wv_rep]; simp [wv], fun j _ => getD_rep _ _⟩ (le_stL ⟨.refl _, .refl _, .refl _, .refl _, .refl _, trivial⟩ ⟨rfl, trivial⟩) ?_
 rintro ⟨o, i⟩ ⟨hi, hlo, ho, hv, hz⟩
 refine AWp_sr hP ?_
 refine RK.V (op_lss rfl rfl) ?_
 refine RK.D ?_
 refine AWp_seq ?_
 refine AWp_cond rfl (fun hb1 => ?_) (fun hb1 => ?_)
 ·have hb1_ := of_decide_eq_true hb1
  have hlt0 : i < a.length := by omega
  refine AWp_skip ?_
  refine AWp_seq ?_
  refine AWp_block ?_
  refine AWp_sr hP ?_
  refine RK.M rfl ?_
  refine RK.V (by first | exact op_index_WN hT rfl rfl rfl rfl rfl rfl (by omega) | exact op_index_sl hT rfl rfl rfl rfl rfl rfl (by omega) (by first | exact W_ne (by omega) | simp)) ?_
  refine RK.V (op_load_ip_one hT rfl rfl rfl (by first | rfl | exact wget (by omega))) ?_
  refine RK.As rfl ?_
  refine RK.As rfl ?_
  refine RK.D ?_
  refine AWp_sr hP ?_
  refine RK.As rfl ?_
  refine RK.D ?_
  refine AWp_seq ?_
  refine AWp_sr hP ?_
  refine RK.M rfl ?_
  refine RK.V (op_len hT rfl rfl rfl rfl) ?_
  refine RK.M rfl ?_
  refine RK.D ?_
  refine AWp_block ?_
  obtain ⟨o0, ho0⟩ : ∃ o0, o0 = o := ⟨_, rfl⟩
  have hv0 := hv
  rw [← ho0] at hv
  refine AWp_loop (ι := List Nat × Nat × Nat) (fun ⟨o, k, c⟩ => stL [(1, .p (.c (W b))), (5, .vec 17), (18, .p (.c (W a))), (19, Z ((a.length : Nat) : Int)), (20, Z (i : Int)), (6, Z (i : Int)), (7, .p (.c (w32 (a.getD i 0)))), (8, .p (.c (.v (.int .u64 (c : Nat))))), (25, .p (.c (W b))), (26, Z ((b.length : Nat) : Int)), (27, Z (k : Int))] [(17, WB 52 o)]) (fun ⟨o, k, c⟩ => k ≤ b.length ∧ o.length = a.length + b.length ∧ okW o ∧ c < 4294967296 ∧ wv o + 4294967296 ^ (i + k) * c = wv o0 + 4294967296 ^ i * (a.getD i 0 * wv (b.take k)) ∧ ∀ j, i + b.length ≤ j → o.getD j 0 = 0) (fun ⟨_, k, _⟩ => b.length - k) (o, 0, 0) ⟨Nat.zero_le _, hlo, ho, by omega, by rw [ho0]; simp [wv], hz⟩ (le_stL ⟨.refl _, .refl _, .refl _, .refl _, .refl _, .refl _, .refl _, .refl _, .refl _, .refl _, .refl _, trivial⟩ ⟨rfl, trivial⟩) ?_
  clear hlo ho hz hv0 ho0
  rintro ⟨o, k, c⟩ ⟨hk, hlo, ho, hc, hkv, hz⟩
  refine AWp_sr hP ?_
  refine RK.V (op_lss rfl rfl) ?_
  refine RK.D ?_
  refine AWp_seq ?_
  refine AWp_cond rfl (fun hb2 => ?_) (fun hb2 => ?_)
  ·have hb2_ := of_decide_eq_true hb2
   have hlt : k < b.length := by omega
   have ha1 := ha.getD i
   have hb1v := hb.getD k
   have hp1 := Nat.mul_le_mul (Nat.le_sub_one_of_lt (ha.getD i)) (Nat.le_sub_one_of_lt (hb.getD k))
   have ho1 := ho.getD (i + k)
   refine AWp_skip ?_
   refine AWp_seq ?_
   refine AWp_block ?_
   refine AWp_sr hP ?_
   refine RK.M rfl ?_
   refine RK.V (by first | exact op_index_WN hT rfl rfl rfl rfl rfl rfl (by omega) | exact op_index_sl hT rfl rfl rfl rfl rfl rfl (by omega) (by first | exact W_ne (by omega) | simp)) ?_
   refine RK.V (op_load_ip_one hT rfl rfl rfl (by first | rfl | exact wget (by omega))) ?_
   refine RK.As rfl ?_
   refine RK.As rfl ?_
   refine RK.D ?_
   refine AWp_sr hP ?_
   refine RK.M rfl ?_
   refine RK.V (op_conv hT rfl rfl rfl rfl (u64N (by omega))) ?_
   refine RK.M rfl ?_
   refine RK.V (op_conv hT rfl rfl rfl rfl (u64N (by omega))) ?_
   refine RK.V (op_mul rfl rfl (c := ((a.getD i 0 * b.getD k 0 : Nat) : Int)) (by rw [← Int.natCast_mul, u64N (by omega)])) ?_
   refine RK.V (op_move (rfl : _ = AV.vec _)) ?_
   refine RK.M rfl ?_
   refine RK.M rfl ?_
   refine RK.V (op_add rfl rfl (c := ((i + k : Nat) : Int)) (by rw [IntWalk.i64_in _ (by omega)]; omega)) ?_
   refine RK.V (by first | exact op_index_vecWN hT rfl rfl rfl rfl rfl rfl rfl (by first | omega | (simp; omega)) | exact op_index_vecW hT rfl rfl rfl rfl rfl rfl rfl (by first | omega | (simp; omega))) ?_
   refine RK.V (op_loadWv hT rfl rfl rfl rfl (by first | omega | (simp; omega)) rfl) ?_
   refine RK.V (op_conv hT rfl rfl rfl rfl (u64N (by omega))) ?_
   refine RK.V (op_add rfl rfl (c := ((a.getD i 0 * b.getD k 0 + o.getD (i + k) 0 : Nat) : Int)) (by rw [← Int.natCast_add, u64N (by omega)])) ?_
   refine RK.M rfl ?_
   refine RK.V (op_add rfl rfl (c := ((a.getD i 0 * b.getD k 0 + o.getD (i + k) 0 + c : Nat) : Int)) (by rw [← Int.natCast_add, u64N (by omega)])) ?_
   refine RK.As rfl ?_
   refine RK.D ?_
   refine AWp_region hP ?_
   refine RK.V (op_move (rfl : _ = AV.vec _)) ?_
   refine RK.M rfl ?_
   refine RK.M rfl ?_
   refine RK.V (op_add rfl rfl (c := ((i + k : Nat) : Int)) (by rw [IntWalk.i64_in _ (by omega)]; omega)) ?_
   refine RK.M rfl ?_
   refine RK.V (op_conv hT rfl rfl rfl rfl (c := (((a.getD i 0 * b.getD k 0 + o.getD (i + k) 0 + c) % 4294967296 : Nat) : Int)) (by rw [IntKind.wrap_u32]; omega)) ?_
   refine RK.M rfl ?_
   refine RK.V (op_shrN (j := 32) rfl rfl (by first | decide | omega)) ?_
   refine RK.V (by first | exact op_index_vecWN hT rfl rfl rfl rfl rfl rfl rfl (by first | omega | (simp; omega)) | exact op_index_vecW hT rfl rfl rfl rfl rfl rfl rfl (by first | omega | (simp; omega))) ?_
   refine RK.sto guard_none (op_storeWv hT rfl rfl rfl rfl rfl (by first | omega | (simp; omega)) rfl) ?_
   refine RK.As rfl ?_
   refine RK.D ?_
   refine AWp_region hP ?_
   refine RK.V (op_add rfl rfl (by first | exact IntWalk.i64_in _ (by omega) | rfl)) ?_
   refine RK.M rfl ?_
   refine RK.D ?_
   have hr := mul_round (b := b) (x := a.getD i 0) (i := i) (k := k) (t := a.getD i 0 * b.getD k 0 + o.getD (i + k) 0 + c) (by omega) rfl hkv
   refine ⟨(o.set (i + k) ((a.getD i 0 * b.getD k 0 + o.getD (i + k) 0 + c) % 4294967296), k + 1, (a.getD i 0 * b.getD k 0 + o.getD (i + k) 0 + c) / 4294967296), ⟨by omega, by simpa using hlo, ho.set (Nat.mod_lt _ (by omega)), (Nat.div_lt_iff_lt_mul (by omega)).2 (by omega), hr, fun j hj => ?_⟩, by show b.length - (k + 1) < b.length - k; omega, le_stL ⟨.refl _, .refl _, .refl _, .refl _, .refl _, .refl _, .refl _, .refl _, .refl _, .refl _, .refl _, trivial⟩ ⟨rfl, trivial⟩⟩
   rw [getD_set _ _ _ _ (by omega), if_neg (by omega)]
   exact hz j (by omega)
  ·have hb2_ := of_decide_eq_false hb2
   have hke : k = b.length := by omega
   subst hke
   refine AWp_exit ?_
   refine AWp_region hP ?_
   refine RK.V (op_move (rfl : _ = AV.vec _)) ?_
   refine RK.M rfl ?_
   refine RK.M rfl ?_
   refine RK.V (op_len hT rfl rfl rfl rfl) ?_
   refine RK.V (op_add rfl rfl (c := ((i + b.length : Nat) : Int)) (by rw [IntWalk.i64_in _ (by omega)]; omega)) ?_
   refine RK.M rfl ?_
   refine RK.V (op_conv hT rfl rfl rfl rfl (u32N (by omega))) ?_
   refine RK.V (by first | exact op_index_vecWN hT rfl rfl rfl rfl rfl rfl rfl (by first | omega | (simp; omega)) | exact op_index_vecW hT rfl rfl rfl rfl rfl rfl rfl (by first | omega | (simp; omega))) ?_
   refine RK.sto guard_none (op_storeWv hT rfl rfl rfl rfl rfl (by first | omega | (simp; omega)) rfl) ?_
   refine RK.D ?_
   refine AWp_region hP ?_
   refine RK.V (op_add rfl rfl (by first | exact IntWalk.i64_in _ (by omega) | rfl)) ?_
   refine RK.M rfl ?_
   refine RK.D ?_
   have hov := mul_outer (o := o0) (a := a) (by omega) (hz _ (Nat.le_refl _)) rfl hv hkv
   refine ⟨(o.set (i + b.length) c, i + 1), ⟨by omega, by simpa using hlo, ho.set (by omega), hov, fun j hj => ?_⟩, by show a.length - (i + 1) < a.length - i; omega, le_stL ⟨.refl _, .refl _, .refl _, .refl _, .refl _, trivial⟩ ⟨rfl, trivial⟩⟩
   rw [getD_set _ _ _ _ (by omega), if_neg (by omega)]
   exact hz j (by omega)
 ·have hb1_ := of_decide_eq_false hb1
  have hie : i = a.length := by omega
  refine AWp_exit ?_
  refine AWp_freezeW (t := 5) rfl rfl ?_
  refine AWp_sr hP ?_
  refine RK.M rfl ?_
  refine RK.V (Eff.call0 (nat_trim _ ho)) ?_
  refine RK.As rfl ?_
  refine RK.D ?_
  refine AWp_ret ?_
  refine ends_one rfl (.inr rfl) (res_tmp rfl) ?_ O_ends
  exact Sub.of_eq (by rw [hv, hie, List.take_length])
end Go.Proofs.YtfdjankalhfceaaGreat
end

section
/- sizes: shl, shr, divWord -/
namespace Go.Proofs.YtfdjankalhfceaaGreat
open Go Go.AM
/- (algorist/integer.nat).shl -/
set_option maxHeartbeats 1000000 in
set_option maxRecDepth 100000 in
theorem nat_shl (a : List Nat) (k : Nat) (ha : okW a) (hla : a.length ≤ 1099511627776) (hk : k ≤ 1099511627776) :
  Call0 Tryz.prog 88 [.p (.c (W a)), Z (k : Int)] (.p (.c (nt (wv a * 2 ^ k)))) := by
 refine callM_of (np := 0) Tryz.func88 (by kernel_rfl) rfl rfl (Nat.le_of_ble_eq_true rfl) (fun m h => absurd rfl h) (fun m h => absurd rfl h) rfl ?_
 obtain ⟨q, hq⟩ : ∃ q, q = k / 32 := ⟨_, rfl⟩
 obtain ⟨s, hs⟩ : ∃ s, s = k % 32 := ⟨_, rfl⟩
 have hks : k = 32 * q + s := by omega
 have hs32 : s < 32 := by omega
 refine AWp_sr hP ?_
 refine RK.As rfl ?_
 refine RK.D ?_
 refine AWp_sr hP ?_
 refine RK.M rfl ?_
 refine RK.V (op_len hT rfl rfl rfl rfl) ?_
 refine RK.M rfl ?_
 refine RK.V (op_quo rfl rfl (by decide) (c := ((q : Nat) : Int)) (by rw [Int.tdiv_eq_ediv_of_nonneg (by omega), IntWalk.i64_in _ (by omega)]; omega)) ?_
 refine RK.V (op_add rfl rfl (c := ((a.length + q : Nat) : Int)) (by rw [IntWalk.i64_in _ (by omega)]; omega)) ?_
 refine RK.V (op_add rfl rfl (c := ((a.length + q + 1 : Nat) : Int)) (by rw [IntWalk.i64_in _ (by omega)]; omega)) ?_
 refine RK.alc guard_none (op_makeW hT rfl rfl rfl rfl rfl rfl rfl rfl (by omega)) ?_
 refine RK.V (op_assign (rfl : _ = AV.vec _)) ?_
 refine RK.D ?_
 refine AWp_seq ?_
 refine AWp_sr hP ?_
 refine RK.M rfl ?_
 refine RK.V (op_len hT rfl rfl rfl rfl) ?_
 refine RK.M rfl ?_
 refine RK.D ?_
 refine AWp_block ?_
 refine AWp_loop (ι := List Nat × Nat) (fun ⟨o, i⟩ => stL [(1, Z (k : Int)), (5, .vec 15), (16, .p (.c (W a))), (17, Z ((a.length : Nat) : Int)), (18, Z (i : Int))] [(15, WB 52 o)]) (fun ⟨o, i⟩ => i ≤ a.length ∧ o.length = a.length + q + 1 ∧ okW o ∧ wv o = wv (a.take i) * 2 ^ k ∧ o.getD (i + q) 0 < 2 ^ s ∧ ∀ j, i + q < j → o.getD j 0 = 0) (fun ⟨_, i⟩ => a.length - i) (List.replicate ((a.length + q + 1 : Nat) : Int).toNat 0, 0) ⟨Nat.zero_le _, by simp; omega, okW.rep _, by rw [wv_rep]; simp [wv], by rw [getD_rep]; exact Nat.two_pow_pos s, fun j _ => getD_rep _ _⟩ (le_stL ⟨.refl _, .refl _, .refl _, .refl _, .refl _, trivial⟩ ⟨rfl, trivial⟩) ?_
 rintro ⟨o, i⟩ ⟨hi, hlo, ho, hv, hlow, hz⟩
 refine AWp_sr hP ?_
 refine RK.V (op_lss rfl rfl) ?_
 refine RK.D ?_
 refine AWp_seq ?_
 refine AWp_cond rfl (fun hb1 => ?_) (fun hb1 => ?_)
 ·have hb1_ := of_decide_eq_true hb1
  have hlt : i < a.length := by omega
  have hai := ha.getD i
  have hoi := ho.getD (i + q)
  have hti : a.getD i 0 * 2 ^ s / 4294967296 < 4294967296 := shl_hi hai hs32
  refine AWp_skip ?_
  refine AWp_seq ?_
  refine AWp_block ?_
  refine AWp_sr hP ?_
  refine RK.M rfl ?_
  refine RK.V (by first | exact op_index_WN hT rfl rfl rfl rfl rfl rfl (by omega) | exact op_index_sl hT rfl rfl rfl rfl rfl rfl (by omega) (by first | exact W_ne (by omega) | simp)) ?_
  refine RK.V (op_load_ip_one hT rfl rfl rfl (by first | rfl | exact wget (by omega))) ?_
  refine RK.As rfl ?_
  refine RK.As rfl ?_
  refine RK.D ?_
  refine AWp_sr hP ?_
  refine RK.M rfl ?_
  refine RK.V (op_conv hT rfl rfl rfl rfl (u64N (by omega))) ?_
  refine RK.M rfl ?_
  refine RK.V (op_rem rfl rfl (by decide) (c := ((s : Nat) : Int)) (by rw [Int.tmod_eq_emod_of_nonneg (by omega)]; omega)) ?_
  refine RK.V (op_shl rfl rfl (by omega) (c := ((a.getD i 0 * 2 ^ s : Nat) : Int)) (shl64 hai hs32)) ?_
  refine RK.As rfl ?_
  refine RK.D ?_
  refine AWp_sr hP ?_
  refine RK.V (op_move (rfl : _ = AV.vec _)) ?_
  refine RK.M rfl ?_
  refine RK.M rfl ?_
  refine RK.V (op_quo rfl rfl (by decide) (c := ((q : Nat) : Int)) (by rw [Int.tdiv_eq_ediv_of_nonneg (by omega), IntWalk.i64_in _ (by omega)]; omega)) ?_
  refine RK.V (op_add rfl rfl (c := ((i + q : Nat) : Int)) (by rw [IntWalk.i64_in _ (by omega)]; omega)) ?_
  refine RK.V (by first | exact op_index_vecWN hT rfl rfl rfl rfl rfl rfl rfl (by first | omega | (simp; omega)) | exact op_index_vecW hT rfl rfl rfl rfl rfl rfl rfl (by first | omega | (simp; omega))) ?_
  refine RK.V (op_loadWv hT rfl rfl rfl rfl (by first | omega | (simp; omega)) rfl) ?_
  refine RK.M rfl ?_
  refine RK.V (op_conv hT rfl rfl rfl rfl (c := ((a.getD i 0 * 2 ^ s % 4294967296 : Nat) : Int)) (by rw [IntKind.wrap_u32]; omega)) ?_
  refine RK.V (op_orN rfl rfl rfl (lt32 hoi) (lt32 (Nat.mod_lt _ (by omega)))) ?_
  refine RK.V (by first | exact op_index_vecWN hT rfl rfl rfl rfl rfl rfl rfl (by first | omega | (simp; omega)) | exact op_index_vecW hT rfl rfl rfl rfl rfl rfl rfl (by first | omega | (simp; omega))) ?_
  refine RK.sto guard_none (op_storeWv hT rfl rfl rfl rfl rfl (by first | omega | (simp; omega)) rfl) ?_
  refine RK.D ?_
  refine AWp_region hP ?_
  refine RK.V (op_move (rfl : _ = AV.vec _)) ?_
  refine RK.M rfl ?_
  refine RK.M rfl ?_
  refine RK.V (op_quo rfl rfl (by decide) (c := ((q : Nat) : Int)) (by rw [Int.tdiv_eq_ediv_of_nonneg (by omega), IntWalk.i64_in _ (by omega)]; omega)) ?_
  refine RK.V (op_add rfl rfl (c := ((i + q : Nat) : Int)) (by rw [IntWalk.i64_in _ (by omega)]; omega)) ?_
  refine RK.V (op_add rfl rfl (c := ((i + q + 1 : Nat) : Int)) (by rw [IntWalk.i64_in _ (by omega)]; omega)) ?_
  refine RK.M rfl ?_
  refine RK.V (op_shrN (j := 32) rfl rfl (by decide)) ?_
  refine RK.V (op_conv hT rfl rfl rfl rfl (c := ((a.getD i 0 * 2 ^ s / 4294967296 : Nat) : Int)) (u32N hti)) ?_
  refine RK.V (by first | exact op_index_vecWN hT rfl rfl rfl rfl rfl rfl rfl (by first | omega | (simp; omega)) | exact op_index_vecW hT rfl rfl rfl rfl rfl rfl rfl (by first | omega | (simp; omega))) ?_
  refine RK.sto guard_none (op_storeWv hT rfl rfl rfl rfl rfl (by first | omega | (simp; omega)) rfl) ?_
  refine RK.D ?_
  refine AWp_region hP ?_
  refine RK.V (op_add rfl rfl (by first | exact IntWalk.i64_in _ (by omega) | rfl)) ?_
  refine RK.M rfl ?_
  refine RK.D ?_
  have hr := shl_round (a := a) (x := a.getD i 0) hks hs32 (by omega) rfl hlow (hz _ (by omega)) hv
  have hts : a.getD i 0 * 2 ^ s / 4294967296 < 2 ^ s := by
   rw [Nat.div_lt_iff_lt_mul (by omega), Nat.mul_comm]; exact Nat.mul_lt_mul_of_pos_left hai (Nat.two_pow_pos s)
  refine ⟨((o.set (i + q) (o.getD (i + q) 0 ||| a.getD i 0 * 2 ^ s % 4294967296)).set (i + q + 1) (a.getD i 0 * 2 ^ s / 4294967296), i + 1), ⟨by omega, by simpa using hlo, (ho.set (Nat.or_lt_two_pow (n := 32) hoi (Nat.mod_lt _ (by omega)))).set hti, hr, ?_, fun j hj => ?_⟩, by show a.length - (i + 1) < a.length - i; omega, le_stL ⟨.refl _, .refl _, .refl _, .refl _, .refl _, trivial⟩ ⟨rfl, trivial⟩⟩
  ·rw [show i + 1 + q = i + q + 1 by omega, getD_set _ _ _ _ (by simp; omega), if_pos rfl]; exact hts
  ·rw [getD_set _ _ _ _ (by simp; omega), if_neg (by omega), getD_set _ _ _ _ (by omega), if_neg (by omega)]
   exact hz j (by omega)
 ·have hb1_ := of_decide_eq_false hb1
  have hie : i = a.length := by omega
  refine AWp_exit ?_
  refine AWp_freezeW (t := 5) rfl rfl ?_
  refine AWp_sr hP ?_
  refine RK.M rfl ?_
  refine RK.V (Eff.call0 (nat_trim _ ho)) ?_
  refine RK.As rfl ?_
  refine RK.D ?_
  refine AWp_ret ?_
  refine ends_one rfl (.inr rfl) (res_tmp rfl) ?_ O_ends
  exact Sub.of_eq (by rw [hv, hie, List.take_length])
/- (algorist/integer.nat).shr -/
set_option maxHeartbeats 1000000 in
set_option maxRecDepth 100000 in
theorem nat_shr (a : List Nat) (k : Nat) (ha : okW a) (hla : a.length ≤ 1099511627776) (hk : k < 32) :
  Call0 Tryz.prog 91 [.p (.c (W a)), Z (k : Int)] (.p (.c (nt (wv a / 2 ^ k)))) := by
 refine callM_of (np := 0) Tryz.func91 (by kernel_rfl) rfl rfl (Nat.le_of_ble_eq_true rfl) (fun m h => absurd rfl h) (fun m h => absurd rfl h) rfl ?_
 have h0l : (0 : Nat) ≤ a.length := Nat.zero_le _
 refine AWp_sr hP ?_
 refine RK.As rfl ?_
 refine RK.D ?_
 refine AWp_sr hP ?_
 refine RK.M rfl ?_
 refine RK.V (op_len hT rfl rfl rfl rfl) ?_
 refine RK.alc guard_none (op_makeW hT rfl rfl rfl rfl rfl rfl rfl rfl (by omega)) ?_
 refine RK.V (op_assign (rfl : _ = AV.vec _)) ?_
 refine RK.D ?_
 refine AWp_seq ?_
 refine AWp_sr hP ?_
 refine RK.V (op_move (rfl : _ = AV.vec _)) ?_
 refine RK.V (op_len_vecW hT rfl rfl rfl rfl) ?_
 refine RK.M rfl ?_
 refine RK.D ?_
 refine AWp_block ?_
 refine AWp_loop (ι := List Nat × Nat) (fun ⟨o, i⟩ => stL [(0, .p (.c (W a))), (1, Z (k : Int)), (5, .vec 10), (12, Z ((a.length : Nat) : Int)), (13, Z (i : Int))] [(10, WB 52 o)]) (fun ⟨o, i⟩ => i ≤ a.length ∧ o.length = a.length ∧ ∀ j, j < i → o.getD j 0 = shrD a k j) (fun ⟨_, i⟩ => a.length - i) (List.replicate ((a.length : Nat) : Int).toNat 0, 0) ⟨Nat.zero_le _, by simp, fun j hj => by omega⟩ (le_stL ⟨.refl _, .refl _, .refl _, Sub.int (by simp), .refl _, trivial⟩ ⟨rfl, trivial⟩) ?_
 rintro ⟨o, i⟩ ⟨hi, hlo, hv⟩
 refine AWp_sr hP ?_
 refine RK.V (op_lss rfl rfl) ?_
 refine RK.D ?_
 refine AWp_seq ?_
 refine AWp_cond rfl (fun hb1 => ?_) (fun hb1 => ?_)
 ·have hb1_ := of_decide_eq_true hb1
  have hlt : i < a.length := by omega
  have hai := ha.getD i
  refine AWp_skip ?_
  refine AWp_seq ?_
  refine AWp_block ?_
  refine AWp_sr hP ?_
  refine RK.M rfl ?_
  refine RK.As rfl ?_
  refine RK.D ?_
  refine AWp_sr hP ?_
  refine RK.M rfl ?_
  refine RK.M rfl ?_
  refine RK.V (by first | exact op_index_WN hT rfl rfl rfl rfl rfl rfl (by omega) | exact op_index_sl hT rfl rfl rfl rfl rfl rfl (by omega) (by first | exact W_ne (by omega) | simp)) ?_
  refine RK.V (op_load_ip_one hT rfl rfl rfl (by first | rfl | exact wget (by omega))) ?_
  refine RK.V (op_conv hT rfl rfl rfl rfl (u64N (by omega))) ?_
  refine RK.As rfl ?_
  refine RK.D ?_
  refine AWp_seq_cut (ι := Unit) (fun _ => stL [(0, .p (.c (W a))), (1, Z (k : Int)), (5, .vec 10), (12, Z ((a.length : Nat) : Int)), (13, Z (i : Int)), (6, Z (i : Int)), (7, .p (.c (.v (.int .u64 ((a.getD i 0 + 4294967296 * a.getD (i + 1) 0 : Nat) : Int)))))] [(10, WB 52 o)]) (fun _ => True) ?_ ?_
  ·refine AWp_sr hP ?_
   refine RK.M rfl ?_
   refine RK.V (op_add rfl rfl (c := ((i + 1 : Nat) : Int)) (by rw [IntWalk.i64_in _ (by omega)]; omega)) ?_
   refine RK.M rfl ?_
   refine RK.V (op_len hT rfl rfl rfl rfl) ?_
   refine RK.V (op_lss rfl rfl) ?_
   refine RK.D ?_
   refine AWp_cond rfl (fun hb2 => ?_) (fun hb2 => ?_)
   ·have hb2_ := of_decide_eq_true hb2
    refine AWp_region hP ?_
    refine RK.M rfl ?_
    refine RK.M rfl ?_
    refine RK.M rfl ?_
    refine RK.V (op_add rfl rfl (c := ((i + 1 : Nat) : Int)) (by rw [IntWalk.i64_in _ (by omega)]; omega)) ?_
    refine RK.V (by first | exact op_index_WN hT rfl rfl rfl rfl rfl rfl (by omega) | exact op_index_sl hT rfl rfl rfl rfl rfl rfl (by omega) (by first | exact W_ne (by omega) | simp)) ?_
    refine RK.V (op_load_ip_one hT rfl rfl rfl (by first | rfl | exact wget (by omega))) ?_
    refine RK.V (op_conv hT rfl rfl rfl rfl (u64N (by have := ha.getD (i + 1); omega))) ?_
    refine RK.V (op_shlN (j := 32) rfl rfl (by decide) rfl) ?_
    refine RK.V (op_or rfl rfl (c := ((a.getD i 0 + 4294967296 * a.getD (i + 1) 0 : Nat) : Int)) (by rw [bits_lohi hai (ha.getD (i + 1))])) ?_
    refine RK.As rfl ?_
    refine RK.D ?_
    exact ⟨(), trivial, le_stL ⟨.refl _, .refl _, .refl _, .refl _, .refl _, .refl _, .refl _, trivial⟩ ⟨rfl, trivial⟩⟩
   ·have hb2_ := of_decide_eq_false hb2
    refine AWp_skip ?_
    exact ⟨(), trivial, le_stL ⟨.refl _, .refl _, .refl _, .refl _, .refl _, .refl _, Sub.int (by rw [getD_ge (k := i + 1) (by omega)]; omega), trivial⟩ ⟨rfl, trivial⟩⟩
  rintro _ -
  have hai2 := ha.getD (i + 1)
  refine AWp_region hP ?_
  refine RK.V (op_move (rfl : _ = AV.vec _)) ?_
  refine RK.M rfl ?_
  refine RK.M rfl ?_
  refine RK.M rfl ?_
  refine RK.V (op_shrN (j := k) rfl rfl (by show k ≤ 64; omega)) ?_
  refine RK.V (op_conv hT rfl rfl rfl rfl (c := ((shrD a k i : Nat) : Int)) (by rw [IntKind.wrap_u32]; unfold shrD; omega)) ?_
  refine RK.V (by first | exact op_index_vecWN hT rfl rfl rfl rfl rfl rfl rfl (by first | omega | (simp; omega)) | exact op_index_vecW hT rfl rfl rfl rfl rfl rfl rfl (by first | omega | (simp; omega))) ?_
  refine RK.sto guard_none (op_storeWv hT rfl rfl rfl rfl rfl (by first | omega | (simp; omega)) rfl) ?_
  refine RK.D ?_
  refine AWp_region hP ?_
  refine RK.V (op_add rfl rfl (by first | exact IntWalk.i64_in _ (by omega) | rfl)) ?_
  refine RK.M rfl ?_
  refine RK.D ?_
  refine ⟨(o.set i (shrD a k i), i + 1), ⟨by omega, by simpa using hlo, fun j hj => ?_⟩, by show a.length - (i + 1) < a.length - i; omega, le_stL ⟨.refl _, .refl _, .refl _, .refl _, .refl _, trivial⟩ ⟨rfl, trivial⟩⟩
  rw [getD_set _ _ _ _ (by omega)]
  split
  ·subst_vars; rfl
  ·exact hv j (by omega)
 ·have hb1_ := of_decide_eq_false hb1
  have hie : i = a.length := by omega
  have hoe := shr_ext (hie ▸ hv) hlo
  have hook := shr_ok a k
  refine AWp_exit ?_
  refine AWp_freezeW (t := 5) rfl rfl ?_
  refine AWp_sr hP ?_
  refine RK.M rfl ?_
  refine RK.V (Eff.call0 (nat_trim _ (hoe ▸ hook))) ?_
  refine RK.As rfl ?_
  refine RK.D ?_
  refine AWp_ret ?_
  refine ends_one rfl (.inr rfl) (res_tmp rfl) ?_ O_ends
  exact Sub.of_eq (by rw [hoe, shr_val k hk a ha])
/- (algorist/integer.nat).divWord -/
set_option maxHeartbeats 1000000 in
set_option maxRecDepth 100000 in
theorem nat_divWord (a : List Nat) (d : Nat) (ha : okW a) (hla : a.length ≤ 1099511627776) (hd : 0 < d) (hd2 : d < 4294967296) :
  Call0 Tryz.prog 85 [.p (.c (W a)), .p (.c (w32 d))] (.t [.c (nt (wv a / d)), .c (w32 (wv a % d))]) := by
 refine callM_of (np := 0) Tryz.func85 (by kernel_rfl) rfl rfl (Nat.le_of_ble_eq_true rfl) (fun m h => absurd rfl h) (fun m h => absurd rfl h) rfl ?_
 have h0l : (0 : Nat) ≤ a.length := Nat.zero_le _
 refine AWp_sr hP ?_
 refine RK.As rfl ?_
 refine RK.As rfl ?_
 refine RK.D ?_
 refine AWp_sr hP ?_
 refine RK.M rfl ?_
 refine RK.V (op_len hT rfl rfl rfl rfl) ?_
 refine RK.alc guard_none (op_makeW hT rfl rfl rfl rfl rfl rfl rfl rfl (by omega)) ?_
 refine RK.V (op_assign (rfl : _ = AV.vec _)) ?_
 refine RK.D ?_
 refine AWp_sr hP ?_
 refine RK.As rfl ?_
 refine RK.D ?_
 refine AWp_seq ?_
 refine AWp_sr hP ?_
 refine RK.M rfl ?_
 refine RK.V (op_len hT rfl rfl rfl rfl) ?_
 refine RK.V (op_sub rfl rfl (by first | exact IntWalk.i64_in _ (by omega) | rfl)) ?_
 refine RK.As rfl ?_
 refine RK.D ?_
 refine AWp_block ?_
 refine AWp_loop (ι := List Nat × Nat × Nat) (fun ⟨o, i, r⟩ => stL [(0, .p (.c (W a))), (1, .p (.c (w32 d))), (6, .vec 11), (7, .p (.c (w32 r))), (8, Z ((i : Int) - 1))] [(11, WB 52 o)]) (fun ⟨o, i, r⟩ => i ≤ a.length ∧ o.length = a.length ∧ okW o ∧ r < d ∧ wv (a.drop i) = d * wv (o.drop i) + r) (fun ⟨_, i, _⟩ => i) (List.replicate ((a.length : Nat) : Int).toNat 0, a.length, 0) ⟨Nat.le_refl _, by simp, okW.rep _, hd, by simp [wv]⟩ (le_stL ⟨.refl _, .refl _, .refl _, .refl _, .refl _, trivial⟩ ⟨rfl, trivial⟩) ?_
 rintro ⟨o, i, r⟩ ⟨hi, hlo, ho, hr, hv⟩
 refine AWp_seq ?_
 refine AWp_sr hP ?_
 refine RK.M rfl ?_
 refine RK.V (op_geq rfl rfl) ?_
 refine RK.D ?_
 refine AWp_cond rfl (fun hb1 => ?_) (fun hb1 => ?_)
 ·have hb1_ := of_decide_eq_true hb1
  obtain ⟨i, rfl⟩ : ∃ k, i = k + 1 := ⟨i - 1, by omega⟩
  have hc : ((i + 1 : Nat) : Int) - 1 = (i : Int) := by omega
  have hai := ha.getD i
  have hq : (r * 4294967296 + a.getD i 0) / d < 4294967296 := (Nat.div_lt_iff_lt_mul hd).2 (by have : (r + 1) * 4294967296 ≤ d * 4294967296 := Nat.mul_le_mul_right _ hr; omega)
  refine AWp_le (t := stL [(0, .p (.c (W a))), (1, .p (.c (w32 d))), (6, .vec 11), (7, .p (.c (w32 r))), (8, Z (i : Int))] [(11, WB 52 o)]) (le_stL ⟨.refl _, .refl _, .refl _, .refl _, Sub.int hc, trivial⟩ ⟨rfl, trivial⟩) ?_
  refine AWp_skip ?_
  refine AWp_seq ?_
  refine AWp_block ?_
  refine AWp_region hP ?_
  refine RK.V (op_move (rfl : _ = AV.vec _)) ?_
  refine RK.M rfl ?_
  refine RK.M rfl ?_
  refine RK.M rfl ?_
  refine RK.M rfl ?_
  refine RK.V (by first | exact op_index_WN hT rfl rfl rfl rfl rfl rfl (by omega) | exact op_index_sl hT rfl rfl rfl rfl rfl rfl (by omega) (by first | exact W_ne (by omega) | simp)) ?_
  refine RK.V (op_load_ip_one hT rfl rfl rfl (by first | rfl | exact wget (by omega))) ?_
  refine RK.M rfl ?_
  refine RK.V (Eff.call0 (div32 _ _ _ hd2 hr hai)) ?_
  refine RK.V (op_move (rfl : _ = AV.t _)) ?_
  refine RK.V (op_extract rfl (v := .c _) rfl) ?_
  refine RK.V (op_extract rfl (v := .c _) rfl) ?_
  refine RK.V (by first | exact op_index_vecWN hT rfl rfl rfl rfl rfl rfl rfl (by first | omega | (simp; omega)) | exact op_index_vecW hT rfl rfl rfl rfl rfl rfl rfl (by first | omega | (simp; omega))) ?_
  refine RK.sto guard_none (op_storeWv hT rfl rfl rfl rfl rfl (by first | omega | (simp; omega)) rfl) ?_
  refine RK.As rfl ?_
  refine RK.D ?_
  refine AWp_region hP ?_
  refine RK.M rfl ?_
  refine RK.V (op_sub rfl rfl (by first | exact IntWalk.i64_in _ (by omega) | rfl)) ?_
  refine RK.As rfl ?_
  refine RK.D ?_
  refine ⟨(o.set i ((r * 4294967296 + a.getD i 0) / d), i, (r * 4294967296 + a.getD i 0) % d), ⟨by omega, by simpa using hlo, ho.set hq, Nat.mod_lt _ hd, divw_round (by omega) hlo hv hd⟩, by show i < i + 1; omega, le_stL ⟨.refl _, .refl _, .refl _, .refl _, Sub.int (by omega), trivial⟩ ⟨rfl, trivial⟩⟩
 ·have hb1_ := of_decide_eq_false hb1
  have hie : i = 0 := by omega
  subst hie
  refine AWp_exit ?_
  refine AWp_freezeW (t := 6) rfl rfl ?_
  refine AWp_sr hP ?_
  refine RK.M rfl ?_
  refine RK.V (Eff.call0 (nat_trim _ ho)) ?_
  refine RK.M rfl ?_
  refine RK.As rfl ?_
  refine RK.As rfl ?_
  refine RK.D ?_
  refine AWp_ret ?_
  refine ends_two rfl (.inr rfl) (res_tmp rfl) (res_tmp rfl) ?_ O_ends
  rw [List.drop_zero, List.drop_zero] at hv
  have e1 : wv a / d = wv o := by rw [hv, Nat.mul_add_div hd, Nat.div_eq_of_lt hr, Nat.add_zero]
  have e2 : wv a % d = r := by rw [hv, Nat.mul_add_mod, Nat.mod_eq_of_lt hr]
  exact Sub.of_eq (by rw [e1, e2])
end Go.Proofs.YtfdjankalhfceaaGreat
end

section
/- sizes: div -/
namespace Go.Proofs.YtfdjankalhfceaaGreat
open Go Go.AM
/- (algorist/integer.nat).div -/
set_option maxHeartbeats 2000000 in
set_option maxRecDepth 100000 in
theorem nat_div (a b : Nat) (hla : (wl a).length ≤ 1099511627776) (hb : 0 < b) :
  Call0 Tryz.prog 54 [.p (.c (nt a)), .p (.c (nt b))] (.t [.c (nt (a / b)), .c (nt (a % b))]) := by
 refine callM_of (np := 0) Tryz.func54 (by kernel_rfl) rfl rfl (Nat.le_of_ble_eq_true rfl) (fun m h => absurd rfl h) (fun m h => absurd rfl h) rfl ?_
 have h0l : (0 : Nat) ≤ (wl a).length := Nat.zero_le _
 have hbl := wl_len_lt b
 refine AWp_sr hP ?_
 refine RK.As rfl ?_
 refine RK.As rfl ?_
 refine RK.D ?_
 refine AWp_seq ?_
 refine AWp_sr hP ?_
 refine RK.M rfl ?_
 refine RK.M rfl ?_
 refine RK.V (Eff.call0 (nat_cmp a b)) ?_
 refine RK.V (op_lss rfl rfl) ?_
 refine RK.D ?_
 refine AWp_cond rfl (fun hb1 => ?_) (fun hb1 => ?_)
 ·have hb1_ := of_decide_eq_true hb1
  have hlt : a < b := by
   unfold cmpI at *; split at * <;> first | omega | (split at * <;> omega)
  refine AWp_sr hP ?_
  refine RK.M rfl ?_
  refine RK.As rfl ?_
  refine RK.As rfl ?_
  refine RK.D ?_
  refine AWp_ret ?_
  refine ends_two rfl (.inr rfl) (res_tmp rfl) (res_tmp rfl) ?_ O_ends
  exact Sub.tup ⟨fun _ _ h => DSub.of_eq (by rw [Nat.div_eq_of_lt hlt]; rfl) _ _ (DSub.nil_sl _ _ h), DSub.of_eq (by rw [Nat.mod_eq_of_lt hlt]), trivial⟩
 ·have hb1_ := of_decide_eq_false hb1
  have hab : b ≤ a := by
   unfold cmpI at *; split at * <;> first | omega | (split at * <;> omega)
  have hll := wl_len_mono hab
  refine AWp_skip ?_
  refine AWp_seq ?_
  refine AWp_sr hP ?_
  refine RK.M rfl ?_
  refine RK.V (op_len hT rfl rfl rfl rfl) ?_
  refine RK.V (op_eql rfl rfl) ?_
  refine RK.D ?_
  refine AWp_cond rfl (fun hb2 => ?_) (fun hb2 => ?_)
  ·have hb2_ := bT hb2
   have h1 : (wl b).length = 1 := by omega
   have hd2 := (wl_ok b).getD 0
   have hbe : b = (wl b).getD 0 0 := by
    have := pow_top (n := 0) h1
    rw [wv_wl] at this; simpa [wv] using this
   have hmod : wv (wl a) % (wl b).getD 0 0 < 4294967296 := Nat.lt_trans (Nat.mod_lt _ (by omega)) hd2
   have hr1 : okW [wv (wl a) % (wl b).getD 0 0] := by intro x hx; rw [List.mem_singleton.1 hx]; exact hmod
   have hd1 : 0 < (wl b).getD 0 0 := by omega
   have hdiv : a / (wl b).getD 0 0 = a / b ∧ a % (wl b).getD 0 0 = a % b := by rw [← hbe]; exact ⟨rfl, rfl⟩
   refine AWp_sr hP ?_
   refine RK.M rfl ?_
   refine RK.M rfl ?_
   refine RK.V (by first | exact op_index_WN hT rfl rfl rfl rfl rfl rfl (by omega) | exact op_index_sl hT rfl rfl rfl rfl rfl rfl (by omega) (by first | exact W_ne (by omega) | simp)) ?_
   refine RK.V (op_load_ip_one hT rfl rfl rfl (by first | rfl | exact wget (by omega))) ?_
   refine RK.V (Eff.call0 (nat_divWord (wl a) ((wl b).getD 0 0) (wl_ok a) hla hd1 hd2)) ?_
   refine RK.V (op_move (rfl : _ = AV.t _)) ?_
   refine RK.V (op_extract rfl (v := .c _) rfl) ?_
   refine RK.V (op_extract rfl (v := .c _) rfl) ?_
   refine RK.As rfl ?_
   refine RK.As rfl ?_
   refine RK.D ?_
   refine AWp_sr hP ?_
   refine RK.M rfl ?_
   refine RK.M rfl ?_
   refine RK.V (op_bslice hT rfl rfl rfl (es := [_]) rfl rfl rfl) ?_
   refine RK.V (Eff.call0 (nat_trim [_] hr1)) ?_
   refine RK.As rfl ?_
   refine RK.As rfl ?_
   refine RK.D ?_
   refine AWp_ret ?_
   refine ends_two rfl (.inr rfl) (res_tmp rfl) (res_tmp rfl) ?_ O_ends
   exact Sub.of_eq (by rw [wv_wl, hdiv.1, hdiv.2]; simp [wv])
  ·have hb2_ := bF hb2
   obtain ⟨k, hk⟩ : ∃ k, (wl b).length = k + 1 + 1 := by
    refine ⟨(wl b).length - 2, ?_⟩
    have : (wl b).length ≠ 0 := by intro h; rw [h] at hbl; omega
    omega
   obtain ⟨s, hs⟩ : ∃ s, s = 32 - blen ((wl b).getD (k + 1) 0) := ⟨_, rfl⟩
   obtain ⟨hn1, hn2, hs32, hbp⟩ := norm_facts hk hs
   have hb3 : blen ((wl b).getD (k + 1) 0) ≤ 32 := blen_le (k := 32) (by simpa using (wl_ok b).getD (k + 1))
   have hsl := shl_len (m := a) hs32
   have hva := wv_wl a
   have hvb := wv_wl b
   obtain ⟨v, hv⟩ : ∃ v, v = wl (b * 2 ^ s) := ⟨_, rfl⟩
   obtain ⟨x, hx⟩ : ∃ x, x = wl (a * 2 ^ s) := ⟨_, rfl⟩
   have okv : okW v := hv ▸ wl_ok _
   have okx : okW x := hx ▸ wl_ok _
   have hwv : wv v = b * 2 ^ s := by rw [hv, wv_wl]
   have hwx : wv x = a * 2 ^ s := by rw [hx, wv_wl]
   have cb : Call0 Tryz.prog 88 [.p (.c (nt b)), Z (s : Int)] (.p (.c (W v))) := by
    have := nat_shl (wl b) s (wl_ok b) (by omega) (by omega)
    rw [hvb] at this; rw [hv]; exact this
   have ca : Call0 Tryz.prog 88 [.p (.c (nt a)), Z (s : Int)] (.p (.c (W x))) := by
    have := nat_shl (wl a) s (wl_ok a) (by omega) (by omega)
    rw [hva] at this; rw [hx]; exact this
   rw [← hv] at hn1 hn2
   rw [← hx] at hsl
   obtain ⟨u0, hu0⟩ : ∃ u0, u0 = x ++ (List.replicate ((((wl a).length : Nat) : Int) + 1).toNat 0).drop x.length := ⟨_, rfl⟩
   have hu0l : u0.length = (wl a).length + 1 := by rw [hu0]; simp; omega
   have oku0 : okW u0 := by rw [hu0]; exact okx.app ((okW.rep _).drop _)
   have hwu0 : wv u0 = a * 2 ^ s := by
    rw [hu0, wv_append, List.drop_replicate, wv_rep, Nat.mul_zero, Nat.add_zero, hwx]
   refine AWp_skip ?_
   refine AWp_sr hP ?_
   refine RK.M rfl ?_
   refine RK.M rfl ?_
   refine RK.V (op_len hT rfl rfl rfl rfl) ?_
   refine RK.V (op_sub rfl rfl (c := ((k + 1 : Nat) : Int)) (by rw [IntWalk.i64_in _ (by omega)]; omega)) ?_
   refine RK.V (by first | exact op_index_WN hT rfl rfl rfl rfl rfl rfl (by omega) | exact op_index_sl hT rfl rfl rfl rfl rfl rfl (by omega) (by first | exact W_ne (by omega) | simp)) ?_
   refine RK.V (op_load_ip_one hT rfl rfl rfl (by first | rfl | exact wget (by omega))) ?_
   refine RK.V (Eff.call0 (lz32 _ ((wl_ok b).getD _))) ?_
   refine RK.As rfl ?_
   refine RK.D ?_
   refine AWp_le (t := stL [(0, .p (.c (nt a))), (1, .p (.c (nt b))), (8, Z (s : Int))] []) (le_stL ⟨.refl _, .refl _, Sub.int (by omega), trivial⟩ trivial) ?_
   refine AWp_sr hP ?_
   refine RK.M rfl ?_
   refine RK.M rfl ?_
   refine RK.V (Eff.call0 cb) ?_
   refine RK.As rfl ?_
   refine RK.D ?_
   refine AWp_sr hP ?_
   refine RK.M rfl ?_
   refine RK.V (op_len hT rfl rfl rfl rfl) ?_
   refine RK.As rfl ?_
   refine RK.D ?_
   refine AWp_sr hP ?_
   refine RK.M rfl ?_
   refine RK.V (op_len hT rfl rfl rfl rfl) ?_
   refine RK.V (op_add rfl rfl (by first | exact IntWalk.i64_in _ (by omega) | rfl)) ?_
   refine RK.alc guard_none (op_makeW hT rfl rfl rfl rfl rfl rfl rfl rfl (by omega)) ?_
   refine RK.V (op_assign (rfl : _ = AV.vec _)) ?_
   refine RK.D ?_
   refine AWp_sr hP ?_
   refine RK.V (op_move (rfl : _ = AV.vec _)) ?_
   refine RK.M rfl ?_
   refine RK.M rfl ?_
   refine RK.V (Eff.call0 ca) ?_
   refine RK.mut guard_none (op_copyWv hT rfl rfl rfl rfl rfl rfl rfl (by simp; omega) (ws' := u0) hu0.symm) ?_
   refine RK.D ?_
   refine AWp_sr hP ?_
   refine RK.V (op_move (rfl : _ = AV.vec _)) ?_
   refine RK.V (op_len_vecW hT rfl rfl rfl rfl) ?_
   refine RK.M rfl ?_
   refine RK.V (op_sub rfl rfl (c := (((wl a).length + 1 - (k + 2) : Nat) : Int)) (by rw [IntWalk.i64_in _ (by rw [hu0l]; omega), hu0l]; omega)) ?_
   refine RK.alc guard_none (op_makeW hT rfl rfl rfl rfl rfl rfl rfl rfl (by omega)) ?_
   refine RK.V (op_assign (rfl : _ = AV.vec _)) ?_
   refine RK.D ?_
   refine AWp_seq ?_
   refine AWp_sr hP ?_
   refine RK.V (op_move (rfl : _ = AV.vec _)) ?_
   refine RK.V (op_len_vecW hT rfl rfl rfl rfl) ?_
   refine RK.V (op_sub rfl rfl (c := (((wl a).length + 1 - (k + 2) : Nat) : Int) - 1) (by simp only [List.length_replicate, Int.toNat_natCast]; exact IntWalk.i64_in _ (by omega))) ?_
   refine RK.As rfl ?_
   refine RK.D ?_
   refine AWp_block ?_
   refine AWp_loop (ι := List Nat × List Nat × Nat) (fun ⟨u, q, i⟩ => stL [(8, Z (s : Int)), (9, .p (.c (W v))), (10, Z ((k + 2 : Nat) : Int)), (11, .vec 60), (12, .vec 70), (13, Z ((i : Int) - 1))] [(60, WB 52 u), (70, WB 52 q)]) (fun ⟨u, q, i⟩ => u.length = (wl a).length + 1 ∧ okW u ∧ q.length = (wl a).length + 1 - (k + 2) ∧ okW q ∧ i ≤ q.length ∧ wv (u.drop i) < wv v ∧ a * 2 ^ s = wv v * (4294967296 ^ i * wv (q.drop i)) + wv u) (fun ⟨_, _, i⟩ => i) (u0, List.replicate (((wl a).length + 1 - (k + 2) : Nat) : Int).toNat 0, (wl a).length + 1 - (k + 2)) ⟨hu0l, oku0, by simp, okW.rep _, by simp, by rw [hwv]; exact div_start hwu0 hu0l hbp (by omega), by rw [hwu0, List.drop_replicate, wv_rep]; simp⟩ (le_stL ⟨.refl _, .refl _, Sub.int (by omega), .refl _, .refl _, .refl _, trivial⟩ ⟨rfl, rfl, trivial⟩) ?_
   rintro ⟨u, q, i⟩ ⟨hlu, hok, hlq, hqok, hi, hlow, hM⟩
   have hiq := hi
   refine AWp_seq ?_
   refine AWp_sr hP ?_
   refine RK.M rfl ?_
   refine RK.V (op_geq rfl rfl) ?_
   refine RK.D ?_
   refine AWp_cond rfl (fun hb3 => ?_) (fun hb3 => ?_)
   ·have hb3_ := of_decide_eq_true hb3
    obtain ⟨j, rfl⟩ : ∃ k, i = k + 1 := ⟨i - 1, by omega⟩
    have hc : ((j + 1 : Nat) : Int) - 1 = (j : Int) := by omega
    have dg : Dig v u k j := ⟨hn1, okv, hn2, hok, by omega, hlow⟩
    have hq1 := hok.getD (j + k + 2)
    have hq2 := hok.getD (j + k + 1)
    have hq3 := hok.getD (j + k)
    have hv1 := okv.getD (k + 1)
    have hv2 := okv.getD k
    have hN64 : (u.getD (j + k + 2) 0 * 4294967296 + u.getD (j + k + 1) 0) < 18446744073709551616 := by omega
    have hdl : (u.getD (j + k + 2) 0 * 4294967296 + u.getD (j + k + 1) 0) / v.getD (k + 1) 0 ≤ (u.getD (j + k + 2) 0 * 4294967296 + u.getD (j + k + 1) 0) := Nat.div_le_self _ _
    have hml : (u.getD (j + k + 2) 0 * 4294967296 + u.getD (j + k + 1) 0) % v.getD (k + 1) 0 < v.getD (k + 1) 0 := Nat.mod_lt _ (by omega)
    refine AWp_le (t := stL [(8, Z (s : Int)), (9, .p (.c (W v))), (10, Z ((k + 2 : Nat) : Int)), (11, .vec 60), (12, .vec 70), (13, Z ((j : Nat) : Int))] [(60, WB 52 u), (70, WB 52 q)]) (le_stL ⟨.refl _, .refl _, .refl _, .refl _, .refl _, Sub.int hc, trivial⟩ ⟨rfl, rfl, trivial⟩) ?_
    refine AWp_skip ?_
    refine AWp_seq ?_
    refine AWp_block ?_
    refine AWp_sr hP ?_
    refine RK.V (op_move (rfl : _ = AV.vec _)) ?_
    refine RK.M rfl ?_
    refine RK.M rfl ?_
    refine RK.V (op_add rfl rfl (c := ((j + k + 2 : Nat) : Int)) (by rw [IntWalk.i64_in _ (by omega)]; omega)) ?_
    refine RK.V (by first | exact op_index_vecWN hT rfl rfl rfl rfl rfl rfl rfl (by first | omega | (simp; omega)) | exact op_index_vecW hT rfl rfl rfl rfl rfl rfl rfl (by first | omega | (simp; omega))) ?_
    refine RK.V (op_loadWv hT rfl rfl rfl rfl (by first | omega | (simp; omega)) rfl) ?_
    refine RK.V (op_conv hT rfl rfl rfl rfl (u64N (by omega))) ?_
    refine RK.V (op_shlN (j := 32) rfl rfl (by first | decide | omega) rfl) ?_
    refine RK.V (op_move (rfl : _ = AV.vec _)) ?_
    refine RK.M rfl ?_
    refine RK.M rfl ?_
    refine RK.V (op_add rfl rfl (c := ((j + k + 2 : Nat) : Int)) (by rw [IntWalk.i64_in _ (by omega)]; omega)) ?_
    refine RK.V (op_sub rfl rfl (c := ((j + k + 1 : Nat) : Int)) (by rw [IntWalk.i64_in _ (by omega)]; omega)) ?_
    refine RK.V (by first | exact op_index_vecWN hT rfl rfl rfl rfl rfl rfl rfl (by first | omega | (simp; omega)) | exact op_index_vecW hT rfl rfl rfl rfl rfl rfl rfl (by first | omega | (simp; omega))) ?_
    refine RK.V (op_loadWv hT rfl rfl rfl rfl (by first | omega | (simp; omega)) rfl) ?_
    refine RK.V (op_conv hT rfl rfl rfl rfl (u64N (by omega))) ?_
    refine RK.V (op_or rfl rfl (bits_hilo hq1 hq2)) ?_
    refine RK.As rfl ?_
    refine RK.D ?_
    refine AWp_sr hP ?_
    refine RK.M rfl ?_
    refine RK.M rfl ?_
    refine RK.M rfl ?_
    refine RK.V (op_sub rfl rfl (c := ((k + 1 : Nat) : Int)) (by rw [IntWalk.i64_in _ (by omega)]; omega)) ?_
    refine RK.V (by first | exact op_index_WN hT rfl rfl rfl rfl rfl rfl (by omega) | exact op_index_sl hT rfl rfl rfl rfl rfl rfl (by omega) (by first | exact W_ne (by omega) | simp)) ?_
    refine RK.V (op_load_ip_one hT rfl rfl rfl (by first | rfl | exact wget (by omega))) ?_
    refine RK.V (op_conv hT rfl rfl rfl rfl (u64N (by omega))) ?_
    refine RK.V (op_quo rfl rfl (by omega) (c := (((u.getD (j + k + 2) 0 * 4294967296 + u.getD (j + k + 1) 0) / v.getD (k + 1) 0 : Nat) : Int)) (by rw [Int.tdiv_eq_ediv_of_nonneg (by omega), ← Int.natCast_ediv, u64N (by omega)])) ?_
    refine RK.M rfl ?_
    refine RK.M rfl ?_
    refine RK.M rfl ?_
    refine RK.V (op_sub rfl rfl (c := ((k + 1 : Nat) : Int)) (by rw [IntWalk.i64_in _ (by omega)]; omega)) ?_
    refine RK.V (by first | exact op_index_WN hT rfl rfl rfl rfl rfl rfl (by omega) | exact op_index_sl hT rfl rfl rfl rfl rfl rfl (by omega) (by first | exact W_ne (by omega) | simp)) ?_
    refine RK.V (op_load_ip_one hT rfl rfl rfl (by first | rfl | exact wget (by omega))) ?_
    refine RK.V (op_conv hT rfl rfl rfl rfl (u64N (by omega))) ?_
    refine RK.V (op_rem rfl rfl (by omega) (c := (((u.getD (j + k + 2) 0 * 4294967296 + u.getD (j + k + 1) 0) % v.getD (k + 1) 0 : Nat) : Int)) (by rw [Int.tmod_eq_emod_of_nonneg (by omega), ← Int.natCast_emod])) ?_
    refine RK.As rfl ?_
    refine RK.As rfl ?_
    refine RK.D ?_
    refine AWp_seq_cut (ι := Nat) (fun g => stL [(8, Z (s : Int)), (9, .p (.c (W v))), (10, Z ((k + 2 : Nat) : Int)), (11, .vec 60), (12, .vec 70), (13, Z ((j : Nat) : Int)), (15, .p (.c (.v (.int .u64 ((g : Nat) : Int)))))] [(60, WB 52 u), (70, WB 52 q)]) (fun g => g < 4294967296 ∧ digq v u j ≤ g ∧ g ≤ digq v u j + 1) ?_ ?_
    ·refine AWp_block ?_
     refine AWp_loop (ι := Nat × Nat) (fun ⟨g, r⟩ => stL [(8, Z (s : Int)), (9, .p (.c (W v))), (10, Z ((k + 2 : Nat) : Int)), (11, .vec 60), (12, .vec 70), (13, Z ((j : Nat) : Int)), (15, .p (.c (.v (.int .u64 ((g : Nat) : Int))))), (16, .p (.c (.v (.int .u64 ((r : Nat) : Int)))))] [(60, WB 52 u), (70, WB 52 q)]) (fun ⟨g, r⟩ => g * v.getD (k + 1) 0 + r = (u.getD (j + k + 2) 0 * 4294967296 + u.getD (j + k + 1) 0) ∧ r < 4294967296 ∧ g < 18446744073709551616 ∧ digq v u j ≤ g) (fun ⟨g, _⟩ => g) ((u.getD (j + k + 2) 0 * 4294967296 + u.getD (j + k + 1) 0) / v.getD (k + 1) 0, (u.getD (j + k + 2) 0 * 4294967296 + u.getD (j + k + 1) 0) % v.getD (k + 1) 0) ⟨by rw [Nat.mul_comm]; exact Nat.div_add_mod _ _, by omega, by omega, dg.init⟩ (le_stL ⟨.refl _, .refl _, .refl _, .refl _, .refl _, .refl _, .refl _, .refl _, trivial⟩ ⟨rfl, rfl, trivial⟩) ?_
     rintro ⟨g, r⟩ ⟨hg, hr, hg64, hdq⟩
     refine AWp_seq ?_
     refine AWp_sr hP ?_
     refine RK.M rfl ?_
     refine RK.V (op_gtr rfl rfl) ?_
     refine RK.M rfl ?_
     refine RK.split (t := 113) rfl (fun hg4 => ?_) (fun hg4 => ?_)
     ·have hg4_ := of_decide_eq_true hg4
      have hdec : digq v u j < g := dg.dec hg (Or.inl (by omega))
      have hstep : (g - 1) * v.getD (k + 1) 0 + (r + v.getD (k + 1) 0) = (u.getD (j + k + 2) 0 * 4294967296 + u.getD (j + k + 1) 0) := by
       rw [← hg, ← Nat.add_assoc, Nat.add_right_comm, ← Nat.succ_mul, show (g - 1).succ = g by omega]
      refine RK.skip (guard_no rfl rfl hg4) ?_
      refine RK.skip (guard_no rfl rfl hg4) ?_
      refine RK.skip (guard_no rfl rfl hg4) ?_
      refine RK.skip (guard_no rfl rfl hg4) ?_
      refine RK.skip (guard_no rfl rfl hg4) ?_
      refine RK.skip (guard_no rfl rfl hg4) ?_
      refine RK.skip (guard_no rfl rfl hg4) ?_
      refine RK.skip (guard_no rfl rfl hg4) ?_
      refine RK.skip (guard_no rfl rfl hg4) ?_
      refine RK.skip (guard_no rfl rfl hg4) ?_
      refine RK.skip (guard_no rfl rfl hg4) ?_
      refine RK.skip (guard_no rfl rfl hg4) ?_
      refine RK.skip (guard_no rfl rfl hg4) ?_
      refine RK.skip (guard_no rfl rfl hg4) ?_
      refine RK.skip (guard_no rfl rfl hg4) ?_
      refine RK.skip (guard_no rfl rfl hg4) ?_
      refine RK.skip (guard_no rfl rfl hg4) ?_
      refine RK.skip (guard_no rfl rfl hg4) ?_
      refine RK.skip (guard_no rfl rfl hg4) ?_
      refine RK.skip (guard_no rfl rfl hg4) ?_
      refine RK.V (op_pick_t rfl hg4 (rfl : _ = AV.p (.c _))) ?_
      refine RK.D ?_
      refine AWp_cond_true rfl rfl ?_
      refine AWp_skip ?_
      refine AWp_block ?_
      refine AWp_sr hP ?_
      refine RK.M rfl ?_
      refine RK.V (op_sub rfl rfl (c := ((g - 1 : Nat) : Int)) (by rw [IntWalk.u64_in _ (by omega)]; omega)) ?_
      refine RK.As rfl ?_
      refine RK.D ?_
      refine AWp_sr hP ?_
      refine RK.M rfl ?_
      refine RK.M rfl ?_
      refine RK.M rfl ?_
      refine RK.V (op_sub rfl rfl (c := ((k + 1 : Nat) : Int)) (by rw [IntWalk.i64_in _ (by omega)]; omega)) ?_
      refine RK.V (by first | exact op_index_WN hT rfl rfl rfl rfl rfl rfl (by omega) | exact op_index_sl hT rfl rfl rfl rfl rfl rfl (by omega) (by first | exact W_ne (by omega) | simp)) ?_
      refine RK.V (op_load_ip_one hT rfl rfl rfl (by first | rfl | exact wget (by omega))) ?_
      refine RK.V (op_conv hT rfl rfl rfl rfl (u64N (by omega))) ?_
      refine RK.V (op_add rfl rfl (c := ((r + v.getD (k + 1) 0 : Nat) : Int)) (by rw [IntWalk.u64_in _ (by omega)]; omega)) ?_
      refine RK.As rfl ?_
      refine RK.D ?_
      refine AWp_sr hP ?_
      refine RK.M rfl ?_
      refine RK.V (op_gtr rfl rfl) ?_
      refine RK.D ?_
      refine AWp_cond rfl (fun hb5 => ?_) (fun hb5 => ?_)
      ·have hb5_ := of_decide_eq_true hb5
       have hex := dg.exit hstep (Or.inr (by omega))
       refine AWp_exit ?_
       exact ⟨g - 1, ⟨hex.1, by omega, hex.2⟩, (le_stL ⟨.refl _, .refl _, .refl _, .refl _, .refl _, .refl _, .refl _, trivial⟩ ⟨rfl, rfl, trivial⟩)⟩
      ·have hb5_ := of_decide_eq_false hb5
       refine AWp_skip ?_
       exact ⟨(g - 1, r + v.getD (k + 1) 0), ⟨hstep, by omega, by omega, by omega⟩, by show g - 1 < g; omega, (le_stL ⟨.refl _, .refl _, .refl _, .refl _, .refl _, .refl _, .refl _, .refl _, trivial⟩ ⟨rfl, rfl, trivial⟩)⟩
     ·have hg4_ := of_decide_eq_false hg4
      have hgB : g < 4294967296 := by omega
      have hp2 := Nat.mul_le_mul (Nat.le_sub_one_of_lt hgB) (Nat.le_sub_one_of_lt hv2)
      refine RK.val (guard_yes rfl rfl hg4) (op_move (rfl : _ = AV.p (.c _))) ?_
      refine RK.val (guard_yes rfl rfl hg4) (op_move (rfl : _ = AV.p (.c _))) ?_
      refine RK.val (guard_yes rfl rfl hg4) (op_move (rfl : _ = AV.p (.c _))) ?_
      refine RK.val (guard_yes rfl rfl hg4) (op_sub rfl rfl (c := ((k : Nat) : Int)) (by rw [IntWalk.i64_in _ (by omega)]; omega)) ?_
      refine RK.val (guard_yes rfl rfl hg4) (by first | exact op_index_WN hT rfl rfl rfl rfl rfl rfl (by omega) | exact op_index_sl hT rfl rfl rfl rfl rfl rfl (by omega) (by first | exact W_ne (by omega) | simp)) ?_
      refine RK.val (guard_yes rfl rfl hg4) (op_load_ip_one hT rfl rfl rfl (by first | rfl | exact wget (by omega))) ?_
      refine RK.val (guard_yes rfl rfl hg4) (op_conv hT rfl rfl rfl rfl (u64N (by omega))) ?_
      refine RK.val (guard_yes rfl rfl hg4) (op_mul rfl rfl (c := ((g * v.getD k 0 : Nat) : Int)) (by rw [← Int.natCast_mul, u64N (by omega)])) ?_
      refine RK.val (guard_yes rfl rfl hg4) (op_move (rfl : _ = AV.p (.c _))) ?_
      refine RK.val (guard_yes rfl rfl hg4) (op_shlN (j := 32) rfl rfl (by first | decide | omega) rfl) ?_
      refine RK.val (guard_yes rfl rfl hg4) (op_move (rfl : _ = AV.vec _)) ?_
      refine RK.val (guard_yes rfl rfl hg4) (op_move (rfl : _ = AV.p (.c _))) ?_
      refine RK.val (guard_yes rfl rfl hg4) (op_move (rfl : _ = AV.p (.c _))) ?_
      refine RK.val (guard_yes rfl rfl hg4) (op_add rfl rfl (c := ((j + k + 2 : Nat) : Int)) (by rw [IntWalk.i64_in _ (by omega)]; omega)) ?_
      refine RK.val (guard_yes rfl rfl hg4) (op_sub rfl rfl (c := ((j + k : Nat) : Int)) (by rw [IntWalk.i64_in _ (by omega)]; omega)) ?_
      refine RK.val (guard_yes rfl rfl hg4) (by first | exact op_index_vecWN hT rfl rfl rfl rfl rfl rfl rfl (by first | omega | (simp; omega)) | exact op_index_vecW hT rfl rfl rfl rfl rfl rfl rfl (by first | omega | (simp; omega))) ?_
      refine RK.val (guard_yes rfl rfl hg4) (op_loadWv hT rfl rfl rfl rfl (by first | omega | (simp; omega)) rfl) ?_
      refine RK.val (guard_yes rfl rfl hg4) (op_conv hT rfl rfl rfl rfl (u64N (by omega))) ?_
      refine RK.val (guard_yes rfl rfl hg4) (op_or rfl rfl (bits_hilo hr hq3)) ?_
      refine RK.val (guard_yes rfl rfl hg4) (op_gtr rfl rfl) ?_
      refine RK.V (op_pick_f rfl hg4 (rfl : _ = AV.p (.c _))) ?_
      refine RK.D ?_
      refine AWp_cond rfl (fun hb6 => ?_) (fun hb6 => ?_)
      ·have hb6_ := of_decide_eq_true hb6
       have hdec : digq v u j < g := dg.dec hg (Or.inr (Int.ofNat_lt.1 (by assumption)))
       have hstep : (g - 1) * v.getD (k + 1) 0 + (r + v.getD (k + 1) 0) = (u.getD (j + k + 2) 0 * 4294967296 + u.getD (j + k + 1) 0) := by
        rw [← hg, ← Nat.add_assoc, Nat.add_right_comm, ← Nat.succ_mul, show (g - 1).succ = g by omega]
       refine AWp_skip ?_
       refine AWp_block ?_
       refine AWp_sr hP ?_
       refine RK.M rfl ?_
       refine RK.V (op_sub rfl rfl (c := ((g - 1 : Nat) : Int)) (by rw [IntWalk.u64_in _ (by omega)]; omega)) ?_
       refine RK.As rfl ?_
       refine RK.D ?_
       refine AWp_sr hP ?_
       refine RK.M rfl ?_
       refine RK.M rfl ?_
       refine RK.M rfl ?_
       refine RK.V (op_sub rfl rfl (c := ((k + 1 : Nat) : Int)) (by rw [IntWalk.i64_in _ (by omega)]; omega)) ?_
       refine RK.V (by first | exact op_index_WN hT rfl rfl rfl rfl rfl rfl (by omega) | exact op_index_sl hT rfl rfl rfl rfl rfl rfl (by omega) (by first | exact W_ne (by omega) | simp)) ?_
       refine RK.V (op_load_ip_one hT rfl rfl rfl (by first | rfl | exact wget (by omega))) ?_
       refine RK.V (op_conv hT rfl rfl rfl rfl (u64N (by omega))) ?_
       refine RK.V (op_add rfl rfl (c := ((r + v.getD (k + 1) 0 : Nat) : Int)) (by rw [IntWalk.u64_in _ (by omega)]; omega)) ?_
       refine RK.As rfl ?_
       refine RK.D ?_
       refine AWp_sr hP ?_
       refine RK.M rfl ?_
       refine RK.V (op_gtr rfl rfl) ?_
       refine RK.D ?_
       refine AWp_cond rfl (fun hb7 => ?_) (fun hb7 => ?_)
       ·have hb7_ := of_decide_eq_true hb7
        have hex := dg.exit hstep (Or.inr (by omega))
        refine AWp_exit ?_
        exact ⟨g - 1, ⟨hex.1, by omega, hex.2⟩, (le_stL ⟨.refl _, .refl _, .refl _, .refl _, .refl _, .refl _, .refl _, trivial⟩ ⟨rfl, rfl, trivial⟩)⟩
       ·have hb7_ := of_decide_eq_false hb7
        refine AWp_skip ?_
        exact ⟨(g - 1, r + v.getD (k + 1) 0), ⟨hstep, by omega, by omega, by omega⟩, by show g - 1 < g; omega, (le_stL ⟨.refl _, .refl _, .refl _, .refl _, .refl _, .refl _, .refl _, .refl _, trivial⟩ ⟨rfl, rfl, trivial⟩)⟩
      ·have hb6_ := of_decide_eq_false hb6
       have hex := dg.exit hg (Or.inl ⟨by omega, by omega⟩)
       refine AWp_exit ?_
       exact ⟨g, ⟨hex.1, hdq, hex.2⟩, (le_stL ⟨.refl _, .refl _, .refl _, .refl _, .refl _, .refl _, .refl _, trivial⟩ ⟨rfl, rfl, trivial⟩)⟩
    rintro g ⟨hgB, hg1, hg2⟩
    refine AWp_sr hP ?_
    refine RK.As rfl ?_
    refine RK.D ?_
    refine AWp_sr hP ?_
    refine RK.As rfl ?_
    refine RK.D ?_
    refine AWp_seq ?_
    refine AWp_sr hP ?_
    refine RK.M rfl ?_
    refine RK.V (op_len hT rfl rfl rfl rfl) ?_
    refine RK.M rfl ?_
    refine RK.D ?_
    refine AWp_block ?_
    refine AWp_loop (ι := List Nat × Nat × Nat × Nat) (fun ⟨o, i, c, e⟩ => stL [(8, Z (s : Int)), (9, .p (.c (W v))), (10, Z ((k + 2 : Nat) : Int)), (11, .vec 60), (12, .vec 70), (13, Z ((j : Nat) : Int)), (15, .p (.c (.v (.int .u64 ((g : Nat) : Int))))), (17, .p (.c (.v (.int .u64 ((c : Nat) : Int))))), (18, .p (.c (w32 (e)))), (147, .p (.c (W v))), (148, Z ((v.length : Nat) : Int)), (149, Z ((i : Nat) : Int))] [(60, WB 52 o), (70, WB 52 q)]) (fun ⟨o, i, c, e⟩ => i ≤ v.length ∧ o.length = u.length ∧ okW o ∧ c < 4294967296 ∧ e < 2 ∧ o.drop (j + k + 3) = u.drop (j + k + 3) ∧ wv o + 4294967296 ^ j * (g * wv (v.take i)) = wv u + 4294967296 ^ (j + i) * (c + e)) (fun ⟨_, i, _, _⟩ => v.length - i) (u, 0, 0, 0) ⟨Nat.zero_le _, rfl, hok, by omega, by omega, rfl, by simp [wv]⟩ (le_stL ⟨.refl _, .refl _, .refl _, .refl _, .refl _, .refl _, .refl _, .refl _, .refl _, .refl _, .refl _, .refl _, trivial⟩ ⟨rfl, rfl, trivial⟩) ?_
    rintro ⟨o, i, c, e⟩ ⟨hi, hlo, ho, hc, he, hd, hS⟩
    refine AWp_sr hP ?_
    refine RK.V (op_lss rfl rfl) ?_
    refine RK.D ?_
    refine AWp_seq ?_
    refine AWp_cond rfl (fun hb8 => ?_) (fun hb8 => ?_)
    ·have hb8_ := of_decide_eq_true hb8
     have hlt : i < v.length := by omega
     have hvi := okv.getD i
     have hp1 := Nat.mul_le_mul (Nat.le_sub_one_of_lt hgB) (Nat.le_sub_one_of_lt (okv.getD i))
     have htB : (g * v.getD i 0 + c) / 4294967296 < 4294967296 := (Nat.div_lt_iff_lt_mul (by omega)).2 (by omega)
     refine AWp_skip ?_
     refine AWp_seq ?_
     refine AWp_block ?_
     refine AWp_sr hP ?_
     refine RK.M rfl ?_
     refine RK.V (by first | exact op_index_WN hT rfl rfl rfl rfl rfl rfl (by omega) | exact op_index_sl hT rfl rfl rfl rfl rfl rfl (by omega) (by first | exact W_ne (by omega) | simp)) ?_
     refine RK.V (op_load_ip_one hT rfl rfl rfl (by first | rfl | exact wget (by omega))) ?_
     refine RK.As rfl ?_
     refine RK.As rfl ?_
     refine RK.D ?_
     refine AWp_sr hP ?_
     refine RK.M rfl ?_
     refine RK.M rfl ?_
     refine RK.V (op_conv hT rfl rfl rfl rfl (u64N (by omega))) ?_
     refine RK.V (op_mul rfl rfl (c := ((g * v.getD i 0 : Nat) : Int)) (by rw [← Int.natCast_mul, u64N (by omega)])) ?_
     refine RK.M rfl ?_
     refine RK.V (op_add rfl rfl (c := ((g * v.getD i 0 + c : Nat) : Int)) (by rw [← Int.natCast_add, u64N (by omega)])) ?_
     refine RK.As rfl ?_
     refine RK.D ?_
     refine AWp_sr hP ?_
     refine RK.M rfl ?_
     refine RK.V (op_shrN (j := 32) rfl rfl (by first | decide | omega)) ?_
     refine RK.As rfl ?_
     refine RK.D ?_
     refine AWp_region hP ?_
     refine RK.V (op_move (rfl : _ = AV.vec _)) ?_
     refine RK.M rfl ?_
     refine RK.M rfl ?_
     refine RK.V (op_add rfl rfl (c := ((j + i : Nat) : Int)) (by rw [IntWalk.i64_in _ (by omega)]; omega)) ?_
     refine RK.V (op_move (rfl : _ = AV.vec _)) ?_
     refine RK.M rfl ?_
     refine RK.M rfl ?_
     refine RK.V (op_add rfl rfl (c := ((j + i : Nat) : Int)) (by rw [IntWalk.i64_in _ (by omega)]; omega)) ?_
     refine RK.V (by first | exact op_index_vecWN hT rfl rfl rfl rfl rfl rfl rfl (by first | omega | (simp; omega)) | exact op_index_vecW hT rfl rfl rfl rfl rfl rfl rfl (by first | omega | (simp; omega))) ?_
     refine RK.V (op_loadWv hT rfl rfl rfl rfl (by first | omega | (simp; omega)) rfl) ?_
     refine RK.M rfl ?_
     refine RK.V (op_conv hT rfl rfl rfl rfl (c := (((g * v.getD i 0 + c) % 4294967296 : Nat) : Int)) (by rw [IntKind.wrap_u32]; omega)) ?_
     refine RK.M rfl ?_
     refine RK.V (Eff.call0 (sub32 _ _ _ (ho.getD _) (Nat.mod_lt _ (by omega)) he)) ?_
     refine RK.V (op_move (rfl : _ = AV.t _)) ?_
     refine RK.V (op_extract rfl (v := .c _) rfl) ?_
     refine RK.V (op_extract rfl (v := .c _) rfl) ?_
     refine RK.V (by first | exact op_index_vecWN hT rfl rfl rfl rfl rfl rfl rfl (by first | omega | (simp; omega)) | exact op_index_vecW hT rfl rfl rfl rfl rfl rfl rfl (by first | omega | (simp; omega))) ?_
     refine RK.sto guard_none (op_storeWv hT rfl rfl rfl rfl rfl (by first | omega | (simp; omega)) rfl) ?_
     refine RK.As rfl ?_
     refine RK.D ?_
     refine AWp_region hP ?_
     refine RK.V (op_add rfl rfl (by first | exact IntWalk.i64_in _ (by omega) | rfl)) ?_
     refine RK.M rfl ?_
     refine RK.D ?_
     have hr := msub_round (v := v) (g := g) (by omega) ho he rfl hS
     exact ⟨(o.set (j + i) ((o.getD (j + i) 0 + 8589934592 - (g * v.getD i 0 + c) % 4294967296 - e) % 4294967296), i + 1, (g * v.getD i 0 + c) / 4294967296, if o.getD (j + i) 0 < (g * v.getD i 0 + c) % 4294967296 + e then 1 else 0), ⟨by omega, by simpa using hlo, ho.set (Nat.mod_lt _ (by omega)), htB, by split <;> omega, by rw [List.drop_set_of_lt (by omega)]; exact hd, hr⟩, by show v.length - (i + 1) < v.length - i; omega, (le_stL ⟨.refl _, .refl _, .refl _, .refl _, .refl _, .refl _, .refl _, .refl _, .refl _, .refl _, .refl _, .refl _, trivial⟩ ⟨rfl, rfl, trivial⟩)⟩
    ·have hb8_ := of_decide_eq_false hb8
     have hie : i = v.length := by omega
     subst hie
     rw [List.take_length, hn1] at hS
     have hml1 := msub_last (o := o) (p := j + k + 2) (c := c) (e := e) (A := 4294967296 ^ j * (g * wv v)) (S := wv u) (by omega) ho hc he (by rw [show j + k + 2 = j + (k + 2) by omega]; exact hS)
     obtain ⟨o1, ho1⟩ : ∃ o1, o1 = o.set (j + k + 2) ((o.getD (j + k + 2) 0 + 8589934592 - c - e) % 4294967296) := ⟨_, rfl⟩
     have hok1 : okW o1 := by rw [ho1]; exact ho.set (Nat.mod_lt _ (by omega))
     have hlo1 : o1.length = u.length := by rw [ho1]; simpa using hlo
     have hd1 : o1.drop (j + k + 3) = u.drop (j + k + 3) := by rw [ho1, List.drop_set_of_lt (by omega)]; exact hd
     rw [← ho1, show j + k + 2 + 1 = j + k + 3 by omega] at hml1
     refine AWp_exit ?_
     refine AWp_seq_cut (ι := List Nat) (fun u1 => stL [(8, Z (s : Int)), (9, .p (.c (W v))), (10, Z ((k + 2 : Nat) : Int)), (11, .vec 60), (12, .vec 70), (13, Z ((j : Nat) : Int)), (15, .p (.c (.v (.int .u64 ((digq v u j : Nat) : Int)))))] [(60, WB 52 u1), (70, WB 52 q)]) (fun u1 => u1.length = u.length ∧ okW u1 ∧ wv u1 + 4294967296 ^ j * (digq v u j * wv v) = wv u) ?_ ?_
     ·refine AWp_sr hP ?_
      refine RK.V (op_move (rfl : _ = AV.vec _)) ?_
      refine RK.M rfl ?_
      refine RK.M rfl ?_
      refine RK.V (op_add rfl rfl (c := ((j + k + 2 : Nat) : Int)) (by rw [IntWalk.i64_in _ (by omega)]; omega)) ?_
      refine RK.V (op_move (rfl : _ = AV.vec _)) ?_
      refine RK.M rfl ?_
      refine RK.M rfl ?_
      refine RK.V (op_add rfl rfl (c := ((j + k + 2 : Nat) : Int)) (by rw [IntWalk.i64_in _ (by omega)]; omega)) ?_
      refine RK.V (by first | exact op_index_vecWN hT rfl rfl rfl rfl rfl rfl rfl (by first | omega | (simp; omega)) | exact op_index_vecW hT rfl rfl rfl rfl rfl rfl rfl (by first | omega | (simp; omega))) ?_
      refine RK.V (op_loadWv hT rfl rfl rfl rfl (by first | omega | (simp; omega)) rfl) ?_
      refine RK.M rfl ?_
      refine RK.V (op_conv hT rfl rfl rfl rfl (u32N hc)) ?_
      refine RK.M rfl ?_
      refine RK.V (Eff.call0 (sub32 _ _ _ (ho.getD _) hc he)) ?_
      refine RK.V (op_move (rfl : _ = AV.t _)) ?_
      refine RK.V (op_extract rfl (v := .c _) rfl) ?_
      refine RK.V (op_extract rfl (v := .c _) rfl) ?_
      refine RK.V (by first | exact op_index_vecWN hT rfl rfl rfl rfl rfl rfl rfl (by first | omega | (simp; omega)) | exact op_index_vecW hT rfl rfl rfl rfl rfl rfl rfl (by first | omega | (simp; omega))) ?_
      refine RK.sto guard_none (op_storeWv hT rfl rfl rfl rfl rfl (by first | omega | (simp; omega)) ho1.symm) ?_
      refine RK.As rfl ?_
      refine RK.D ?_
      refine AWp_sr hP ?_
      refine RK.M rfl ?_
      refine RK.V (op_gtr rfl rfl) ?_
      refine RK.D ?_
      refine AWp_cond rfl (fun hb9 => ?_) (fun hb9 => ?_)
      ·have hb9_ := of_decide_eq_true hb9
       have hbo : o.getD (j + k + 2) 0 < c + e := by
        rcases Nat.lt_or_ge (o.getD (j + k + 2) 0) (c + e) with h | h
        ·exact h
        ·rw [if_neg (by omega)] at *; omega
       rw [if_pos hbo, Nat.mul_one] at hml1
       have hgq := dg.bad hok1 hlo1 hd1 hg2 hml1
       have hg0 : 0 < g := by omega
       refine AWp_sr hP ?_
       refine RK.M rfl ?_
       refine RK.V (op_sub rfl rfl (c := ((g - 1 : Nat) : Int)) (by rw [IntWalk.u64_in _ (by omega)]; omega)) ?_
       refine RK.As rfl ?_
       refine RK.D ?_
       refine AWp_sr hP ?_
       refine RK.As rfl ?_
       refine RK.D ?_
       refine AWp_seq ?_
       refine AWp_sr hP ?_
       refine RK.M rfl ?_
       refine RK.V (op_len hT rfl rfl rfl rfl) ?_
       refine RK.M rfl ?_
       refine RK.D ?_
       refine AWp_block ?_
       refine AWp_loop (ι := List Nat × Nat × Nat) (fun ⟨o, i, c⟩ => stL [(8, Z (s : Int)), (9, .p (.c (W v))), (10, Z ((k + 2 : Nat) : Int)), (11, .vec 60), (12, .vec 70), (13, Z ((j : Nat) : Int)), (15, .p (.c (.v (.int .u64 ((g - 1 : Nat) : Int))))), (22, .p (.c (w32 (c)))), (203, .p (.c (W v))), (204, Z ((v.length : Nat) : Int)), (205, Z ((i : Nat) : Int))] [(60, WB 52 o), (70, WB 52 q)]) (fun ⟨o, i, c⟩ => i ≤ v.length ∧ o.length = u.length ∧ okW o ∧ c < 2 ∧ o.drop (j + k + 3) = u.drop (j + k + 3) ∧ wv o + 4294967296 ^ (j + i) * c = wv o1 + 4294967296 ^ j * wv (v.take i)) (fun ⟨_, i, _⟩ => v.length - i) (o1, 0, 0) ⟨Nat.zero_le _, hlo1, hok1, by omega, hd1, by simp [wv]⟩ (le_stL ⟨.refl _, .refl _, .refl _, .refl _, .refl _, .refl _, .refl _, .refl _, .refl _, .refl _, .refl _, trivial⟩ ⟨rfl, rfl, trivial⟩) ?_
       clear hbo hS hd he hc ho hlo hi ho1 hd1 hok1 hlo1
       rintro ⟨o, i, c⟩ ⟨hi, hlo, ho, hc, hd, hS2⟩
       refine AWp_sr hP ?_
       refine RK.V (op_lss rfl rfl) ?_
       refine RK.D ?_
       refine AWp_seq ?_
       refine AWp_cond rfl (fun hb10 => ?_) (fun hb10 => ?_)
       ·have hb10_ := of_decide_eq_true hb10
        have hlt : i < v.length := by omega
        have hvi := okv.getD i
        have hoi := ho.getD (j + i)
        have hc2 : (o.getD (j + i) 0 + v.getD i 0 + c) / 4294967296 < 2 := (Nat.div_lt_iff_lt_mul (by omega)).2 (by omega)
        refine AWp_skip ?_
        refine AWp_seq ?_
        refine AWp_block ?_
        refine AWp_sr hP ?_
        refine RK.M rfl ?_
        refine RK.V (by first | exact op_index_WN hT rfl rfl rfl rfl rfl rfl (by omega) | exact op_index_sl hT rfl rfl rfl rfl rfl rfl (by omega) (by first | exact W_ne (by omega) | simp)) ?_
        refine RK.V (op_load_ip_one hT rfl rfl rfl (by first | rfl | exact wget (by omega))) ?_
        refine RK.As rfl ?_
        refine RK.As rfl ?_
        refine RK.D ?_
        refine AWp_region hP ?_
        refine RK.V (op_move (rfl : _ = AV.vec _)) ?_
        refine RK.M rfl ?_
        refine RK.M rfl ?_
        refine RK.V (op_add rfl rfl (c := ((j + i : Nat) : Int)) (by rw [IntWalk.i64_in _ (by omega)]; omega)) ?_
        refine RK.V (op_move (rfl : _ = AV.vec _)) ?_
        refine RK.M rfl ?_
        refine RK.M rfl ?_
        refine RK.V (op_add rfl rfl (c := ((j + i : Nat) : Int)) (by rw [IntWalk.i64_in _ (by omega)]; omega)) ?_
        refine RK.V (by first | exact op_index_vecWN hT rfl rfl rfl rfl rfl rfl rfl (by first | omega | (simp; omega)) | exact op_index_vecW hT rfl rfl rfl rfl rfl rfl rfl (by first | omega | (simp; omega))) ?_
        refine RK.V (op_loadWv hT rfl rfl rfl rfl (by first | omega | (simp; omega)) rfl) ?_
        refine RK.M rfl ?_
        refine RK.M rfl ?_
        refine RK.V (Eff.call0 (add32 _ _ _ (ho.getD _) (okv.getD _) (by omega))) ?_
        refine RK.V (op_move (rfl : _ = AV.t _)) ?_
        refine RK.V (op_extract rfl (v := .c _) rfl) ?_
        refine RK.V (op_extract rfl (v := .c _) rfl) ?_
        refine RK.V (by first | exact op_index_vecWN hT rfl rfl rfl rfl rfl rfl rfl (by first | omega | (simp; omega)) | exact op_index_vecW hT rfl rfl rfl rfl rfl rfl rfl (by first | omega | (simp; omega))) ?_
        refine RK.sto guard_none (op_storeWv hT rfl rfl rfl rfl rfl (by first | omega | (simp; omega)) rfl) ?_
        refine RK.As rfl ?_
        refine RK.D ?_
        refine AWp_region hP ?_
        refine RK.V (op_add rfl rfl (by first | exact IntWalk.i64_in _ (by omega) | rfl)) ?_
        refine RK.M rfl ?_
        refine RK.D ?_
        have hr := addb_round (v := v) (i := i) (by omega) rfl hS2
        exact ⟨(o.set (j + i) ((o.getD (j + i) 0 + v.getD i 0 + c) % 4294967296), i + 1, (o.getD (j + i) 0 + v.getD i 0 + c) / 4294967296), ⟨by omega, by simpa using hlo, ho.set (Nat.mod_lt _ (by omega)), hc2, by rw [List.drop_set_of_lt (by omega)]; exact hd, hr⟩, by show v.length - (i + 1) < v.length - i; omega, (le_stL ⟨.refl _, .refl _, .refl _, .refl _, .refl _, .refl _, .refl _, .refl _, .refl _, .refl _, .refl _, trivial⟩ ⟨rfl, rfl, trivial⟩)⟩
       ·have hb10_ := of_decide_eq_false hb10
        have hie : i = v.length := by omega
        subst hie
        rw [List.take_length, hn1] at hS2
        have hbk := dg.back (o := o.set (j + k + 2) ((o.getD (j + k + 2) 0 + c) % 4294967296)) (o1 := o) (c := c) (ho.set (Nat.mod_lt _ (by omega))) (by simpa using hlo) (by rw [List.drop_set_of_lt (by omega)]; exact hd) hgq hml1 (by rw [show j + k + 2 = j + (k + 2) by omega]; exact hS2) ho hc rfl hlo
        refine AWp_exit ?_
        refine AWp_region hP ?_
        refine RK.V (op_move (rfl : _ = AV.vec _)) ?_
        refine RK.M rfl ?_
        refine RK.M rfl ?_
        refine RK.V (op_add rfl rfl (c := ((j + k + 2 : Nat) : Int)) (by rw [IntWalk.i64_in _ (by omega)]; omega)) ?_
        refine RK.V (by first | exact op_index_vecWN hT rfl rfl rfl rfl rfl rfl rfl (by first | omega | (simp; omega)) | exact op_index_vecW hT rfl rfl rfl rfl rfl rfl rfl (by first | omega | (simp; omega))) ?_
        refine RK.V (op_loadWv hT rfl rfl rfl rfl (by first | omega | (simp; omega)) rfl) ?_
        refine RK.M rfl ?_
        refine RK.V (op_add rfl rfl (c := (((o.getD (j + k + 2) 0 + c) % 4294967296 : Nat) : Int)) (by rw [IntKind.wrap_u32]; omega)) ?_
        refine RK.V (by first | exact op_index_vecWN hT rfl rfl rfl rfl rfl rfl rfl (by first | omega | (simp; omega)) | exact op_index_vecW hT rfl rfl rfl rfl rfl rfl rfl (by first | omega | (simp; omega))) ?_
        refine RK.sto guard_none (op_storeWv hT rfl rfl rfl rfl rfl (by first | omega | (simp; omega)) rfl) ?_
        refine RK.D ?_
        exact ⟨_, ⟨by simpa using hlo, ho.set (Nat.mod_lt _ (by omega)), hbk⟩, (le_stL ⟨.refl _, .refl _, .refl _, .refl _, .refl _, .refl _, Sub.int (by omega), trivial⟩ ⟨rfl, rfl, trivial⟩)⟩
      ·have hb9_ := of_decide_eq_false hb9
       have hbo : ¬ o.getD (j + k + 2) 0 < c + e := by
        intro h
        rw [if_pos h] at *; omega
       rw [if_neg hbo, Nat.mul_zero, Nat.add_zero] at hml1
       have hgq := dg.good hg1 hml1
       refine AWp_skip ?_
       exact ⟨o1, ⟨hlo1, hok1, hgq ▸ hml1⟩, (le_stL ⟨.refl _, .refl _, .refl _, .refl _, .refl _, .refl _, Sub.int (by omega), trivial⟩ ⟨rfl, rfl, trivial⟩)⟩
     rintro u1 ⟨hl1, hok1, hfin⟩
     refine AWp_region hP ?_
     refine RK.V (op_move (rfl : _ = AV.vec _)) ?_
     refine RK.M rfl ?_
     refine RK.M rfl ?_
     refine RK.V (op_conv hT rfl rfl rfl rfl (u32N dg.q_lt)) ?_
     refine RK.V (by first | exact op_index_vecWN hT rfl rfl rfl rfl rfl rfl rfl (by first | omega | (simp; omega)) | exact op_index_vecW hT rfl rfl rfl rfl rfl rfl rfl (by first | omega | (simp; omega))) ?_
     refine RK.sto guard_none (op_storeWv hT rfl rfl rfl rfl rfl (by first | omega | (simp; omega)) rfl) ?_
     refine RK.D ?_
     refine AWp_region hP ?_
     refine RK.M rfl ?_
     refine RK.V (op_sub rfl rfl (by first | exact IntWalk.i64_in _ (by omega) | rfl)) ?_
     refine RK.As rfl ?_
     refine RK.D ?_
     have hdn := dg.done hok1 hl1 hfin
     exact ⟨(u1, q.set j (digq v u j), j), ⟨by omega, hok1, by simpa using hlq, hqok.set dg.q_lt, by simp; omega, hdn, div_outer (by omega) hM hfin⟩, by show j < j + 1; omega, (le_stL ⟨.refl _, .refl _, .refl _, .refl _, .refl _, .refl _, trivial⟩ ⟨rfl, rfl, trivial⟩)⟩
   ·have hb3_ := of_decide_eq_false hb3
    have hie : i = 0 := by omega
    subst hie
    rw [List.drop_zero] at hlow hM
    rw [Nat.pow_zero, Nat.one_mul] at hM
    have hE : a / b = wv q ∧ a % b = wv u / 2 ^ s := div_end (m := a) (b := b) (s := s) (q := wv q) (r := wv u) (hwv ▸ hM) (hwv ▸ hlow)
    have hlt2 : wv u < 4294967296 ^ (k + 2) := Nat.lt_trans hlow (by have := wv_lt okv; rwa [hn1] at this)
    have htk : wv (u.take (k + 2)) = wv u := by
     have e := wv_split u (k + 2) (by omega)
     rcases Nat.eq_zero_or_pos (wv (u.drop (k + 2))) with h | h
     ·rw [h, Nat.mul_zero] at e; omega
     ·have := Nat.le_mul_of_pos_right (4294967296 ^ (k + 2)) h
      omega
    have hshl : (wl (wv (u.take (k + 2)))).length ≤ 1099511627776 := by
     have := wl_len_le (htk.symm ▸ hlt2 : wv (u.take (k + 2)) < 4294967296 ^ (k + 2))
     omega
    refine AWp_exit ?_
    refine AWp_freezeW (t := 12) rfl rfl ?_
    refine AWp_freezeW (t := 11) rfl rfl ?_
    refine AWp_sr hP ?_
    refine RK.M rfl ?_
    refine RK.V (Eff.call0 (nat_trim _ hqok)) ?_
    refine RK.M rfl ?_
    refine RK.M rfl ?_
    refine RK.V (op_slice_hW hT rfl rfl rfl rfl rfl rfl (by omega)) ?_
    refine RK.V (Eff.call0 (nat_trim _ (hok.take _))) ?_
    refine RK.M rfl ?_
    refine RK.V (Eff.call0 (nat_shr (wl (wv (u.take (k + 2)))) s (wl_ok _) hshl hs32)) ?_
    refine RK.As rfl ?_
    refine RK.As rfl ?_
    refine RK.D ?_
    refine AWp_ret ?_
    refine ends_two rfl (.inr rfl) (res_tmp rfl) (res_tmp rfl) ?_ O_ends
    exact Sub.of_eq (by rw [wv_wl, htk, hE.1, hE.2])
end Go.Proofs.YtfdjankalhfceaaGreat
end

section
/- bits -/
namespace Go.Proofs.YtfdjankalhfceaaGreat
open Go Go.AM
/- (algorist/integer.nat).bits -/
set_option maxHeartbeats 1000000 in
set_option maxRecDepth 100000 in
theorem nat_bits (m : Nat) :
  Call0 Tryz.prog 150 [.p (.c (nt m))] (Z (blen m)) := by
 refine callM_of (np := 0) Tryz.func150 (by kernel_rfl) rfl rfl (Nat.le_of_ble_eq_true rfl) (fun m h => absurd rfl h) (fun m h => absurd rfl h) rfl ?_
 refine AWp_len (t := 0) rfl rfl (fun hlen => ?_)
 have hb32 : ∀ x : Nat, x < 4294967296 → blen x ≤ 32 := fun x h => blen_le (k := 32) h
 refine AWp_sr hP ?_
 refine RK.As rfl ?_
 refine RK.D ?_
 refine AWp_seq ?_
 refine AWp_sr hP ?_
 refine RK.M rfl ?_
 refine RK.V (op_len hT rfl rfl rfl rfl) ?_
 refine RK.V (op_eql rfl rfl) ?_
 refine RK.D ?_
 refine AWp_cond rfl (fun hb1 => ?_) (fun hb1 => ?_)
 ·have hb1_ := bT hb1
  refine AWp_sr hP ?_
  refine RK.As rfl ?_
  refine RK.D ?_
  refine AWp_ret ?_
  refine ends_one rfl (.inr rfl) (res_tmp rfl) ?_ O_ends
  have h0 : wl m = [] := by
   rcases h : wl m with _ | ⟨x, r⟩
   ·rfl
   ·rw [h] at hb1_; simp at hb1_; omega
  have : m = 0 := by rw [← wv_wl m, h0]; rfl
  exact Sub.int (by rw [this]; rfl)
 ·have hb1_ := bF hb1
  refine AWp_skip ?_
  refine AWp_sr hP ?_
  refine RK.M rfl ?_
  refine RK.V (op_len hT rfl rfl rfl rfl) ?_
  refine RK.V (op_sub rfl rfl (by first | exact IntWalk.i64_in _ (by omega) | rfl)) ?_
  refine RK.V (op_mul rfl rfl (by first | exact IntWalk.i64_in _ (by omega) | rfl)) ?_
  refine RK.M rfl ?_
  refine RK.M rfl ?_
  refine RK.V (op_len hT rfl rfl rfl rfl) ?_
  refine RK.V (op_sub rfl rfl (by first | exact IntWalk.i64_in _ (by omega) | rfl)) ?_
  refine RK.V (by first | exact op_index_WN hT rfl rfl rfl rfl rfl rfl (by omega) | exact op_index_sl hT rfl rfl rfl rfl rfl rfl (by omega) (by first | exact W_ne (by omega) | simp)) ?_
  refine RK.V (op_load_ip_one hT rfl rfl rfl (by first | rfl | exact wget (by omega))) ?_
  refine RK.V (Eff.call0 (len32 _ ((wl_ok m).getD _))) ?_
  refine RK.V (op_add rfl rfl (IntWalk.i64_in _ (by have := hb32 _ ((wl_ok m).getD (((wl m).length : Int) - 1).toNat); omega))) ?_
  refine RK.As rfl ?_
  refine RK.D ?_
  refine AWp_ret ?_
  refine ends_one rfl (.inr rfl) (res_tmp rfl) ?_ O_ends
  obtain ⟨k, hk⟩ : ∃ k, (wl m).length = k + 1 := ⟨(wl m).length - 1, by omega⟩
  have hkk : (((wl m).length : Int) - 1).toNat = k := by omega
  exact Sub.int (by rw [hkk, blen_top hk]; omega)
end Go.Proofs.YtfdjankalhfceaaGreat
end

section
/- integer: of, Abs, Neg, Add, Sub, Mul -/
namespace Go.Proofs.YtfdjankalhfceaaGreat
open Go Go.AM
/- algorist/integer.of -/
set_option maxHeartbeats 1000000 in
set_option maxRecDepth 100000 in
theorem int_of (neg : Bool) (ws : List Nat) (h : okW ws) :
  Call0 Tryz.prog 55 [B neg, .p (.c (W ws))] (I (sg neg (wv ws))) := by
 refine callM_of (np := 0) Tryz.func55 (by kernel_rfl) rfl rfl (Nat.le_of_ble_eq_true rfl) (fun m h => absurd rfl h) (fun m h => absurd rfl h) rfl ?_
 refine AWp_sr hP ?_
 refine RK.alc guard_none (op_alloc hT rfl rfl) ?_
 refine RK.D ?_
 refine AWp_sr hP ?_
 refine RK.M rfl ?_
 refine RK.V (Eff.call0 (nat_trim _ h)) ?_
 refine RK.As rfl ?_
 refine RK.D ?_
 refine AWp_seq ?_
 refine AWp_sr hP ?_
 refine RK.M rfl ?_
 refine RK.V (op_len hT rfl rfl rfl rfl) ?_
 refine RK.V (op_eql rfl rfl) ?_
 refine RK.D ?_
 refine AWp_cond rfl (fun hb1 => ?_) (fun hb1 => ?_)
 ·have hb1_ := bT hb1
  refine AWp_sr hP ?_
  refine RK.V (op_build_st hT rfl rfl rfl (es := [_, _]) rfl) ?_
  refine RK.S hT rfl rfl rfl rfl rfl rfl rfl ?_
  refine RK.D ?_
  refine AWp_ret ?_
  refine ends_one rfl (.inr rfl) (res_cell_agg hT rfl rfl rfl rfl (cs := [_, _]) rfl rfl) ?_ O_ends
  have h0 : wv ws = 0 := wl_len0 (by omega)
  rw [h0, sg_zero]
  exact .refl _
 ·have hb1_ := bF hb1
  refine AWp_skip ?_
  refine AWp_sr hP ?_
  refine RK.M rfl ?_
  refine RK.M rfl ?_
  refine RK.V (op_build_st hT rfl rfl rfl (es := [_, _]) rfl) ?_
  refine RK.S hT rfl rfl rfl rfl rfl rfl rfl ?_
  refine RK.D ?_
  refine AWp_ret ?_
  refine ends_one rfl (.inr rfl) (res_cell_agg hT rfl rfl rfl rfl (cs := [_, _]) rfl rfl) ?_ O_ends
  have h0 : 0 < wv ws := by
   rcases Nat.eq_zero_or_pos (wv ws) with e | e
   ·rw [e] at hb1_; exact absurd rfl hb1_
   ·exact e
  exact Sub.of_eq (by show _ = AV.p (.a [zn _, zm _]); rw [zn_sg h0, zm_sg])
/- algorist/integer.Abs -/
set_option maxHeartbeats 1000000 in
set_option maxRecDepth 100000 in
theorem int_Abs (x : Int) :
  Call0 Tryz.prog 57 [I x] (I x.natAbs) := by
 refine callM_of (np := 0) Tryz.func57 (by kernel_rfl) rfl rfl (Nat.le_of_ble_eq_true rfl) (fun m h => absurd rfl h) (fun m h => absurd rfl h) rfl ?_
 refine AWp_sr hP ?_
 refine RK.alc guard_none (op_box rfl rfl) ?_
 refine RK.alc guard_none (op_alloc hT rfl rfl) ?_
 refine RK.D ?_
 refine AWp_sr hP ?_
 refine RK.F hT rfl rfl rfl rfl rfl rfl ?_
 refine RK.V (op_load_one hT rfl rfl rfl rfl (by first | rfl | exact vget (by omega))) ?_
 refine RK.V (Eff.call0 (int_of _ (wl x.natAbs) (wl_ok _))) ?_
 refine RK.S hT rfl rfl rfl rfl rfl rfl rfl ?_
 refine RK.D ?_
 refine AWp_ret ?_
 refine ends_one rfl (.inr rfl) (res_cell_agg hT rfl rfl rfl rfl (cs := [_, _]) rfl rfl) ?_ O_ends
 exact Sub.I (abs_sg x)
/- algorist/integer.Neg -/
set_option maxHeartbeats 1000000 in
set_option maxRecDepth 100000 in
theorem int_Neg (x : Int) :
  Call0 Tryz.prog 24 [I x] (I (-x)) := by
 refine callM_of (np := 0) Tryz.func24 (by kernel_rfl) rfl rfl (Nat.le_of_ble_eq_true rfl) (fun m h => absurd rfl h) (fun m h => absurd rfl h) rfl ?_
 refine AWp_sr hP ?_
 refine RK.alc guard_none (op_box rfl rfl) ?_
 refine RK.alc guard_none (op_alloc hT rfl rfl) ?_
 refine RK.D ?_
 refine AWp_sr hP ?_
 refine RK.F hT rfl rfl rfl rfl rfl rfl ?_
 refine RK.V (op_load_one hT rfl rfl rfl rfl (by first | rfl | exact vget (by omega))) ?_
 refine RK.V (op_unot rfl) ?_
 refine RK.F hT rfl rfl rfl rfl rfl rfl ?_
 refine RK.V (op_load_one hT rfl rfl rfl rfl (by first | rfl | exact vget (by omega))) ?_
 refine RK.V (Eff.call0 (int_of _ (wl x.natAbs) (wl_ok _))) ?_
 refine RK.S hT rfl rfl rfl rfl rfl rfl rfl ?_
 refine RK.D ?_
 refine AWp_ret ?_
 refine ends_one rfl (.inr rfl) (res_cell_agg hT rfl rfl rfl rfl (cs := [_, _]) rfl rfl) ?_ O_ends
 exact Sub.I (neg_sg x)
/- algorist/integer.Add -/
set_option maxHeartbeats 1000000 in
set_option maxRecDepth 100000 in
theorem int_Add (x y : Int) (hx : L 45 x) (hy : L 45 y) :
  Call0 Tryz.prog 56 [I x, I y] (I (x + y)) := by
 refine callM_of (np := 0) Tryz.func56 (by kernel_rfl) rfl rfl (Nat.le_of_ble_eq_true rfl) (fun m h => absurd rfl h) (fun m h => absurd rfl h) rfl ?_
 refine AWp_sr hP ?_
 refine RK.alc guard_none (op_box rfl rfl) ?_
 refine RK.alc guard_none (op_box rfl rfl) ?_
 refine RK.alc guard_none (op_alloc hT rfl rfl) ?_
 refine RK.D ?_
 refine AWp_sr hP ?_
 refine RK.F hT rfl rfl rfl rfl rfl rfl ?_
 refine RK.V (op_load_one hT rfl rfl rfl rfl (by first | rfl | exact vget (by omega))) ?_
 refine RK.F hT rfl rfl rfl rfl rfl rfl ?_
 refine RK.V (op_load_one hT rfl rfl rfl rfl (by first | rfl | exact vget (by omega))) ?_
 refine RK.As rfl ?_
 refine RK.As rfl ?_
 refine RK.D ?_
 refine AWp_seq ?_
 refine AWp_block ?_
 refine AWp_sr hP ?_
 refine RK.F hT rfl rfl rfl rfl rfl rfl ?_
 refine RK.V (op_load_one hT rfl rfl rfl rfl (by first | rfl | exact vget (by omega))) ?_
 refine RK.F hT rfl rfl rfl rfl rfl rfl ?_
 refine RK.V (op_load_one hT rfl rfl rfl rfl (by first | rfl | exact vget (by omega))) ?_
 refine RK.V (op_beq hT rfl rfl rfl rfl) ?_
 refine RK.As rfl ?_
 refine RK.D ?_
 refine AWp_cond rfl (fun hb1 => ?_) (fun hb1 => ?_)
 ·refine AWp_sr hP ?_
  refine RK.F hT rfl rfl rfl rfl rfl rfl ?_
  refine RK.V (op_load_one hT rfl rfl rfl rfl (by first | rfl | exact vget (by omega))) ?_
  refine RK.M rfl ?_
  refine RK.M rfl ?_
  refine RK.V (Eff.call0 (nat_add (wl x.natAbs) (wl y.natAbs) (wl_ok _) (wl_ok _) (sz hx) (sz hy))) ?_
  refine RK.V (Eff.call0 (int_of _ _ (wl_ok _))) ?_
  refine RK.S hT rfl rfl rfl rfl rfl rfl rfl ?_
  refine RK.D ?_
  refine AWp_ret ?_
  refine ends_one rfl (.inr rfl) (res_cell_agg hT rfl rfl rfl rfl (cs := [_, _]) rfl rfl) ?_ O_ends
  exact Sub.I (by rw [wv_wl]; exact add_same (by assumption))
 ·refine AWp_sr hP ?_
  refine RK.M rfl ?_
  refine RK.M rfl ?_
  refine RK.V (Eff.call0 (nat_cmp x.natAbs y.natAbs)) ?_
  refine RK.V (op_lss rfl rfl) ?_
  refine RK.As rfl ?_
  refine RK.D ?_
  refine AWp_cond rfl (fun hb2 => ?_) (fun hb2 => ?_)
  ·have hb2_ := of_decide_eq_true hb2
   have hc := cmp_lt (m := x.natAbs) (n := y.natAbs) (by assumption)
   refine AWp_sr hP ?_
   refine RK.F hT rfl rfl rfl rfl rfl rfl ?_
   refine RK.V (op_load_one hT rfl rfl rfl rfl (by first | rfl | exact vget (by omega))) ?_
   refine RK.M rfl ?_
   refine RK.M rfl ?_
   refine RK.V (Eff.call0 (nat_sub (wl y.natAbs) (wl x.natAbs) (wl_ok _) (wl_ok _) (sz hy) (wl_len_mono (by omega)) (by rw [wv_wl, wv_wl]; omega))) ?_
   refine RK.V (Eff.call0 (int_of _ _ (wl_ok _))) ?_
   refine RK.S hT rfl rfl rfl rfl rfl rfl rfl ?_
   refine RK.D ?_
   refine AWp_ret ?_
   refine ends_one rfl (.inr rfl) (res_cell_agg hT rfl rfl rfl rfl (cs := [_, _]) rfl rfl) ?_ O_ends
   exact Sub.I (by rw [wv_wl]; exact add_lt (by assumption) hc)
  ·have hb2_ := of_decide_eq_false hb2
   have hc := cmp_ge (m := x.natAbs) (n := y.natAbs) (by assumption)
   refine AWp_skip ?_
   refine AWp_sr hP ?_
   refine RK.F hT rfl rfl rfl rfl rfl rfl ?_
   refine RK.V (op_load_one hT rfl rfl rfl rfl (by first | rfl | exact vget (by omega))) ?_
   refine RK.M rfl ?_
   refine RK.M rfl ?_
   refine RK.V (Eff.call0 (nat_sub (wl x.natAbs) (wl y.natAbs) (wl_ok _) (wl_ok _) (sz hx) (wl_len_mono hc) (by rw [wv_wl, wv_wl]; exact hc))) ?_
   refine RK.V (Eff.call0 (int_of _ _ (wl_ok _))) ?_
   refine RK.S hT rfl rfl rfl rfl rfl rfl rfl ?_
   refine RK.D ?_
   refine AWp_ret ?_
   refine ends_one rfl (.inr rfl) (res_cell_agg hT rfl rfl rfl rfl (cs := [_, _]) rfl rfl) ?_ O_ends
   exact Sub.I (by rw [wv_wl]; exact add_ge (by assumption) hc)
/- algorist/integer.Sub -/
set_option maxHeartbeats 1000000 in
set_option maxRecDepth 100000 in
theorem int_Sub (x y : Int) (hx : L 45 x) (hy : L 45 y) :
  Call0 Tryz.prog 58 [I x, I y] (I (x - y)) := by
 refine callM_of (np := 0) Tryz.func58 (by kernel_rfl) rfl rfl (Nat.le_of_ble_eq_true rfl) (fun m h => absurd rfl h) (fun m h => absurd rfl h) rfl ?_
 refine AWp_sr hP ?_
 refine RK.alc guard_none (op_box rfl rfl) ?_
 refine RK.alc guard_none (op_box rfl rfl) ?_
 refine RK.alc guard_none (op_alloc hT rfl rfl) ?_
 refine RK.D ?_
 refine AWp_sr hP ?_
 refine RK.G2 hT rfl rfl rfl rfl rfl rfl ?_
 refine RK.G2 hT rfl rfl rfl rfl rfl rfl ?_
 refine RK.V (Eff.call0 (int_Neg y)) ?_
 refine RK.V (Eff.call0 (int_Add x (-y) hx hy.neg)) ?_
 refine RK.S hT rfl rfl rfl rfl rfl rfl rfl ?_
 refine RK.D ?_
 refine AWp_ret ?_
 refine ends_one rfl (.inr rfl) (res_cell_agg hT rfl rfl rfl rfl (cs := [_, _]) rfl rfl) ?_ O_ends
 exact Sub.I (by omega)
/- algorist/integer.Mul -/
set_option maxHeartbeats 1000000 in
set_option maxRecDepth 100000 in
theorem int_Mul (x y : Int) (hx : L 45 x) (hy : L 45 y) :
  Call0 Tryz.prog 29 [I x, I y] (I (x * y)) := by
 refine callM_of (np := 0) Tryz.func29 (by kernel_rfl) rfl rfl (Nat.le_of_ble_eq_true rfl) (fun m h => absurd rfl h) (fun m h => absurd rfl h) rfl ?_
 refine AWp_sr hP ?_
 refine RK.alc guard_none (op_box rfl rfl) ?_
 refine RK.alc guard_none (op_box rfl rfl) ?_
 refine RK.alc guard_none (op_alloc hT rfl rfl) ?_
 refine RK.D ?_
 refine AWp_sr hP ?_
 refine RK.F hT rfl rfl rfl rfl rfl rfl ?_
 refine RK.V (op_load_one hT rfl rfl rfl rfl (by first | rfl | exact vget (by omega))) ?_
 refine RK.F hT rfl rfl rfl rfl rfl rfl ?_
 refine RK.V (op_load_one hT rfl rfl rfl rfl (by first | rfl | exact vget (by omega))) ?_
 refine RK.V (op_bne hT rfl rfl rfl rfl) ?_
 refine RK.F hT rfl rfl rfl rfl rfl rfl ?_
 refine RK.V (op_load_one hT rfl rfl rfl rfl (by first | rfl | exact vget (by omega))) ?_
 refine RK.F hT rfl rfl rfl rfl rfl rfl ?_
 refine RK.V (op_load_one hT rfl rfl rfl rfl (by first | rfl | exact vget (by omega))) ?_
 refine RK.V (Eff.call0 (nat_mul (wl x.natAbs) (wl y.natAbs) (wl_ok _) (wl_ok _) (sz hx) (sz hy))) ?_
 refine RK.V (Eff.call0 (int_of _ _ (wl_ok _))) ?_
 refine RK.S hT rfl rfl rfl rfl rfl rfl rfl ?_
 refine RK.D ?_
 refine AWp_ret ?_
 refine ends_one rfl (.inr rfl) (res_cell_agg hT rfl rfl rfl rfl (cs := [_, _]) rfl rfl) ?_ O_ends
 exact Sub.I (by rw [wv_wl]; exact mul_sg x y)
end Go.Proofs.YtfdjankalhfceaaGreat
end

section
/- integer: Sign Cmp Bits Valid Of DivMod mod Gcd power -/
namespace Go.Proofs.YtfdjankalhfceaaGreat
open Go Go.AM
/- algorist/integer.Sign -/
set_option maxHeartbeats 1000000 in
set_option maxRecDepth 100000 in
theorem int_Sign (x : Int) :
  Call0 Tryz.prog 16 [I x] (Z (sgn x)) := by
 refine callM_of (np := 0) Tryz.func16 (by kernel_rfl) rfl rfl (Nat.le_of_ble_eq_true rfl) (fun m h => absurd rfl h) (fun m h => absurd rfl h) rfl ?_
 refine AWp_sr hP ?_
 refine RK.alc guard_none (op_box rfl rfl) ?_
 refine RK.As rfl ?_
 refine RK.D ?_
 refine AWp_seq ?_
 refine AWp_block ?_
 refine AWp_sr hP ?_
 refine RK.F hT rfl rfl rfl rfl rfl rfl ?_
 refine RK.V (op_load_one hT rfl rfl rfl rfl (by first | rfl | exact vget (by omega))) ?_
 refine RK.V (op_len hT rfl rfl rfl rfl) ?_
 refine RK.V (op_eql rfl rfl) ?_
 refine RK.As rfl ?_
 refine RK.D ?_
 refine AWp_cond rfl (fun hb1 => ?_) (fun hb1 => ?_)
 ·have hb1_ := bT hb1
  refine AWp_sr hP ?_
  refine RK.As rfl ?_
  refine RK.D ?_
  refine AWp_ret ?_
  refine ends_one rfl (.inr rfl) (res_tmp rfl) ?_ O_ends
  have h0 := wl_len_zero.1 hb1_
  exact Sub.int (by rw [h0]; rfl)
 ·have hb1_ := bF hb1
  refine AWp_sr hP ?_
  refine RK.F hT rfl rfl rfl rfl rfl rfl ?_
  refine RK.V (op_load_one hT rfl rfl rfl rfl (by first | rfl | exact vget (by omega))) ?_
  refine RK.As rfl ?_
  refine RK.D ?_
  refine AWp_cond rfl (fun hb2 => ?_) (fun hb2 => ?_)
  ·refine AWp_sr hP ?_
   refine RK.As rfl ?_
   refine RK.D ?_
   refine AWp_ret ?_
   refine ends_one rfl (.inr rfl) (res_tmp rfl) ?_ O_ends
   exact Sub.int (sgn_neg hb2).symm
  ·refine AWp_skip ?_
   refine AWp_sr hP ?_
   refine RK.As rfl ?_
   refine RK.D ?_
   refine AWp_ret ?_
   refine ends_one rfl (.inr rfl) (res_tmp rfl) ?_ O_ends
   have h0 : x ≠ 0 := fun e => hb1_ (wl_len_zero.2 e)
   exact Sub.int (sgn_pos h0 hb2).symm
/- algorist/integer.Cmp -/
set_option maxHeartbeats 1000000 in
set_option maxRecDepth 100000 in
theorem int_Cmp (x y : Int) :
  Call0 Tryz.prog 6 [I x, I y] (Z (cmpI x y)) := by
 refine callM_of (np := 0) Tryz.func6 (by kernel_rfl) rfl rfl (Nat.le_of_ble_eq_true rfl) (fun m h => absurd rfl h) (fun m h => absurd rfl h) rfl ?_
 refine AWp_sr hP ?_
 refine RK.alc guard_none (op_box rfl rfl) ?_
 refine RK.alc guard_none (op_box rfl rfl) ?_
 refine RK.As rfl ?_
 refine RK.D ?_
 refine AWp_seq ?_
 refine AWp_sr hP ?_
 refine RK.F hT rfl rfl rfl rfl rfl rfl ?_
 refine RK.V (op_load_one hT rfl rfl rfl rfl (by first | rfl | exact vget (by omega))) ?_
 refine RK.F hT rfl rfl rfl rfl rfl rfl ?_
 refine RK.V (op_load_one hT rfl rfl rfl rfl (by first | rfl | exact vget (by omega))) ?_
 refine RK.V (op_bne hT rfl rfl rfl rfl) ?_
 refine RK.D ?_
 refine AWp_cond rfl (fun hb1 => ?_) (fun hb1 => ?_)
 ·refine AWp_sr hP ?_
  refine RK.G2 hT rfl rfl rfl rfl rfl rfl ?_
  refine RK.V (Eff.call0 (int_Sign _)) ?_
  refine RK.G2 hT rfl rfl rfl rfl rfl rfl ?_
  refine RK.V (Eff.call0 (int_Sign _)) ?_
  refine RK.V (Eff.call0 (compare_int _ _)) ?_
  refine RK.As rfl ?_
  refine RK.D ?_
  refine AWp_ret ?_
  refine ends_one rfl (.inr rfl) (res_tmp rfl) ?_ O_ends
  exact Sub.int (cmp_diff hb1)
 ·refine AWp_skip ?_
  refine AWp_sr hP ?_
  refine RK.F hT rfl rfl rfl rfl rfl rfl ?_
  refine RK.V (op_load_one hT rfl rfl rfl rfl (by first | rfl | exact vget (by omega))) ?_
  refine RK.F hT rfl rfl rfl rfl rfl rfl ?_
  refine RK.V (op_load_one hT rfl rfl rfl rfl (by first | rfl | exact vget (by omega))) ?_
  refine RK.V (Eff.call0 (nat_cmp x.natAbs y.natAbs)) ?_
  refine RK.G2 hT rfl rfl rfl rfl rfl rfl ?_
  refine RK.V (Eff.call0 (int_Sign _)) ?_
  refine RK.V (op_bslice hT rfl rfl rfl (es := [_, _]) rfl rfl rfl) ?_
  refine RK.V (Eff.call0 (or_int _ _)) ?_
  refine RK.V (op_mul rfl rfl (cmp_same hb1)) ?_
  refine RK.As rfl ?_
  refine RK.D ?_
  refine AWp_ret ?_
  refine ends_one rfl (.inr rfl) (res_tmp rfl) ?_ O_ends
  exact .refl _
/- algorist/integer.Bits -/
set_option maxHeartbeats 1000000 in
set_option maxRecDepth 100000 in
theorem int_Bits (x : Int) :
  Call0 Tryz.prog 129 [I x] (Z (blen x.natAbs)) := by
 refine callM_of (np := 0) Tryz.func129 (by kernel_rfl) rfl rfl (Nat.le_of_ble_eq_true rfl) (fun m h => absurd rfl h) (fun m h => absurd rfl h) rfl ?_
 refine AWp_sr hP ?_
 refine RK.alc guard_none (op_box rfl rfl) ?_
 refine RK.As rfl ?_
 refine RK.D ?_
 refine AWp_sr hP ?_
 refine RK.F hT rfl rfl rfl rfl rfl rfl ?_
 refine RK.V (op_load_one hT rfl rfl rfl rfl (by first | rfl | exact vget (by omega))) ?_
 refine RK.V (Eff.call0 (nat_bits x.natAbs)) ?_
 refine RK.As rfl ?_
 refine RK.D ?_
 refine AWp_ret ?_
 refine ends_one rfl (.inr rfl) (res_tmp rfl) ?_ O_ends
 exact .refl _
/- algorist/integer.Of -/
set_option maxHeartbeats 1000000 in
set_option maxRecDepth 100000 in
theorem int_Of (z : Int) (hz : InI64 z) :
  Call0 Tryz.prog 27 [.p (.c (.v (.int .i64 z)))] (I z) := by
 have hz1 : z.natAbs < 18446744073709551616 := by unfold InI64 at hz; omega
 refine callM_of (np := 0) Tryz.func27 (by kernel_rfl) rfl rfl (Nat.le_of_ble_eq_true rfl) (fun m h => absurd rfl h) (fun m h => absurd rfl h) rfl ?_
 refine AWp_sr hP ?_
 refine RK.alc guard_none (op_alloc hT rfl rfl) ?_
 refine RK.D ?_
 refine AWp_sr hP ?_
 refine RK.M rfl ?_
 refine RK.M rfl ?_
 refine RK.V (op_uneg rfl rfl) ?_
 refine RK.V (op_max rfl rfl) ?_
 refine RK.V (op_conv hT rfl rfl rfl rfl (c := ((z.natAbs : Nat) : Int)) (u64_abs hz)) ?_
 refine RK.As rfl ?_
 refine RK.D ?_
 refine AWp_sr hP ?_
 refine RK.M rfl ?_
 refine RK.V (op_lss rfl rfl) ?_
 refine RK.M rfl ?_
 refine RK.V (op_conv hT rfl rfl rfl rfl (u32_lo _)) ?_
 refine RK.M rfl ?_
 refine RK.V (op_shrN (j := 32) rfl rfl (by decide)) ?_
 refine RK.V (op_conv hT rfl rfl rfl rfl (c := ((z.natAbs / 2 ^ 32 : Nat) : Int)) (by simp only [IntKind.wrap_u32]; omega)) ?_
 refine RK.V (op_bslice hT rfl rfl rfl (es := [_, _]) rfl rfl rfl) ?_
 refine RK.V (Eff.call0 (int_of _ [z.natAbs % 4294967296, z.natAbs / 2 ^ 32] (okW_two (by omega)))) ?_
 refine RK.S hT rfl rfl rfl rfl rfl rfl rfl ?_
 refine RK.D ?_
 refine AWp_ret ?_
 refine ends_one rfl (.inr rfl) (res_cell_agg hT rfl rfl rfl rfl (cs := [_, _]) rfl rfl) ?_ O_ends
 exact Sub.I (by rw [wv_two]; exact of_sg)
theorem int_ofN (neg : Bool) (m : Nat) : Call0 Tryz.prog 55 [B neg, .p (.c (nt m))] (I (sg neg m)) := by
 have h := int_of neg (wl m) (wl_ok m)
 rwa [wv_wl] at h
/- algorist/integer.DivMod -/
set_option maxHeartbeats 1000000 in
set_option maxRecDepth 100000 in
theorem int_DivMod (x y : Int) (hx : L 44 x) (hy : L 44 y) (h0 : y ≠ 0) :
  Call0 Tryz.prog 20 [I x, I y] (.t [PI (x / y), PI (x % y), PE 0]) := by
 have hq : L 44 (sg (!(decide (x < 0) == decide (y < 0))) (x.natAbs / y.natAbs)) := L.of_le hx (by rw [sg_abs]; exact Nat.div_le_self _ _)
 have hr : L 44 (sg (decide (x < 0)) (x.natAbs % y.natAbs)) := L.of_le hx (by rw [sg_abs]; exact Nat.mod_le _ _)
 refine callM_of (np := 0) Tryz.func20 (by kernel_rfl) rfl rfl (Nat.le_of_ble_eq_true rfl) (fun m h => absurd rfl h) (fun m h => absurd rfl h) rfl ?_
 refine AWp_sr hP ?_
 refine RK.alc guard_none (op_box rfl rfl) ?_
 refine RK.alc guard_none (op_box rfl rfl) ?_
 refine RK.alc guard_none (op_alloc hT rfl rfl) ?_
 refine RK.alc guard_none (op_alloc hT rfl rfl) ?_
 refine RK.As rfl ?_
 refine RK.D ?_
 refine AWp_seq ?_
 refine AWp_sr hP ?_
 refine RK.F hT rfl rfl rfl rfl rfl rfl ?_
 refine RK.V (op_load_one hT rfl rfl rfl rfl (by first | rfl | exact vget (by omega))) ?_
 refine RK.V (op_len hT rfl rfl rfl rfl) ?_
 refine RK.V (op_eql rfl rfl) ?_
 refine RK.D ?_
 refine AWp_cond rfl (fun hb1 => ?_) (fun hb1 => ?_)
 ·have hb1_ := bT hb1
  exact absurd (wl_len_zero.1 hb1_) h0 --dead
 ·have hb1_ := bF hb1
  refine AWp_skip ?_
  refine AWp_sr hP ?_
  refine RK.F hT rfl rfl rfl rfl rfl rfl ?_
  refine RK.V (op_load_one hT rfl rfl rfl rfl (by first | rfl | exact vget (by omega))) ?_
  refine RK.F hT rfl rfl rfl rfl rfl rfl ?_
  refine RK.V (op_load_one hT rfl rfl rfl rfl (by first | rfl | exact vget (by omega))) ?_
  refine RK.V (Eff.call0 (nat_div x.natAbs y.natAbs (sz (hx.mono (by decide))) (by omega))) ?_
  refine RK.V (op_move (rfl : _ = AV.t _)) ?_
  refine RK.V (op_extract rfl (v := .c _) rfl) ?_
  refine RK.V (op_extract rfl (v := .c _) rfl) ?_
  refine RK.As rfl ?_
  refine RK.As rfl ?_
  refine RK.D ?_
  refine AWp_sr hP ?_
  refine RK.F hT rfl rfl rfl rfl rfl rfl ?_
  refine RK.V (op_load_one hT rfl rfl rfl rfl (by first | rfl | exact vget (by omega))) ?_
  refine RK.F hT rfl rfl rfl rfl rfl rfl ?_
  refine RK.V (op_load_one hT rfl rfl rfl rfl (by first | rfl | exact vget (by omega))) ?_
  refine RK.V (op_bne hT rfl rfl rfl rfl) ?_
  refine RK.M rfl ?_
  refine RK.V (Eff.call0 (int_ofN _ _)) ?_
  refine RK.F hT rfl rfl rfl rfl rfl rfl ?_
  refine RK.V (op_load_one hT rfl rfl rfl rfl (by first | rfl | exact vget (by omega))) ?_
  refine RK.M rfl ?_
  refine RK.V (Eff.call0 (int_ofN _ _)) ?_
  refine RK.alc guard_none (op_alloc hT rfl rfl) ?_
  refine RK.alc guard_none (op_alloc hT rfl rfl) ?_
  refine RK.S hT rfl rfl rfl rfl rfl rfl rfl ?_
  refine RK.S hT rfl rfl rfl rfl rfl rfl rfl ?_
  refine RK.D ?_
  refine AWp_seq ?_
  refine AWp_sr hP ?_
  refine RK.F hT rfl rfl rfl rfl rfl rfl ?_
  refine RK.V (op_load_one hT rfl rfl rfl rfl (by first | rfl | exact vget (by omega))) ?_
  refine RK.D ?_
  refine AWp_cond rfl (fun hb2 => ?_) (fun hb2 => ?_)
  ·have e1 := (divmod_neg h0 (of_decide_eq_true hb2)).1
   have e2 := (divmod_neg h0 (of_decide_eq_true hb2)).2
   refine AWp_sr hP ?_
   refine RK.G2 hT rfl rfl rfl rfl rfl rfl ?_
   refine RK.G2 hT rfl rfl rfl rfl rfl rfl ?_
   refine RK.V (Eff.call0 (int_Abs _)) ?_
   refine RK.V (Eff.call0 (int_Add _ _ (hr.mono (by decide)) (hy.abs.mono (by decide)))) ?_
   refine RK.S hT rfl rfl rfl rfl rfl rfl rfl ?_
   refine RK.D ?_
   refine AWp_region hP ?_
   refine RK.G2 hT rfl rfl rfl rfl rfl rfl ?_
   refine RK.G2 hT rfl rfl rfl rfl rfl rfl ?_
   refine RK.V (Eff.call0 (int_Sign _)) ?_
   refine RK.V (Eff.call0 (int_Of (sgn y) (by unfold sgn; split <;> (try split) <;> decide))) ?_
   refine RK.V (Eff.call0 (int_Sub _ _ (hq.mono (by decide)) ((L_sgn y).mono (by decide)))) ?_
   refine RK.S hT rfl rfl rfl rfl rfl rfl rfl ?_
   refine RK.D ?_
   refine AWp_sr hP ?_
   refine RK.G2 hT rfl rfl rfl rfl rfl rfl ?_
   refine RK.G2 hT rfl rfl rfl rfl rfl rfl ?_
   refine RK.S hT rfl rfl rfl rfl rfl rfl rfl ?_
   refine RK.S hT rfl rfl rfl rfl rfl rfl rfl ?_
   refine RK.As rfl ?_
   refine RK.D ?_
   refine AWp_ret ?_
   refine ends_three rfl (.inr rfl) (res_cell_agg hT rfl rfl rfl rfl (cs := [_, _]) rfl rfl) (res_cell_agg hT rfl rfl rfl rfl (cs := [_, _]) rfl rfl) (res_tmp rfl) ?_ O_ends
   exact Sub.of_eq (by rw [e1, e2])
  ·have e1 := (divmod_pos h0 (of_decide_eq_false hb2)).1
   have e2 := (divmod_pos h0 (of_decide_eq_false hb2)).2
   refine AWp_skip ?_
   refine AWp_sr hP ?_
   refine RK.G2 hT rfl rfl rfl rfl rfl rfl ?_
   refine RK.G2 hT rfl rfl rfl rfl rfl rfl ?_
   refine RK.S hT rfl rfl rfl rfl rfl rfl rfl ?_
   refine RK.S hT rfl rfl rfl rfl rfl rfl rfl ?_
   refine RK.As rfl ?_
   refine RK.D ?_
   refine AWp_ret ?_
   refine ends_three rfl (.inr rfl) (res_cell_agg hT rfl rfl rfl rfl (cs := [_, _]) rfl rfl) (res_cell_agg hT rfl rfl rfl rfl (cs := [_, _]) rfl rfl) (res_tmp rfl) ?_ O_ends
   exact Sub.of_eq (by rw [e1, e2])
/- algorist/integer.mod -/
set_option maxHeartbeats 1000000 in
set_option maxRecDepth 100000 in
theorem int_mod (x y : Int) (hx : L 44 x) (hy : L 44 y) (h0 : y ≠ 0) :
  Call0 Tryz.prog 118 [I x, I y] (I (x % y)) := by
 refine callM_of (np := 0) Tryz.func118 (by kernel_rfl) rfl rfl (Nat.le_of_ble_eq_true rfl) (fun m h => absurd rfl h) (fun m h => absurd rfl h) rfl ?_
 refine AWp_sr hP ?_
 refine RK.alc guard_none (op_box rfl rfl) ?_
 refine RK.alc guard_none (op_box rfl rfl) ?_
 refine RK.alc guard_none (op_alloc hT rfl rfl) ?_
 refine RK.D ?_
 refine AWp_sr hP ?_
 refine RK.G2 hT rfl rfl rfl rfl rfl rfl ?_
 refine RK.G2 hT rfl rfl rfl rfl rfl rfl ?_
 refine RK.V (Eff.call0 (int_DivMod x y hx hy h0)) ?_
 refine RK.V (op_move (rfl : _ = AV.t _)) ?_
 refine RK.V (op_extract rfl (v := .a _) rfl) ?_
 refine RK.V (op_extract rfl (v := .a _) rfl) ?_
 refine RK.V (op_extract rfl (v := .c _) rfl) ?_
 refine RK.alc guard_none (op_alloc hT rfl rfl) ?_
 refine RK.alc guard_none (op_alloc hT rfl rfl) ?_
 refine RK.S hT rfl rfl rfl rfl rfl rfl rfl ?_
 refine RK.S hT rfl rfl rfl rfl rfl rfl rfl ?_
 refine RK.As rfl ?_
 refine RK.D ?_
 refine AWp_sr hP ?_
 refine RK.G2 hT rfl rfl rfl rfl rfl rfl ?_
 refine RK.S hT rfl rfl rfl rfl rfl rfl rfl ?_
 refine RK.D ?_
 refine AWp_ret ?_
 refine ends_one rfl (.inr rfl) (res_cell_agg hT rfl rfl rfl rfl (cs := [_, _]) rfl rfl) ?_ O_ends
 exact .refl _
/- algorist/integer.Gcd -/
set_option maxHeartbeats 1000000 in
set_option maxRecDepth 100000 in
theorem int_Gcd (x y : Int) (hx : L 44 x) (hy : L 44 y) :
  Call0 Tryz.prog 77 [I x, I y] (I (Int.gcd x y)) := by
 refine callM_of (np := 0) Tryz.func77 (by kernel_rfl) rfl rfl (Nat.le_of_ble_eq_true rfl) (fun m h => absurd rfl h) (fun m h => absurd rfl h) rfl ?_
 refine AWp_sr hP ?_
 refine RK.alc guard_none (op_box rfl rfl) ?_
 refine RK.alc guard_none (op_box rfl rfl) ?_
 refine RK.alc guard_none (op_alloc hT rfl rfl) ?_
 refine RK.D ?_
 refine AWp_seq ?_
 refine AWp_block ?_
 refine AWp_loop (ι := Int × Int) (fun p => stL [(2, .loc 2 0), (3, .loc 3 0), (4, .loc 4 0)] [(2, ⟨false, 1, 26, [zn (p.1), zm (p.1)]⟩), (3, ⟨false, 1, 26, [zn (p.2), zm (p.2)]⟩), (4, ⟨false, 1, 26, [zn (0), zm (0)]⟩)]) (fun p => L 44 p.1 ∧ L 44 p.2 ∧ Int.gcd p.1 p.2 = Int.gcd x y) (fun p => p.2.natAbs) (x, y) ⟨hx, hy, rfl⟩ (le_stL ⟨.refl _, .refl _, .refl _, trivial⟩ ⟨rfl, rfl, rfl, trivial⟩) ?_
 rintro ⟨a, b⟩ ⟨ha, hb, hg⟩
 refine AWp_seq ?_
 refine AWp_sr hP ?_
 refine RK.F hT rfl rfl rfl rfl rfl rfl ?_
 refine RK.V (op_load_one hT rfl rfl rfl rfl (by first | rfl | exact vget (by omega))) ?_
 refine RK.V (op_len hT rfl rfl rfl rfl) ?_
 refine RK.V (op_gtr rfl rfl) ?_
 refine RK.D ?_
 refine AWp_cond rfl (fun hb1 => ?_) (fun hb1 => ?_)
 ·have hb1_ := of_decide_eq_true hb1
  have h0 : b ≠ 0 := fun e => by
   have e2 : 0 < ((wl b.natAbs).length : Int) := hb1_
   rw [e] at e2; exact absurd e2 (by decide)
  refine AWp_skip ?_
  refine AWp_block ?_
  refine AWp_region hP ?_
  refine RK.G2 hT rfl rfl rfl rfl rfl rfl ?_
  refine RK.G2 hT rfl rfl rfl rfl rfl rfl ?_
  refine RK.G2 hT rfl rfl rfl rfl rfl rfl ?_
  refine RK.V (Eff.call0 (int_mod a b ha hb h0)) ?_
  refine RK.S hT rfl rfl rfl rfl rfl rfl rfl ?_
  refine RK.S hT rfl rfl rfl rfl rfl rfl rfl ?_
  refine RK.D ?_
  refine ⟨(b, a % b), ⟨hb, (ha.emod hb).mono (by decide), ?_⟩, ?_, le_stL ⟨.refl _, .refl _, .refl _, trivial⟩ ⟨rfl, rfl, rfl, trivial⟩⟩
  ·rw [← hg]; exact gcd_step a b
  ·have h1 := Int.emod_nonneg a h0
   have h2 := Int.emod_lt a h0
   show (a % b).natAbs < b.natAbs
   omega
 ·have hb1_ := of_decide_eq_false hb1
  refine AWp_exit ?_
  refine AWp_sr hP ?_
  refine RK.G2 hT rfl rfl rfl rfl rfl rfl ?_
  refine RK.V (Eff.call0 (int_Abs _)) ?_
  refine RK.S hT rfl rfl rfl rfl rfl rfl rfl ?_
  refine RK.D ?_
  refine AWp_ret ?_
  refine ends_one rfl (.inr rfl) (res_cell_agg hT rfl rfl rfl rfl (cs := [_, _]) rfl rfl) ?_ O_ends
  have h0 : b = 0 := by
   have e2 : ¬ 0 < ((wl b.natAbs).length : Int) := hb1_
   have : ((wl b.natAbs).length : Int) = 0 := by omega
   exact wl_len_zero.1 this
  exact Sub.I (by rw [← hg, h0]; simp)
/- algorist/integer.power -/
set_option maxHeartbeats 1000000 in
set_option maxRecDepth 100000 in
theorem int_power1 (x : Int) (hx : L 44 x) :
  Call0 Tryz.prog 130 [I x, Z 1] (I x) := by
 refine callM_of (np := 0) Tryz.func130 (by kernel_rfl) rfl rfl (Nat.le_of_ble_eq_true rfl) (fun m h => absurd rfl h) (fun m h => absurd rfl h) rfl ?_
 refine AWp_sr hP ?_
 refine RK.alc guard_none (op_box rfl rfl) ?_
 refine RK.alc guard_none (op_alloc hT rfl rfl) ?_
 refine RK.D ?_
 refine AWp_sr hP ?_
 refine RK.V (Eff.call0 (int_Of 1 (by decide))) ?_
 refine RK.alc guard_none (op_alloc hT rfl rfl) ?_
 refine RK.S hT rfl rfl rfl rfl rfl rfl rfl ?_
 refine RK.D ?_
 refine AWp_seq ?_
 refine AWp_block ?_
 refine AWp_unroll 2 ?_
 refine AWp_seq ?_
 refine AWp_sr hP ?_
 refine RK.M rfl ?_
 refine RK.V (op_gtr rfl rfl) ?_
 refine RK.D ?_
 refine AWp_cond_true rfl (by decide) ?_
 refine AWp_skip ?_
 refine AWp_seq ?_
 refine AWp_block ?_
 refine AWp_seq ?_
 refine AWp_sr hP ?_
 refine RK.M rfl ?_
 refine RK.V (op_rem rfl rfl (by first | decide | omega) (by first | exact Int.tmod_eq_emod_of_nonneg (by omega) | rfl)) ?_
 refine RK.V (op_eql rfl rfl) ?_
 refine RK.D ?_
 refine AWp_cond_true rfl rfl ?_
 refine AWp_region hP ?_
 refine RK.G2 hT rfl rfl rfl rfl rfl rfl ?_
 refine RK.G2 hT rfl rfl rfl rfl rfl rfl ?_
 refine RK.V (Eff.call0 (int_Mul 1 x (L.mono (n := 0) (by decide) (by decide)) (hx.mono (by decide)))) ?_
 refine RK.S hT rfl rfl rfl rfl rfl rfl rfl ?_
 refine RK.D ?_
 refine AWp_sr hP ?_
 refine RK.M rfl ?_
 refine RK.V (op_gtr rfl rfl) ?_
 refine RK.D ?_
 refine AWp_cond_false rfl rfl ?_
 refine AWp_skip ?_
 refine AWp_region hP ?_
 refine RK.M rfl ?_
 refine RK.V (op_quo rfl rfl (by first | decide | omega) (by first | exact IntWalk.i64_in _ (by omega) | rfl)) ?_
 refine RK.As rfl ?_
 refine RK.D ?_
 refine AWp_seq ?_
 refine AWp_sr hP ?_
 refine RK.M rfl ?_
 refine RK.V (op_gtr rfl rfl) ?_
 refine RK.D ?_
 refine AWp_cond_false rfl (by decide) ?_
 refine AWp_exit ?_
 refine AWp_sr hP ?_
 refine RK.G2 hT rfl rfl rfl rfl rfl rfl ?_
 refine RK.S hT rfl rfl rfl rfl rfl rfl rfl ?_
 refine RK.D ?_
 refine AWp_ret ?_
 refine ends_one rfl (.inr rfl) (res_cell_agg hT rfl rfl rfl rfl (cs := [_, _]) rfl rfl) ?_ O_ends
 exact Sub.I (by rw [Int.one_mul])
end Go.Proofs.YtfdjankalhfceaaGreat
end

section
/- integer: Root Sqrt -/
namespace Go.Proofs.YtfdjankalhfceaaGreat
open Go Go.AM
/- algorist/integer.Root -/
set_option maxHeartbeats 1000000 in
set_option maxRecDepth 100000 in
theorem int_Root2 (x : Int) (hx : L 40 x) :
  Call0 Tryz.prog 95 [I x, Z 2] (.t [PI (rootV x), PE (rootE x)]) := by
 have hbl := blen_L hx
 refine callM_of (np := 0) Tryz.func95 (by kernel_rfl) rfl rfl (Nat.le_of_ble_eq_true rfl) (fun m h => absurd rfl h) (fun m h => absurd rfl h) rfl ?_
 refine AWp_sr hP ?_
 refine RK.alc guard_none (op_box rfl rfl) ?_
 refine RK.alc guard_none (op_alloc hT rfl rfl) ?_
 refine RK.As rfl ?_
 refine RK.D ?_
 refine AWp_sr hP ?_
 refine RK.G2 hT rfl rfl rfl rfl rfl rfl ?_
 refine RK.V (Eff.call0 (int_Bits x)) ?_
 refine RK.As rfl ?_
 refine RK.D ?_
 refine AWp_seq ?_
 refine AWp_block ?_
 refine AWp_sr hP ?_
 refine RK.F hT rfl rfl rfl rfl rfl rfl ?_
 refine RK.V (op_load_one hT rfl rfl rfl rfl (by first | rfl | exact vget (by omega))) ?_
 refine RK.M rfl ?_
 refine RK.split (t := 16) rfl (fun hg1 => ?_) (fun hg1 => ?_)
 ·have hx0 : x < 0 := of_decide_eq_true hg1
  refine RK.skip (guard_no rfl rfl hg1) ?_
  refine RK.skip (guard_no rfl rfl hg1) ?_
  refine RK.V (op_pick_t rfl hg1 (rfl : _ = AV.p (.c _))) ?_
  refine RK.As rfl ?_
  refine RK.D ?_
  refine AWp_cond_true rfl rfl ?_
  refine AWp_sr hP ?_
  refine RK.V (op_build_st hT rfl rfl rfl (es := [_, _]) rfl) ?_
  refine RK.S hT rfl rfl rfl rfl rfl rfl rfl ?_
  refine RK.As rfl ?_
  refine RK.D ?_
  refine AWp_ret ?_
  refine ends_two rfl (.inr rfl) (res_cell_agg hT rfl rfl rfl rfl (cs := [_, _]) rfl rfl) (res_tmp rfl) ?_ O_ends
  exact Sub.of_eq (by rw [(root_neg hx0).1, (root_neg hx0).2])
 ·have hx0 : ¬ x < 0 := of_decide_eq_false hg1
  refine RK.val (guard_yes rfl rfl hg1) (op_move (rfl : _ = AV.p (.c _))) ?_
  refine RK.val (guard_yes rfl rfl hg1) (op_lss rfl rfl) ?_
  refine RK.V (op_pick_f rfl hg1 (rfl : _ = AV.p (.c _))) ?_
  refine RK.As rfl ?_
  refine RK.D ?_
  refine AWp_cond_false rfl rfl ?_
  refine AWp_sr hP ?_
  refine RK.M rfl ?_
  refine RK.V (op_eql rfl rfl) ?_
  refine RK.M rfl ?_
  refine RK.split (t := 24) rfl (fun hg2 => ?_) (fun hg2 => ?_)
  ·have hg2_ := bT hg2
   refine RK.skip (guard_no rfl rfl hg2) ?_
   refine RK.skip (guard_no rfl rfl hg2) ?_
   refine RK.V (op_pick_t rfl hg2 (rfl : _ = AV.p (.c _))) ?_
   refine RK.As rfl ?_
   refine RK.D ?_
   refine AWp_cond_true rfl rfl ?_
   refine AWp_sr hP ?_
   refine RK.G2 hT rfl rfl rfl rfl rfl rfl ?_
   refine RK.S hT rfl rfl rfl rfl rfl rfl rfl ?_
   refine RK.As rfl ?_
   refine RK.D ?_
   refine AWp_ret ?_
   refine ends_two rfl (.inr rfl) (res_cell_agg hT rfl rfl rfl rfl (cs := [_, _]) rfl rfl) (res_tmp rfl) ?_ O_ends
   have e := root_zero hg2_
   exact Sub.of_eq (by rw [e]; rfl)
  ·have hg2_ := bF hg2
   refine RK.val (guard_yes rfl rfl hg2) (op_move (rfl : _ = AV.p (.c _))) ?_
   refine RK.val (guard_yes rfl rfl hg2) (op_eql rfl rfl) ?_
   refine RK.V (op_pick_f rfl hg2 (rfl : _ = AV.p (.c _))) ?_
   refine RK.As rfl ?_
   refine RK.D ?_
   refine AWp_cond_false rfl rfl ?_
   refine AWp_sr hP ?_
   refine RK.M rfl ?_
   refine RK.M rfl ?_
   refine RK.V (op_geq rfl rfl) ?_
   refine RK.As rfl ?_
   refine RK.D ?_
   refine AWp_cond rfl (fun hb3 => ?_) (fun hb3 => ?_)
   ·have hb3_ := of_decide_eq_true hb3
    refine AWp_sr hP ?_
    refine RK.V (Eff.call0 (int_Of _ (by decide))) ?_
    refine RK.S hT rfl rfl rfl rfl rfl rfl rfl ?_
    refine RK.As rfl ?_
    refine RK.D ?_
    refine AWp_ret ?_
    refine ends_two rfl (.inr rfl) (res_cell_agg hT rfl rfl rfl rfl (cs := [_, _]) rfl rfl) (res_tmp rfl) ?_ O_ends
    exact Sub.of_eq (by rw [root_small hx0 hg2_ hb3_, rootE_nn hx0])
   ·have hb3_ := of_decide_eq_false hb3
    have hx1 : 0 < x := by
     rcases Int.lt_trichotomy x 0 with e | e | e
     ·exact absurd e hx0
     ·rw [e] at hg2_; exact absurd rfl hg2_
     ·exact e
    refine AWp_skip ?_
    refine AWp_sr hP ?_
    refine RK.V (op_bslice hT rfl rfl rfl (es := [_]) rfl rfl rfl) ?_
    refine RK.M rfl ?_
    refine RK.M rfl ?_
    refine RK.V (op_add rfl rfl (by first | exact IntWalk.i64_in _ (by omega) | rfl)) ?_
    refine RK.V (op_sub rfl rfl (by first | exact IntWalk.i64_in _ (by omega) | rfl)) ?_
    refine RK.M rfl ?_
    refine RK.V (op_quo rfl rfl (by decide) (quo2 _ hbl)) ?_
    refine RK.V (Eff.call0 (nat_shl [1] ((blen x.natAbs + 1) / 2) okW_one (by decide) (by omega))) ?_
    refine RK.V (Eff.call0 (int_ofN _ _)) ?_
    refine RK.alc guard_none (op_alloc hT rfl rfl) ?_
    refine RK.S hT rfl rfl rfl rfl rfl rfl rfl ?_
    refine RK.D ?_
    refine AWp_block ?_
    refine AWp_loop (ι := Int) (fun s => stL [(1, Z 2), (2, .loc 2 0), (4, .loc 4 0), (7, .loc 7 0)] [(2, ⟨false, 1, 26, [zn (x), zm (x)]⟩), (4, ⟨false, 1, 26, [zn (0), zm (0)]⟩), (7, ⟨false, 1, 26, [zn (s), zm (s)]⟩)]) (fun s => 0 < s ∧ rootV x ≤ s ∧ s ≤ 2 * x) (fun s => s.toNat) (2 ^ ((blen x.natAbs + 1) / 2) : Nat) ?_ (le_stL ⟨.refl _, .refl _, .refl _, .refl _, trivial⟩ ⟨rfl, rfl, ?_, trivial⟩) ?_
    ·exact root_start hx1
    ·exact congrArg (fun z => some (⟨false, 1, 26, [zn z, zm z]⟩ : Blk)) (sg_shl _)
    intro s hs
    have ix : LB x 40 := ⟨hx⟩
    have is : LB s 41 := ⟨L.of_le (b := 2 * x) (lz (by rfl)) (by omega)⟩
    refine AWp_block ?_
    refine AWp_sr hP ?_
    refine RK.G2 hT rfl rfl rfl rfl rfl rfl ?_
    refine RK.G2 hT rfl rfl rfl rfl rfl rfl ?_
    refine RK.M rfl ?_
    refine RK.V (op_sub rfl rfl (by first | exact IntWalk.i64_in _ (by omega) | rfl)) ?_
    refine RK.V (Eff.call0 (int_power1 s lz)) ?_
    refine RK.V (Eff.call0 (int_DivMod x s lz lz (by omega))) ?_
    refine RK.V (op_move (rfl : _ = AV.t _)) ?_
    refine RK.V (op_extract rfl (v := .a _) rfl) ?_
    refine RK.V (op_extract rfl (v := .a _) rfl) ?_
    refine RK.V (op_extract rfl (v := .c _) rfl) ?_
    refine RK.alc guard_none (op_alloc hT rfl rfl) ?_
    refine RK.alc guard_none (op_alloc hT rfl rfl) ?_
    refine RK.S hT rfl rfl rfl rfl rfl rfl rfl ?_
    refine RK.S hT rfl rfl rfl rfl rfl rfl rfl ?_
    refine RK.As rfl ?_
    refine RK.D ?_
    refine AWp_sr hP ?_
    refine RK.G2 hT rfl rfl rfl rfl rfl rfl ?_
    refine RK.M rfl ?_
    refine RK.V (op_sub rfl rfl (by first | exact IntWalk.i64_in _ (by omega) | rfl)) ?_
    refine RK.V (Eff.call0 (int_Of _ (by decide))) ?_
    refine RK.V (Eff.call0 (int_Mul _ _ lz lz)) ?_
    refine RK.G2 hT rfl rfl rfl rfl rfl rfl ?_
    refine RK.V (Eff.call0 (int_Add _ _ lz lz)) ?_
    refine RK.M rfl ?_
    refine RK.V (Eff.call0 (int_Of _ (by decide))) ?_
    refine RK.V (Eff.call0 (int_DivMod _ 2 lz lz (by decide))) ?_
    refine RK.V (op_move (rfl : _ = AV.t _)) ?_
    refine RK.V (op_extract rfl (v := .a _) rfl) ?_
    refine RK.V (op_extract rfl (v := .a _) rfl) ?_
    refine RK.V (op_extract rfl (v := .c _) rfl) ?_
    refine RK.S hT rfl rfl rfl rfl rfl rfl rfl ?_
    refine RK.D ?_
    refine AWp_seq ?_
    refine AWp_sr hP ?_
    refine RK.G2 hT rfl rfl rfl rfl rfl rfl ?_
    refine RK.G2 hT rfl rfl rfl rfl rfl rfl ?_
    refine RK.V (Eff.call0 (int_Cmp _ _)) ?_
    refine RK.V (op_geq rfl rfl) ?_
    refine RK.D ?_
    refine AWp_cond rfl (fun hb4 => ?_) (fun hb4 => ?_)
    ·have hb4_ := of_decide_eq_true hb4
     have hge := cmpI_nonneg hb4_
     refine AWp_sr hP ?_
     refine RK.G2 hT rfl rfl rfl rfl rfl rfl ?_
     refine RK.S hT rfl rfl rfl rfl rfl rfl rfl ?_
     refine RK.As rfl ?_
     refine RK.D ?_
     refine AWp_ret ?_
     refine ends_two rfl (.inr rfl) (res_cell_agg hT rfl rfl rfl rfl (cs := [_, _]) rfl rfl) (res_tmp rfl) ?_ O_ends
     have e := root_stop hx1 hs.1 hs.2.1 hge
     exact Sub.of_eq (by rw [e, rootE_nn hx0])
    ·have hb4_ := of_decide_eq_false hb4
     have hge := cmpI_negative hb4_
     refine AWp_skip ?_
     refine AWp_region hP ?_
     refine RK.G2 hT rfl rfl rfl rfl rfl rfl ?_
     refine RK.S hT rfl rfl rfl rfl rfl rfl rfl ?_
     refine RK.D ?_
     refine ⟨(s * 1 + x / s) / 2, ⟨(root_step hx1 hs.1).2, (root_step hx1 hs.1).1, Int.le_trans (Int.le_of_lt hge) hs.2.2⟩, ?_, le_stL ⟨.refl _, .refl _, .refl _, .refl _, trivial⟩ ⟨rfl, rfl, rfl, trivial⟩⟩
     have h3 := (root_step hx1 hs.1).2
     show ((s * 1 + x / s) / 2).toNat < s.toNat
     omega
/- algorist/integer.Sqrt -/
set_option maxHeartbeats 1000000 in
set_option maxRecDepth 100000 in
theorem int_Sqrt (x : Int) (hx : L 40 x) :
  Call0 Tryz.prog 60 [I x] (.t [PI (rootV x), PI (if x < 0 then 0 else x - rootV x * rootV x), PE (rootE x)]) := by
 have ix : LB x 40 := ⟨hx⟩
 refine callM_of (np := 0) Tryz.func60 (by kernel_rfl) rfl rfl (Nat.le_of_ble_eq_true rfl) (fun m h => absurd rfl h) (fun m h => absurd rfl h) rfl ?_
 refine AWp_sr hP ?_
 refine RK.alc guard_none (op_box rfl rfl) ?_
 refine RK.alc guard_none (op_alloc hT rfl rfl) ?_
 refine RK.alc guard_none (op_alloc hT rfl rfl) ?_
 refine RK.As rfl ?_
 refine RK.D ?_
 refine AWp_sr hP ?_
 refine RK.G2 hT rfl rfl rfl rfl rfl rfl ?_
 refine RK.V (Eff.call0 (int_Root2 x hx)) ?_
 refine RK.V (op_move (rfl : _ = AV.t _)) ?_
 refine RK.V (op_extract rfl (v := .a _) rfl) ?_
 refine RK.V (op_extract rfl (v := .c _) rfl) ?_
 refine RK.alc guard_none (op_alloc hT rfl rfl) ?_
 refine RK.S hT rfl rfl rfl rfl rfl rfl rfl ?_
 refine RK.As rfl ?_
 refine RK.D ?_
 refine AWp_seq ?_
 refine AWp_sr hP ?_
 refine RK.M rfl ?_
 refine RK.V (op_neq rfl rfl) ?_
 refine RK.D ?_
 refine AWp_cond rfl (fun hb1 => ?_) (fun hb1 => ?_)
 ·have hb1_ := bneT hb1
  refine AWp_sr hP ?_
  refine RK.V (op_build_st hT rfl rfl rfl (es := [_, _]) rfl) ?_
  refine RK.V (op_build_st hT rfl rfl rfl (es := [_, _]) rfl) ?_
  refine RK.M rfl ?_
  refine RK.S hT rfl rfl rfl rfl rfl rfl rfl ?_
  refine RK.S hT rfl rfl rfl rfl rfl rfl rfl ?_
  refine RK.As rfl ?_
  refine RK.D ?_
  refine AWp_ret ?_
  refine ends_three rfl (.inr rfl) (res_cell_agg hT rfl rfl rfl rfl (cs := [_, _]) rfl rfl) (res_cell_agg hT rfl rfl rfl rfl (cs := [_, _]) rfl rfl) (res_tmp rfl) ?_ O_ends
  have h0 : x < 0 := by
   rcases Int.lt_or_le x 0 with h | h
   ·exact h
   ·exact absurd (rootE_nn (by omega)) hb1_
  exact Sub.of_eq (by rw [(root_neg h0).1, if_pos h0])
 ·have hb1_ := bneF hb1
  refine AWp_skip ?_
  refine AWp_sr hP ?_
  refine RK.G2 hT rfl rfl rfl rfl rfl rfl ?_
  refine RK.G2 hT rfl rfl rfl rfl rfl rfl ?_
  refine RK.G2 hT rfl rfl rfl rfl rfl rfl ?_
  refine RK.G2 hT rfl rfl rfl rfl rfl rfl ?_
  refine RK.V (Eff.call0 (int_Mul _ _ lz lz)) ?_
  refine RK.V (Eff.call0 (int_Sub _ _ lz lz)) ?_
  refine RK.S hT rfl rfl rfl rfl rfl rfl rfl ?_
  refine RK.S hT rfl rfl rfl rfl rfl rfl rfl ?_
  refine RK.As rfl ?_
  refine RK.D ?_
  refine AWp_ret ?_
  refine ends_three rfl (.inr rfl) (res_cell_agg hT rfl rfl rfl rfl (cs := [_, _]) rfl rfl) (res_cell_agg hT rfl rfl rfl rfl (cs := [_, _]) rfl rfl) (res_tmp rfl) ?_ O_ends
  have h0 : ¬ x < 0 := fun h => by rw [(root_neg h).2] at hb1_; cases hb1_
  exact Sub.of_eq (by rw [if_neg h0, rootE_nn h0])
end Go.Proofs.YtfdjankalhfceaaGreat
end

section
/- quadratic, the plain functions -/
namespace Go.Proofs.YtfdjankalhfceaaGreat
open Go Go.AM
/- algorist/quadratic.number -/
set_option maxHeartbeats 1000000 in
set_option maxRecDepth 100000 in
theorem q_number (z : Int) (hz : InI64 z) :
  Call0 Tryz.prog 21 [.p (.c (.v (.int .i64 z)))] (I z) := by
 refine callM_of (np := 0) Tryz.func21 (by kernel_rfl) rfl rfl (Nat.le_of_ble_eq_true rfl) (fun m h => absurd rfl h) (fun m h => absurd rfl h) rfl ?_
 refine AWp_sr hP ?_
 refine RK.alc guard_none (op_alloc hT rfl rfl) ?_
 refine RK.D ?_
 refine AWp_sr hP ?_
 refine RK.M rfl ?_
 refine RK.V (Eff.call0 (int_Of z hz)) ?_
 refine RK.S hT rfl rfl rfl rfl rfl rfl rfl ?_
 refine RK.D ?_
 refine AWp_ret ?_
 refine ends_one rfl (.inr rfl) (res_cell_agg hT rfl rfl rfl rfl (cs := [_, _]) rfl rfl) ?_ O_ends
 exact .refl _
/- algorist/quadratic.product -/
set_option maxHeartbeats 1000000 in
set_option maxRecDepth 100000 in
theorem q_product2 (x y : Int) (hx : L 40 x) (hy : L 40 y) :
  Call0 Tryz.prog 131 [.p (.c (.sl 2 [zn x, zm x, zn y, zm y]))] (I (x * y)) := by
 have ix : LB x 40 := ⟨hx⟩
 have iy : LB y 40 := ⟨hy⟩
 refine callM_of (np := 0) Tryz.func131 (by kernel_rfl) rfl rfl (Nat.le_of_ble_eq_true rfl) (fun m h => absurd rfl h) (fun m h => absurd rfl h) rfl ?_
 refine AWp_sr hP ?_
 refine RK.alc guard_none (op_alloc hT rfl rfl) ?_
 refine RK.D ?_
 refine AWp_sr hP ?_
 refine RK.V (Eff.call0 (q_number _ (by first | assumption | decide))) ?_
 refine RK.alc guard_none (op_alloc hT rfl rfl) ?_
 refine RK.S hT rfl rfl rfl rfl rfl rfl rfl ?_
 refine RK.D ?_
 refine AWp_seq ?_
 refine AWp_sr hP ?_
 refine RK.M rfl ?_
 refine RK.V (op_len hT rfl rfl rfl rfl) ?_
 refine RK.M rfl ?_
 refine RK.D ?_
 refine AWp_block ?_
 refine AWp_unroll 3 ?_
 refine AWp_sr hP ?_
 refine RK.V (op_lss rfl rfl) ?_
 refine RK.D ?_
 refine AWp_seq ?_
 refine AWp_cond_true rfl (by decide) ?_
 refine AWp_skip ?_
 refine AWp_seq ?_
 refine AWp_block ?_
 refine AWp_sr hP ?_
 refine RK.V (by first | exact op_index_WN hT rfl rfl rfl rfl rfl rfl (by omega) | exact op_index_sl hT rfl rfl rfl rfl rfl rfl (by omega) (by first | exact W_ne (by omega) | simp)) ?_
 refine RK.V (op_load_ip_agg hT rfl rfl rfl (cs := [_, _]) rfl rfl) ?_
 refine RK.alc guard_none (op_alloc hT rfl rfl) ?_
 refine RK.S hT rfl rfl rfl rfl rfl rfl rfl ?_
 refine RK.D ?_
 refine AWp_region hP ?_
 refine RK.G2 hT rfl rfl rfl rfl rfl rfl ?_
 refine RK.G2 hT rfl rfl rfl rfl rfl rfl ?_
 refine RK.V (Eff.call0 (int_Mul _ _ lz lz)) ?_
 refine RK.S hT rfl rfl rfl rfl rfl rfl rfl ?_
 refine RK.D ?_
 refine AWp_region hP ?_
 refine RK.V (op_add rfl rfl (by first | exact IntWalk.i64_in _ (by omega) | rfl)) ?_
 refine RK.M rfl ?_
 refine RK.D ?_
 refine AWp_sr hP ?_
 refine RK.V (op_lss rfl rfl) ?_
 refine RK.D ?_
 refine AWp_seq ?_
 refine AWp_cond_true rfl (by decide) ?_
 refine AWp_skip ?_
 refine AWp_seq ?_
 refine AWp_block ?_
 refine AWp_sr hP ?_
 refine RK.V (by first | exact op_index_WN hT rfl rfl rfl rfl rfl rfl (by omega) | exact op_index_sl hT rfl rfl rfl rfl rfl rfl (by omega) (by first | exact W_ne (by omega) | simp)) ?_
 refine RK.V (op_load_ip_agg hT rfl rfl rfl (cs := [_, _]) rfl rfl) ?_
 refine RK.alc guard_none (op_alloc hT rfl rfl) ?_
 refine RK.S hT rfl rfl rfl rfl rfl rfl rfl ?_
 refine RK.D ?_
 refine AWp_region hP ?_
 refine RK.G2 hT rfl rfl rfl rfl rfl rfl ?_
 refine RK.G2 hT rfl rfl rfl rfl rfl rfl ?_
 refine RK.V (Eff.call0 (int_Mul _ _ lz lz)) ?_
 refine RK.S hT rfl rfl rfl rfl rfl rfl rfl ?_
 refine RK.D ?_
 refine AWp_region hP ?_
 refine RK.V (op_add rfl rfl (by first | exact IntWalk.i64_in _ (by omega) | rfl)) ?_
 refine RK.M rfl ?_
 refine RK.D ?_
 refine AWp_sr hP ?_
 refine RK.V (op_lss rfl rfl) ?_
 refine RK.D ?_
 refine AWp_seq ?_
 refine AWp_cond_false rfl (by decide) ?_
 refine AWp_exit ?_
 refine AWp_sr hP ?_
 refine RK.G2 hT rfl rfl rfl rfl rfl rfl ?_
 refine RK.S hT rfl rfl rfl rfl rfl rfl rfl ?_
 refine RK.D ?_
 refine AWp_ret ?_
 refine ends_one rfl (.inr rfl) (res_cell_agg hT rfl rfl rfl rfl (cs := [_, _]) rfl rfl) ?_ O_ends
 exact Sub.I (by rw [Int.one_mul])
/- algorist/quadratic.product -/
set_option maxHeartbeats 1000000 in
set_option maxRecDepth 100000 in
theorem q_product3 (x y z : Int) (hx : L 40 x) (hy : L 40 y) (hz : L 40 z) :
  Call0 Tryz.prog 131 [.p (.c (.sl 3 [zn x, zm x, zn y, zm y, zn z, zm z]))] (I (x * y * z)) := by
 have ix : LB x 40 := ⟨hx⟩
 have iy : LB y 40 := ⟨hy⟩
 have iz : LB z 40 := ⟨hz⟩
 refine callM_of (np := 0) Tryz.func131 (by kernel_rfl) rfl rfl (Nat.le_of_ble_eq_true rfl) (fun m h => absurd rfl h) (fun m h => absurd rfl h) rfl ?_
 refine AWp_sr hP ?_
 refine RK.alc guard_none (op_alloc hT rfl rfl) ?_
 refine RK.D ?_
 refine AWp_sr hP ?_
 refine RK.V (Eff.call0 (q_number _ (by first | assumption | decide))) ?_
 refine RK.alc guard_none (op_alloc hT rfl rfl) ?_
 refine RK.S hT rfl rfl rfl rfl rfl rfl rfl ?_
 refine RK.D ?_
 refine AWp_seq ?_
 refine AWp_sr hP ?_
 refine RK.M rfl ?_
 refine RK.V (op_len hT rfl rfl rfl rfl) ?_
 refine RK.M rfl ?_
 refine RK.D ?_
 refine AWp_block ?_
 refine AWp_unroll 4 ?_
 refine AWp_sr hP ?_
 refine RK.V (op_lss rfl rfl) ?_
 refine RK.D ?_
 refine AWp_seq ?_
 refine AWp_cond_true rfl (by decide) ?_
 refine AWp_skip ?_
 refine AWp_seq ?_
 refine AWp_block ?_
 refine AWp_sr hP ?_
 refine RK.V (by first | exact op_index_WN hT rfl rfl rfl rfl rfl rfl (by omega) | exact op_index_sl hT rfl rfl rfl rfl rfl rfl (by omega) (by first | exact W_ne (by omega) | simp)) ?_
 refine RK.V (op_load_ip_agg hT rfl rfl rfl (cs := [_, _]) rfl rfl) ?_
 refine RK.alc guard_none (op_alloc hT rfl rfl) ?_
 refine RK.S hT rfl rfl rfl rfl rfl rfl rfl ?_
 refine RK.D ?_
 refine AWp_region hP ?_
 refine RK.G2 hT rfl rfl rfl rfl rfl rfl ?_
 refine RK.G2 hT rfl rfl rfl rfl rfl rfl ?_
 refine RK.V (Eff.call0 (int_Mul _ _ lz lz)) ?_
 refine RK.S hT rfl rfl rfl rfl rfl rfl rfl ?_
 refine RK.D ?_
 refine AWp_region hP ?_
 refine RK.V (op_add rfl rfl (by first | exact IntWalk.i64_in _ (by omega) | rfl)) ?_
 refine RK.M rfl ?_
 refine RK.D ?_
 refine AWp_sr hP ?_
 refine RK.V (op_lss rfl rfl) ?_
 refine RK.D ?_
 refine AWp_seq ?_
 refine AWp_cond_true rfl (by decide) ?_
 refine AWp_skip ?_
 refine AWp_seq ?_
 refine AWp_block ?_
 refine AWp_sr hP ?_
 refine RK.V (by first | exact op_index_WN hT rfl rfl rfl rfl rfl rfl (by omega) | exact op_index_sl hT rfl rfl rfl rfl rfl rfl (by omega) (by first | exact W_ne (by omega) | simp)) ?_
 refine RK.V (op_load_ip_agg hT rfl rfl rfl (cs := [_, _]) rfl rfl) ?_
 refine RK.alc guard_none (op_alloc hT rfl rfl) ?_
 refine RK.S hT rfl rfl rfl rfl rfl rfl rfl ?_
 refine RK.D ?_
 refine AWp_region hP ?_
 refine RK.G2 hT rfl rfl rfl rfl rfl rfl ?_
 refine RK.G2 hT rfl rfl rfl rfl rfl rfl ?_
 refine RK.V (Eff.call0 (int_Mul _ _ lz lz)) ?_
 refine RK.S hT rfl rfl rfl rfl rfl rfl rfl ?_
 refine RK.D ?_
 refine AWp_region hP ?_
 refine RK.V (op_add rfl rfl (by first | exact IntWalk.i64_in _ (by omega) | rfl)) ?_
 refine RK.M rfl ?_
 refine RK.D ?_
 refine AWp_sr hP ?_
 refine RK.V (op_lss rfl rfl) ?_
 refine RK.D ?_
 refine AWp_seq ?_
 refine AWp_cond_true rfl (by decide) ?_
 refine AWp_skip ?_
 refine AWp_seq ?_
 refine AWp_block ?_
 refine AWp_sr hP ?_
 refine RK.V (by first | exact op_index_WN hT rfl rfl rfl rfl rfl rfl (by omega) | exact op_index_sl hT rfl rfl rfl rfl rfl rfl (by omega) (by first | exact W_ne (by omega) | simp)) ?_
 refine RK.V (op_load_ip_agg hT rfl rfl rfl (cs := [_, _]) rfl rfl) ?_
 refine RK.alc guard_none (op_alloc hT rfl rfl) ?_
 refine RK.S hT rfl rfl rfl rfl rfl rfl rfl ?_
 refine RK.D ?_
 refine AWp_region hP ?_
 refine RK.G2 hT rfl rfl rfl rfl rfl rfl ?_
 refine RK.G2 hT rfl rfl rfl rfl rfl rfl ?_
 refine RK.V (Eff.call0 (int_Mul _ _ lz lz)) ?_
 refine RK.S hT rfl rfl rfl rfl rfl rfl rfl ?_
 refine RK.D ?_
 refine AWp_region hP ?_
 refine RK.V (op_add rfl rfl (by first | exact IntWalk.i64_in _ (by omega) | rfl)) ?_
 refine RK.M rfl ?_
 refine RK.D ?_
 refine AWp_sr hP ?_
 refine RK.V (op_lss rfl rfl) ?_
 refine RK.D ?_
 refine AWp_seq ?_
 refine AWp_cond_false rfl (by decide) ?_
 refine AWp_exit ?_
 refine AWp_sr hP ?_
 refine RK.G2 hT rfl rfl rfl rfl rfl rfl ?_
 refine RK.S hT rfl rfl rfl rfl rfl rfl rfl ?_
 refine RK.D ?_
 refine AWp_ret ?_
 refine ends_one rfl (.inr rfl) (res_cell_agg hT rfl rfl rfl rfl (cs := [_, _]) rfl rfl) ?_ O_ends
 exact Sub.I (by rw [Int.one_mul])
/- algorist/quadratic.isSquare -/
set_option maxHeartbeats 1000000 in
set_option maxRecDepth 100000 in
theorem q_isSquare (x : Int) (hx : L 40 x) :
  Call0 Tryz.prog 23 [I x] (B (isSq x)) := by
 have ix : LB x 40 := ⟨hx⟩
 refine callM_of (np := 0) Tryz.func23 (by kernel_rfl) rfl rfl (Nat.le_of_ble_eq_true rfl) (fun m h => absurd rfl h) (fun m h => absurd rfl h) rfl ?_
 refine AWp_sr hP ?_
 refine RK.alc guard_none (op_box rfl rfl) ?_
 refine RK.As rfl ?_
 refine RK.D ?_
 refine AWp_sr hP ?_
 refine RK.G2 hT rfl rfl rfl rfl rfl rfl ?_
 refine RK.V (Eff.call0 (int_Sqrt _ lz)) ?_
 refine RK.V (op_move (rfl : _ = AV.t _)) ?_
 refine RK.V (op_extract rfl (v := .a _) rfl) ?_
 refine RK.V (op_extract rfl (v := .a _) rfl) ?_
 refine RK.V (op_extract rfl (v := .c _) rfl) ?_
 refine RK.alc guard_none (op_alloc hT rfl rfl) ?_
 refine RK.alc guard_none (op_alloc hT rfl rfl) ?_
 refine RK.S hT rfl rfl rfl rfl rfl rfl rfl ?_
 refine RK.S hT rfl rfl rfl rfl rfl rfl rfl ?_
 refine RK.As rfl ?_
 refine RK.D ?_
 refine AWp_sr hP ?_
 refine RK.M rfl ?_
 refine RK.V (op_eql rfl rfl) ?_
 refine RK.M rfl ?_
 refine RK.split (t := 14) rfl (fun hg1 => ?_) (fun hg1 => ?_)
 ·have hg1_ := bT hg1
  refine RK.val (guard_yes rfl rfl hg1) (op_load_agg hT rfl rfl rfl rfl (cs := [_, _]) rfl rfl) ?_
  refine RK.val (guard_yes rfl rfl hg1) (Eff.call0 (int_Sign _)) ?_
  refine RK.val (guard_yes rfl rfl hg1) (op_eql rfl rfl) ?_
  refine RK.V (op_pick_t rfl hg1 (rfl : _ = AV.p (.c _))) ?_
  refine RK.As rfl ?_
  refine RK.D ?_
  refine AWp_ret ?_
  refine ends_one rfl (.inr rfl) (res_tmp rfl) ?_ O_ends
  exact Sub.bool (isSq_yes hg1)
 ·have hg1_ := bF hg1
  refine RK.skip (guard_no rfl rfl hg1) ?_
  refine RK.skip (guard_no rfl rfl hg1) ?_
  refine RK.skip (guard_no rfl rfl hg1) ?_
  refine RK.V (op_pick_f rfl hg1 (rfl : _ = AV.p (.c _))) ?_
  refine RK.As rfl ?_
  refine RK.D ?_
  refine AWp_ret ?_
  refine ends_one rfl (.inr rfl) (res_tmp rfl) ?_ O_ends
  exact Sub.bool (isSq_no hg1)
/- algorist/quadratic.Disc -/
set_option maxHeartbeats 1000000 in
set_option maxRecDepth 100000 in
theorem q_Disc (a b c : Int) (ha : L 36 a) (hb : L 36 b) (hc : L 36 c) :
  Call0 Tryz.prog 99 [FA a b c] (I (dsc a b c)) := by
 have ia : LB a 36 := ⟨ha⟩
 have ib : LB b 36 := ⟨hb⟩
 have ic : LB c 36 := ⟨hc⟩
 refine callM_of (np := 0) Tryz.func99 (by kernel_rfl) rfl rfl (Nat.le_of_ble_eq_true rfl) (fun m h => absurd rfl h) (fun m h => absurd rfl h) rfl ?_
 refine AWp_sr hP ?_
 refine RK.alc guard_none (op_box rfl rfl) ?_
 refine RK.alc guard_none (op_alloc hT rfl rfl) ?_
 refine RK.D ?_
 refine AWp_sr hP ?_
 refine RK.F hT rfl rfl rfl rfl rfl rfl ?_
 refine RK.G2 hT rfl rfl rfl rfl rfl rfl ?_
 refine RK.F hT rfl rfl rfl rfl rfl rfl ?_
 refine RK.G2 hT rfl rfl rfl rfl rfl rfl ?_
 refine RK.V (op_bslice hT rfl rfl rfl (es := [_, _, _, _]) rfl rfl rfl) ?_
 refine RK.V (Eff.call0 (q_product2 _ _ lz lz)) ?_
 refine RK.V (Eff.call0 (q_number _ (by first | assumption | decide))) ?_
 refine RK.F hT rfl rfl rfl rfl rfl rfl ?_
 refine RK.G2 hT rfl rfl rfl rfl rfl rfl ?_
 refine RK.F hT rfl rfl rfl rfl rfl rfl ?_
 refine RK.G2 hT rfl rfl rfl rfl rfl rfl ?_
 refine RK.V (op_bslice hT rfl rfl rfl (es := [_, _, _, _, _, _]) rfl rfl rfl) ?_
 refine RK.V (Eff.call0 (q_product3 _ _ _ lz lz lz)) ?_
 refine RK.V (Eff.call0 (int_Sub _ _ lz lz)) ?_
 refine RK.S hT rfl rfl rfl rfl rfl rfl rfl ?_
 refine RK.D ?_
 refine AWp_ret ?_
 refine ends_one rfl (.inr rfl) (res_cell_agg hT rfl rfl rfl rfl (cs := [_, _]) rfl rfl) ?_ O_ends
 exact .refl _
/- algorist/quadratic.Value -/
set_option maxHeartbeats 1000000 in
set_option maxRecDepth 100000 in
theorem q_Value (a b c x y : Int) (ha : L 36 a) (hb : L 36 b) (hc : L 36 c) (hx : L 36 x) (hy : L 36 y) :
  Call0 Tryz.prog 142 [FA a b c, I x, I y] (I (vl a b c x y)) := by
 have ia : LB a 36 := ⟨ha⟩
 have ib : LB b 36 := ⟨hb⟩
 have ic : LB c 36 := ⟨hc⟩
 have ix : LB x 36 := ⟨hx⟩
 have iy : LB y 36 := ⟨hy⟩
 refine callM_of (np := 0) Tryz.func142 (by kernel_rfl) rfl rfl (Nat.le_of_ble_eq_true rfl) (fun m h => absurd rfl h) (fun m h => absurd rfl h) rfl ?_
 refine AWp_sr hP ?_
 refine RK.alc guard_none (op_box rfl rfl) ?_
 refine RK.alc guard_none (op_box rfl rfl) ?_
 refine RK.alc guard_none (op_box rfl rfl) ?_
 refine RK.alc guard_none (op_alloc hT rfl rfl) ?_
 refine RK.D ?_
 refine AWp_sr hP ?_
 refine RK.F hT rfl rfl rfl rfl rfl rfl ?_
 refine RK.G2 hT rfl rfl rfl rfl rfl rfl ?_
 refine RK.G2 hT rfl rfl rfl rfl rfl rfl ?_
 refine RK.G2 hT rfl rfl rfl rfl rfl rfl ?_
 refine RK.V (op_bslice hT rfl rfl rfl (es := [_, _, _, _, _, _]) rfl rfl rfl) ?_
 refine RK.V (Eff.call0 (q_product3 _ _ _ lz lz lz)) ?_
 refine RK.F hT rfl rfl rfl rfl rfl rfl ?_
 refine RK.G2 hT rfl rfl rfl rfl rfl rfl ?_
 refine RK.G2 hT rfl rfl rfl rfl rfl rfl ?_
 refine RK.G2 hT rfl rfl rfl rfl rfl rfl ?_
 refine RK.V (op_bslice hT rfl rfl rfl (es := [_, _, _, _, _, _]) rfl rfl rfl) ?_
 refine RK.V (Eff.call0 (q_product3 _ _ _ lz lz lz)) ?_
 refine RK.V (Eff.call0 (int_Add _ _ lz lz)) ?_
 refine RK.F hT rfl rfl rfl rfl rfl rfl ?_
 refine RK.G2 hT rfl rfl rfl rfl rfl rfl ?_
 refine RK.G2 hT rfl rfl rfl rfl rfl rfl ?_
 refine RK.G2 hT rfl rfl rfl rfl rfl rfl ?_
 refine RK.V (op_bslice hT rfl rfl rfl (es := [_, _, _, _, _, _]) rfl rfl rfl) ?_
 refine RK.V (Eff.call0 (q_product3 _ _ _ lz lz lz)) ?_
 refine RK.V (Eff.call0 (int_Add _ _ lz lz)) ?_
 refine RK.S hT rfl rfl rfl rfl rfl rfl rfl ?_
 refine RK.D ?_
 refine AWp_ret ?_
 refine ends_one rfl (.inr rfl) (res_cell_agg hT rfl rfl rfl rfl (cs := [_, _]) rfl rfl) ?_ O_ends
 exact .refl _
/- algorist/quadratic.Apply -/
set_option maxHeartbeats 1000000 in
set_option maxRecDepth 100000 in
theorem q_Apply (a b c p q r s : Int) (ha : L 34 a) (hb : L 34 b) (hc : L 34 c) (hp : L 34 p) (hq : L 34 q) (hr : L 34 r) (hs : L 34 s) :
  Call0 Tryz.prog 117 [FA a b c, MA p q r s] (FA (vl a b c p r) (apB a b c p q r s) (vl a b c q s)) := by
 have ia : LB a 34 := ⟨ha⟩
 have ib : LB b 34 := ⟨hb⟩
 have ic : LB c 34 := ⟨hc⟩
 have ip : LB p 34 := ⟨hp⟩
 have iq : LB q 34 := ⟨hq⟩
 have ir : LB r 34 := ⟨hr⟩
 have is : LB s 34 := ⟨hs⟩
 refine callM_of (np := 0) Tryz.func117 (by kernel_rfl) rfl rfl (Nat.le_of_ble_eq_true rfl) (fun m h => absurd rfl h) (fun m h => absurd rfl h) rfl ?_
 refine AWp_sr hP ?_
 refine RK.alc guard_none (op_box rfl rfl) ?_
 refine RK.alc guard_none (op_box rfl rfl) ?_
 refine RK.alc guard_none (op_alloc hT rfl rfl) ?_
 refine RK.D ?_
 refine AWp_sr hP ?_
 refine RK.F hT rfl rfl rfl rfl rfl rfl ?_
 refine RK.G2 hT rfl rfl rfl rfl rfl rfl ?_
 refine RK.F hT rfl rfl rfl rfl rfl rfl ?_
 refine RK.G2 hT rfl rfl rfl rfl rfl rfl ?_
 refine RK.V (op_bslice hT rfl rfl rfl (es := [_, _, _, _]) rfl rfl rfl) ?_
 refine RK.V (Eff.call0 (q_product2 _ _ lz lz)) ?_
 refine RK.F hT rfl rfl rfl rfl rfl rfl ?_
 refine RK.G2 hT rfl rfl rfl rfl rfl rfl ?_
 refine RK.F hT rfl rfl rfl rfl rfl rfl ?_
 refine RK.G2 hT rfl rfl rfl rfl rfl rfl ?_
 refine RK.V (op_bslice hT rfl rfl rfl (es := [_, _, _, _]) rfl rfl rfl) ?_
 refine RK.V (Eff.call0 (q_product2 _ _ lz lz)) ?_
 refine RK.V (Eff.call0 (int_Add _ _ lz lz)) ?_
 refine RK.alc guard_none (op_alloc hT rfl rfl) ?_
 refine RK.S hT rfl rfl rfl rfl rfl rfl rfl ?_
 refine RK.D ?_
 refine AWp_sr hP ?_
 refine RK.F hT rfl rfl rfl rfl rfl rfl ?_
 refine RK.G2 hT rfl rfl rfl rfl rfl rfl ?_
 refine RK.F hT rfl rfl rfl rfl rfl rfl ?_
 refine RK.G2 hT rfl rfl rfl rfl rfl rfl ?_
 refine RK.F hT rfl rfl rfl rfl rfl rfl ?_
 refine RK.G2 hT rfl rfl rfl rfl rfl rfl ?_
 refine RK.V (op_bslice hT rfl rfl rfl (es := [_, _, _, _, _, _]) rfl rfl rfl) ?_
 refine RK.V (Eff.call0 (q_product3 _ _ _ lz lz lz)) ?_
 refine RK.F hT rfl rfl rfl rfl rfl rfl ?_
 refine RK.G2 hT rfl rfl rfl rfl rfl rfl ?_
 refine RK.F hT rfl rfl rfl rfl rfl rfl ?_
 refine RK.G2 hT rfl rfl rfl rfl rfl rfl ?_
 refine RK.F hT rfl rfl rfl rfl rfl rfl ?_
 refine RK.G2 hT rfl rfl rfl rfl rfl rfl ?_
 refine RK.V (op_bslice hT rfl rfl rfl (es := [_, _, _, _, _, _]) rfl rfl rfl) ?_
 refine RK.V (Eff.call0 (q_product3 _ _ _ lz lz lz)) ?_
 refine RK.V (Eff.call0 (int_Add _ _ lz lz)) ?_
 refine RK.alc guard_none (op_alloc hT rfl rfl) ?_
 refine RK.S hT rfl rfl rfl rfl rfl rfl rfl ?_
 refine RK.D ?_
 refine AWp_sr hP ?_
 refine RK.G6 hT rfl rfl rfl rfl rfl rfl ?_
 refine RK.F hT rfl rfl rfl rfl rfl rfl ?_
 refine RK.G2 hT rfl rfl rfl rfl rfl rfl ?_
 refine RK.F hT rfl rfl rfl rfl rfl rfl ?_
 refine RK.G2 hT rfl rfl rfl rfl rfl rfl ?_
 refine RK.V (Eff.call0 (q_Value _ _ _ _ _ lz lz lz lz lz)) ?_
 refine RK.V (Eff.call0 (q_number _ (by first | assumption | decide))) ?_
 refine RK.G2 hT rfl rfl rfl rfl rfl rfl ?_
 refine RK.V (op_bslice hT rfl rfl rfl (es := [_, _, _, _]) rfl rfl rfl) ?_
 refine RK.V (Eff.call0 (q_product2 _ _ lz lz)) ?_
 refine RK.F hT rfl rfl rfl rfl rfl rfl ?_
 refine RK.G2 hT rfl rfl rfl rfl rfl rfl ?_
 refine RK.G2 hT rfl rfl rfl rfl rfl rfl ?_
 refine RK.V (op_bslice hT rfl rfl rfl (es := [_, _, _, _]) rfl rfl rfl) ?_
 refine RK.V (Eff.call0 (q_product2 _ _ lz lz)) ?_
 refine RK.V (Eff.call0 (int_Add _ _ lz lz)) ?_
 refine RK.G6 hT rfl rfl rfl rfl rfl rfl ?_
 refine RK.F hT rfl rfl rfl rfl rfl rfl ?_
 refine RK.G2 hT rfl rfl rfl rfl rfl rfl ?_
 refine RK.F hT rfl rfl rfl rfl rfl rfl ?_
 refine RK.G2 hT rfl rfl rfl rfl rfl rfl ?_
 refine RK.V (Eff.call0 (q_Value _ _ _ _ _ lz lz lz lz lz)) ?_
 refine RK.V (op_build_st hT rfl rfl rfl (es := [_, _, _, _, _, _]) rfl) ?_
 refine RK.S hT rfl rfl rfl rfl rfl rfl rfl ?_
 refine RK.D ?_
 refine AWp_ret ?_
 refine ends_one rfl (.inr rfl) (res_cell_agg hT rfl rfl rfl rfl (cs := [_, _, _, _, _, _]) rfl rfl) ?_ O_ends
 exact .refl _
/- algorist/quadratic.rows -/
set_option maxHeartbeats 1000000 in
set_option maxRecDepth 100000 in
theorem q_rows (p q r s : Int) :
  Call0 Tryz.prog 132 [MA p q r s] (MA p q r s) := by
 refine callM_of (np := 0) Tryz.func132 (by kernel_rfl) rfl rfl (Nat.le_of_ble_eq_true rfl) (fun m h => absurd rfl h) (fun m h => absurd rfl h) rfl ?_
 refine AWp_sr hP ?_
 refine RK.alc guard_none (op_box rfl rfl) ?_
 refine RK.alc guard_none (op_alloc hT rfl rfl) ?_
 refine RK.D ?_
 refine AWp_sr hP ?_
 refine RK.F hT rfl rfl rfl rfl rfl rfl ?_
 refine RK.G2 hT rfl rfl rfl rfl rfl rfl ?_
 refine RK.F hT rfl rfl rfl rfl rfl rfl ?_
 refine RK.G2 hT rfl rfl rfl rfl rfl rfl ?_
 refine RK.V (op_build_ar hT rfl rfl rfl (es := [_, _, _, _]) rfl) ?_
 refine RK.F hT rfl rfl rfl rfl rfl rfl ?_
 refine RK.G2 hT rfl rfl rfl rfl rfl rfl ?_
 refine RK.F hT rfl rfl rfl rfl rfl rfl ?_
 refine RK.G2 hT rfl rfl rfl rfl rfl rfl ?_
 refine RK.V (op_build_ar hT rfl rfl rfl (es := [_, _, _, _]) rfl) ?_
 refine RK.V (op_build_ar hT rfl rfl rfl (es := [_, _, _, _, _, _, _, _]) rfl) ?_
 refine RK.S hT rfl rfl rfl rfl rfl rfl rfl ?_
 refine RK.D ?_
 refine AWp_ret ?_
 refine ends_one rfl (.inr rfl) (res_cell_agg hT rfl rfl rfl rfl (cs := [_, _, _, _, _, _, _, _]) rfl rfl) ?_ O_ends
 exact .refl _
/- algorist/quadratic.Times -/
set_option maxHeartbeats 1000000 in
set_option maxRecDepth 100000 in
theorem q_Times (p q r s t u v w : Int) (hp : L 38 p) (hq : L 38 q) (hr : L 38 r) (hs : L 38 s) (ht : L 38 t) (hu : L 38 u) (hv : L 38 v) (hw : L 38 w) :
  Call0 Tryz.prog 100 [MA p q r s, MA t u v w] (MA (p * t + q * v) (p * u + q * w) (r * t + s * v) (r * u + s * w)) := by
 have ip : LB p 38 := ⟨hp⟩
 have iq : LB q 38 := ⟨hq⟩
 have ir : LB r 38 := ⟨hr⟩
 have is : LB s 38 := ⟨hs⟩
 have it : LB t 38 := ⟨ht⟩
 have iu : LB u 38 := ⟨hu⟩
 have iv : LB v 38 := ⟨hv⟩
 have iw : LB w 38 := ⟨hw⟩
 refine callM_of (np := 0) Tryz.func100 (by kernel_rfl) rfl rfl (Nat.le_of_ble_eq_true rfl) (fun m h => absurd rfl h) (fun m h => absurd rfl h) rfl ?_
 refine AWp_sr hP ?_
 refine RK.alc guard_none (op_box rfl rfl) ?_
 refine RK.alc guard_none (op_box rfl rfl) ?_
 refine RK.alc guard_none (op_alloc hT rfl rfl) ?_
 refine RK.D ?_
 refine AWp_sr hP ?_
 refine RK.V (op_load_agg hT rfl rfl rfl rfl (cs := [_, _, _, _, _, _, _, _]) rfl rfl) ?_
 refine RK.V (Eff.call0 (q_rows _ _ _ _)) ?_
 refine RK.V (op_load_agg hT rfl rfl rfl rfl (cs := [_, _, _, _, _, _, _, _]) rfl rfl) ?_
 refine RK.V (Eff.call0 (q_rows _ _ _ _)) ?_
 refine RK.alc guard_none (op_alloc hT rfl rfl) ?_
 refine RK.alc guard_none (op_alloc hT rfl rfl) ?_
 refine RK.S hT rfl rfl rfl rfl rfl rfl rfl ?_
 refine RK.S hT rfl rfl rfl rfl rfl rfl rfl ?_
 refine RK.D ?_
 refine AWp_sr hP ?_
 refine RK.alc guard_none (op_alloc hT rfl rfl) ?_
 refine RK.D ?_
 refine AWp_seq ?_
 refine AWp_sr hP ?_
 refine RK.M rfl ?_
 refine RK.D ?_
 refine AWp_block ?_
 refine AWp_unroll 3 ?_
 refine AWp_sr hP ?_
 refine RK.V (op_lss rfl rfl) ?_
 refine RK.D ?_
 refine AWp_seq ?_
 refine AWp_cond_true rfl (by decide) ?_
 refine AWp_skip ?_
 refine AWp_seq ?_
 refine AWp_block ?_
 refine AWp_sr hP ?_
 refine RK.M rfl ?_
 refine RK.As rfl ?_
 refine RK.D ?_
 refine AWp_sr hP ?_
 refine RK.M rfl ?_
 refine RK.D ?_
 refine AWp_block ?_
 refine AWp_unroll 3 ?_
 refine AWp_sr hP ?_
 refine RK.V (op_lss rfl rfl) ?_
 refine RK.D ?_
 refine AWp_seq ?_
 refine AWp_cond_true rfl (by decide) ?_
 refine AWp_skip ?_
 refine AWp_seq ?_
 refine AWp_block ?_
 refine AWp_sr hP ?_
 refine RK.M rfl ?_
 refine RK.As rfl ?_
 refine RK.D ?_
 refine AWp_region hP ?_
 refine RK.M rfl ?_
 refine RK.M rfl ?_
 refine RK.M rfl ?_
 refine RK.V (op_index_arr hT rfl rfl rfl rfl rfl (by first | decide | omega)) ?_
 refine RK.V (op_index_arr hT rfl rfl rfl rfl rfl (by first | decide | omega)) ?_
 refine RK.G2 hT rfl rfl rfl rfl rfl rfl ?_
 refine RK.M rfl ?_
 refine RK.V (op_index_arr hT rfl rfl rfl rfl rfl (by first | decide | omega)) ?_
 refine RK.V (op_index_arr hT rfl rfl rfl rfl rfl (by first | decide | omega)) ?_
 refine RK.G2 hT rfl rfl rfl rfl rfl rfl ?_
 refine RK.V (op_bslice hT rfl rfl rfl (es := [_, _, _, _]) rfl rfl rfl) ?_
 refine RK.V (Eff.call0 (q_product2 _ _ lz lz)) ?_
 refine RK.M rfl ?_
 refine RK.V (op_index_arr hT rfl rfl rfl rfl rfl (by first | decide | omega)) ?_
 refine RK.V (op_index_arr hT rfl rfl rfl rfl rfl (by first | decide | omega)) ?_
 refine RK.G2 hT rfl rfl rfl rfl rfl rfl ?_
 refine RK.M rfl ?_
 refine RK.V (op_index_arr hT rfl rfl rfl rfl rfl (by first | decide | omega)) ?_
 refine RK.V (op_index_arr hT rfl rfl rfl rfl rfl (by first | decide | omega)) ?_
 refine RK.G2 hT rfl rfl rfl rfl rfl rfl ?_
 refine RK.V (op_bslice hT rfl rfl rfl (es := [_, _, _, _]) rfl rfl rfl) ?_
 refine RK.V (Eff.call0 (q_product2 _ _ lz lz)) ?_
 refine RK.V (Eff.call0 (int_Add _ _ lz lz)) ?_
 refine RK.V (op_index_arr hT rfl rfl rfl rfl rfl (by first | decide | omega)) ?_
 refine RK.V (op_index_arr hT rfl rfl rfl rfl rfl (by first | decide | omega)) ?_
 refine RK.S hT rfl rfl rfl rfl rfl rfl rfl ?_
 refine RK.D ?_
 refine AWp_region hP ?_
 refine RK.V (op_add rfl rfl (by first | exact IntWalk.i64_in _ (by omega) | rfl)) ?_
 refine RK.M rfl ?_
 refine RK.D ?_
 refine AWp_sr hP ?_
 refine RK.V (op_lss rfl rfl) ?_
 refine RK.D ?_
 refine AWp_seq ?_
 refine AWp_cond_true rfl (by decide) ?_
 refine AWp_skip ?_
 refine AWp_seq ?_
 refine AWp_block ?_
 refine AWp_sr hP ?_
 refine RK.M rfl ?_
 refine RK.As rfl ?_
 refine RK.D ?_
 refine AWp_region hP ?_
 refine RK.M rfl ?_
 refine RK.M rfl ?_
 refine RK.M rfl ?_
 refine RK.V (op_index_arr hT rfl rfl rfl rfl rfl (by first | decide | omega)) ?_
 refine RK.V (op_index_arr hT rfl rfl rfl rfl rfl (by first | decide | omega)) ?_
 refine RK.G2 hT rfl rfl rfl rfl rfl rfl ?_
 refine RK.M rfl ?_
 refine RK.V (op_index_arr hT rfl rfl rfl rfl rfl (by first | decide | omega)) ?_
 refine RK.V (op_index_arr hT rfl rfl rfl rfl rfl (by first | decide | omega)) ?_
 refine RK.G2 hT rfl rfl rfl rfl rfl rfl ?_
 refine RK.V (op_bslice hT rfl rfl rfl (es := [_, _, _, _]) rfl rfl rfl) ?_
 refine RK.V (Eff.call0 (q_product2 _ _ lz lz)) ?_
 refine RK.M rfl ?_
 refine RK.V (op_index_arr hT rfl rfl rfl rfl rfl (by first | decide | omega)) ?_
 refine RK.V (op_index_arr hT rfl rfl rfl rfl rfl (by first | decide | omega)) ?_
 refine RK.G2 hT rfl rfl rfl rfl rfl rfl ?_
 refine RK.M rfl ?_
 refine RK.V (op_index_arr hT rfl rfl rfl rfl rfl (by first | decide | omega)) ?_
 refine RK.V (op_index_arr hT rfl rfl rfl rfl rfl (by first | decide | omega)) ?_
 refine RK.G2 hT rfl rfl rfl rfl rfl rfl ?_
 refine RK.V (op_bslice hT rfl rfl rfl (es := [_, _, _, _]) rfl rfl rfl) ?_
 refine RK.V (Eff.call0 (q_product2 _ _ lz lz)) ?_
 refine RK.V (Eff.call0 (int_Add _ _ lz lz)) ?_
 refine RK.V (op_index_arr hT rfl rfl rfl rfl rfl (by first | decide | omega)) ?_
 refine RK.V (op_index_arr hT rfl rfl rfl rfl rfl (by first | decide | omega)) ?_
 refine RK.S hT rfl rfl rfl rfl rfl rfl rfl ?_
 refine RK.D ?_
 refine AWp_region hP ?_
 refine RK.V (op_add rfl rfl (by first | exact IntWalk.i64_in _ (by omega) | rfl)) ?_
 refine RK.M rfl ?_
 refine RK.D ?_
 refine AWp_sr hP ?_
 refine RK.V (op_lss rfl rfl) ?_
 refine RK.D ?_
 refine AWp_seq ?_
 refine AWp_cond_false rfl (by decide) ?_
 refine AWp_exit ?_
 refine AWp_region hP ?_
 refine RK.V (op_add rfl rfl (by first | exact IntWalk.i64_in _ (by omega) | rfl)) ?_
 refine RK.M rfl ?_
 refine RK.D ?_
 refine AWp_sr hP ?_
 refine RK.V (op_lss rfl rfl) ?_
 refine RK.D ?_
 refine AWp_seq ?_
 refine AWp_cond_true rfl (by decide) ?_
 refine AWp_skip ?_
 refine AWp_seq ?_
 refine AWp_block ?_
 refine AWp_sr hP ?_
 refine RK.M rfl ?_
 refine RK.As rfl ?_
 refine RK.D ?_
 refine AWp_sr hP ?_
 refine RK.M rfl ?_
 refine RK.D ?_
 refine AWp_block ?_
 refine AWp_unroll 3 ?_
 refine AWp_sr hP ?_
 refine RK.V (op_lss rfl rfl) ?_
 refine RK.D ?_
 refine AWp_seq ?_
 refine AWp_cond_true rfl (by decide) ?_
 refine AWp_skip ?_
 refine AWp_seq ?_
 refine AWp_block ?_
 refine AWp_sr hP ?_
 refine RK.M rfl ?_
 refine RK.As rfl ?_
 refine RK.D ?_
 refine AWp_region hP ?_
 refine RK.M rfl ?_
 refine RK.M rfl ?_
 refine RK.M rfl ?_
 refine RK.V (op_index_arr hT rfl rfl rfl rfl rfl (by first | decide | omega)) ?_
 refine RK.V (op_index_arr hT rfl rfl rfl rfl rfl (by first | decide | omega)) ?_
 refine RK.G2 hT rfl rfl rfl rfl rfl rfl ?_
 refine RK.M rfl ?_
 refine RK.V (op_index_arr hT rfl rfl rfl rfl rfl (by first | decide | omega)) ?_
 refine RK.V (op_index_arr hT rfl rfl rfl rfl rfl (by first | decide | omega)) ?_
 refine RK.G2 hT rfl rfl rfl rfl rfl rfl ?_
 refine RK.V (op_bslice hT rfl rfl rfl (es := [_, _, _, _]) rfl rfl rfl) ?_
 refine RK.V (Eff.call0 (q_product2 _ _ lz lz)) ?_
 refine RK.M rfl ?_
 refine RK.V (op_index_arr hT rfl rfl rfl rfl rfl (by first | decide | omega)) ?_
 refine RK.V (op_index_arr hT rfl rfl rfl rfl rfl (by first | decide | omega)) ?_
 refine RK.G2 hT rfl rfl rfl rfl rfl rfl ?_
 refine RK.M rfl ?_
 refine RK.V (op_index_arr hT rfl rfl rfl rfl rfl (by first | decide | omega)) ?_
 refine RK.V (op_index_arr hT rfl rfl rfl rfl rfl (by first | decide | omega)) ?_
 refine RK.G2 hT rfl rfl rfl rfl rfl rfl ?_
 refine RK.V (op_bslice hT rfl rfl rfl (es := [_, _, _, _]) rfl rfl rfl) ?_
 refine RK.V (Eff.call0 (q_product2 _ _ lz lz)) ?_
 refine RK.V (Eff.call0 (int_Add _ _ lz lz)) ?_
 refine RK.V (op_index_arr hT rfl rfl rfl rfl rfl (by first | decide | omega)) ?_
 refine RK.V (op_index_arr hT rfl rfl rfl rfl rfl (by first | decide | omega)) ?_
 refine RK.S hT rfl rfl rfl rfl rfl rfl rfl ?_
 refine RK.D ?_
 refine AWp_region hP ?_
 refine RK.V (op_add rfl rfl (by first | exact IntWalk.i64_in _ (by omega) | rfl)) ?_
 refine RK.M rfl ?_
 refine RK.D ?_
 refine AWp_sr hP ?_
 refine RK.V (op_lss rfl rfl) ?_
 refine RK.D ?_
 refine AWp_seq ?_
 refine AWp_cond_true rfl (by decide) ?_
 refine AWp_skip ?_
 refine AWp_seq ?_
 refine AWp_block ?_
 refine AWp_sr hP ?_
 refine RK.M rfl ?_
 refine RK.As rfl ?_
 refine RK.D ?_
 refine AWp_region hP ?_
 refine RK.M rfl ?_
 refine RK.M rfl ?_
 refine RK.M rfl ?_
 refine RK.V (op_index_arr hT rfl rfl rfl rfl rfl (by first | decide | omega)) ?_
 refine RK.V (op_index_arr hT rfl rfl rfl rfl rfl (by first | decide | omega)) ?_
 refine RK.G2 hT rfl rfl rfl rfl rfl rfl ?_
 refine RK.M rfl ?_
 refine RK.V (op_index_arr hT rfl rfl rfl rfl rfl (by first | decide | omega)) ?_
 refine RK.V (op_index_arr hT rfl rfl rfl rfl rfl (by first | decide | omega)) ?_
 refine RK.G2 hT rfl rfl rfl rfl rfl rfl ?_
 refine RK.V (op_bslice hT rfl rfl rfl (es := [_, _, _, _]) rfl rfl rfl) ?_
 refine RK.V (Eff.call0 (q_product2 _ _ lz lz)) ?_
 refine RK.M rfl ?_
 refine RK.V (op_index_arr hT rfl rfl rfl rfl rfl (by first | decide | omega)) ?_
 refine RK.V (op_index_arr hT rfl rfl rfl rfl rfl (by first | decide | omega)) ?_
 refine RK.G2 hT rfl rfl rfl rfl rfl rfl ?_
 refine RK.M rfl ?_
 refine RK.V (op_index_arr hT rfl rfl rfl rfl rfl (by first | decide | omega)) ?_
 refine RK.V (op_index_arr hT rfl rfl rfl rfl rfl (by first | decide | omega)) ?_
 refine RK.G2 hT rfl rfl rfl rfl rfl rfl ?_
 refine RK.V (op_bslice hT rfl rfl rfl (es := [_, _, _, _]) rfl rfl rfl) ?_
 refine RK.V (Eff.call0 (q_product2 _ _ lz lz)) ?_
 refine RK.V (Eff.call0 (int_Add _ _ lz lz)) ?_
 refine RK.V (op_index_arr hT rfl rfl rfl rfl rfl (by first | decide | omega)) ?_
 refine RK.V (op_index_arr hT rfl rfl rfl rfl rfl (by first | decide | omega)) ?_
 refine RK.S hT rfl rfl rfl rfl rfl rfl rfl ?_
 refine RK.D ?_
 refine AWp_region hP ?_
 refine RK.V (op_add rfl rfl (by first | exact IntWalk.i64_in _ (by omega) | rfl)) ?_
 refine RK.M rfl ?_
 refine RK.D ?_
 refine AWp_sr hP ?_
 refine RK.V (op_lss rfl rfl) ?_
 refine RK.D ?_
 refine AWp_seq ?_
 refine AWp_cond_false rfl (by decide) ?_
 refine AWp_exit ?_
 refine AWp_region hP ?_
 refine RK.V (op_add rfl rfl (by first | exact IntWalk.i64_in _ (by omega) | rfl)) ?_
 refine RK.M rfl ?_
 refine RK.D ?_
 refine AWp_sr hP ?_
 refine RK.V (op_lss rfl rfl) ?_
 refine RK.D ?_
 refine AWp_seq ?_
 refine AWp_cond_false rfl (by decide) ?_
 refine AWp_exit ?_
 refine AWp_sr hP ?_
 refine RK.V (op_index_arr hT rfl rfl rfl rfl rfl (by first | decide | omega)) ?_
 refine RK.V (op_index_arr hT rfl rfl rfl rfl rfl (by first | decide | omega)) ?_
 refine RK.G2 hT rfl rfl rfl rfl rfl rfl ?_
 refine RK.V (op_index_arr hT rfl rfl rfl rfl rfl (by first | decide | omega)) ?_
 refine RK.V (op_index_arr hT rfl rfl rfl rfl rfl (by first | decide | omega)) ?_
 refine RK.G2 hT rfl rfl rfl rfl rfl rfl ?_
 refine RK.V (op_index_arr hT rfl rfl rfl rfl rfl (by first | decide | omega)) ?_
 refine RK.V (op_index_arr hT rfl rfl rfl rfl rfl (by first | decide | omega)) ?_
 refine RK.G2 hT rfl rfl rfl rfl rfl rfl ?_
 refine RK.V (op_index_arr hT rfl rfl rfl rfl rfl (by first | decide | omega)) ?_
 refine RK.V (op_index_arr hT rfl rfl rfl rfl rfl (by first | decide | omega)) ?_
 refine RK.G2 hT rfl rfl rfl rfl rfl rfl ?_
 refine RK.V (op_build_st hT rfl rfl rfl (es := [_, _, _, _, _, _, _, _]) rfl) ?_
 refine RK.S hT rfl rfl rfl rfl rfl rfl rfl ?_
 refine RK.D ?_
 refine AWp_ret ?_
 refine ends_one rfl (.inr rfl) (res_cell_agg hT rfl rfl rfl rfl (cs := [_, _, _, _, _, _, _, _]) rfl rfl) ?_ O_ends
 exact .refl _
end Go.Proofs.YtfdjankalhfceaaGreat
end

section
/- quadratic: turn, Reduce, Inverse, Same -/
namespace Go.Proofs.YtfdjankalhfceaaGreat
open Go Go.AM
end Go.Proofs.YtfdjankalhfceaaGreat
end

section
/- integer.Low: a range over slices.Backward -/
namespace Go.Proofs.YtfdjankalhfceaaGreat
open Go Go.AM
/- slices.Backward[[]uint32,uint32]$1 -/
set_option maxHeartbeats 1000000 in
set_option maxRecDepth 100000 in
theorem sl_back1 (zs : List Nat) (hz : zs.length ≤ 1000000) :
  Iter Tryz.prog 94 [[W zs]] (bkL zs) := by
 refine iter_of Tryz.func94 (by kernel_rfl) rfl rfl (Nat.le_of_ble_eq_true rfl) rfl ?_
 intro l n0 J hK
 refine AJ_seq ?_
 refine AJ_region hP ?_
 refine RK.V (op_load_ip_one hT rfl rfl rfl (by first | rfl | exact wget (by omega))) ?_
 refine RK.V (op_len hT rfl rfl rfl (l := zs.length) rfl) ?_
 refine RK.V (op_sub rfl rfl (by first | exact IntWalk.i64_in _ (by omega) | rfl)) ?_
 refine RK.As rfl ?_
 refine RK.D ?_
 refine AJ_block ?_
 refine AJ_loop (ι := Nat) (fun k => stL [(0, .p (.c (.v (.func (.yield l) #[] #[])))), (1, .ip [W zs]), (3, Z ((zs.length : Int) - 1 - (k : Int)))] []) (fun k => k) (fun k => k ≤ zs.length) (fun k => zs.length - k) 0 (Nat.zero_le _) rfl (le_stL ⟨.refl _, .refl _, Sub.int (by simp), trivial⟩ trivial) ?_
 intro k hk
 refine AJ_seq ?_
 refine AJ_seq ?_
 refine AJ_region hP ?_
 refine RK.M rfl ?_
 refine RK.V (op_geq rfl rfl) ?_
 refine RK.D ?_
 refine AJ_cond rfl (fun hb1 => ?_) (fun hb1 => ?_)
 ·have hb1_ := of_decide_eq_true hb1
  refine AJ_skip ?_
  refine AJ_seq ?_
  refine AJ_block ?_
  refine AJ_seq ?_
  refine AJ_regionY ?_
  refine RJ.val guard_none (op_move (rfl : _ = AV.p (.c _))) ?_
  refine RJ.val guard_none (op_move (rfl : _ = AV.p (.c _))) ?_
  refine RJ.val guard_none (op_load_ip_one hT rfl rfl rfl (by first | rfl | exact wget (by omega))) ?_
  refine RJ.val guard_none (op_move (rfl : _ = AV.p (.c _))) ?_
  refine RJ.val guard_none (op_index_sl hT (l := zs.length) (n := ((zs.length : Int) - 1 - (k : Int))) rfl rfl rfl rfl rfl rfl (by omega) (W_ne (by omega))) ?_
  refine RJ.val guard_none (op_load_ip_one hT rfl rfl rfl (dv := w32 (zs.getD (zs.length - 1 - k) 0)) (by show ((zs.map w32).drop ((((zs.length : Int) - 1 - (k : Int))).toNat * 1))[0]? = _; rw [show (((zs.length : Int) - 1 - (k : Int))).toNat = zs.length - 1 - k by omega]; exact wget (by omega))) ?_
  refine RJ.yield hK guard_none rfl rfl (bkL_at (by omega)) ?_
  refine RJ.val guard_none (op_unot rfl) ?_
  refine RJ.done ?_
  refine AJ_cond_false rfl rfl ?_
  refine AJ_skip ?_
  refine AJ_region hP ?_
  refine RK.M rfl ?_
  refine RK.V (op_sub rfl rfl (by first | exact IntWalk.i64_in _ (by omega) | rfl)) ?_
  refine RK.As rfl ?_
  refine RK.D ?_
  refine ⟨k + 1, by omega, by omega, rfl, le_stL ⟨.refl _, .refl _, Sub.int (by omega), trivial⟩ trivial⟩
 ·have hb1_ := of_decide_eq_false hb1
  refine AJ_exit ?_
  refine ⟨.inl rfl, ?_⟩
  exact (bkL_len zs).symm ▸ (by omega)
/- slices.Backward[[]uint32,uint32] -/
set_option maxHeartbeats 1000000 in
set_option maxRecDepth 100000 in
theorem sl_back (zs : List Nat) :
  Call0 Tryz.prog 59 [.p (.c (W zs))] (.fn 94 [[W zs]]) := by
 refine callA_of Tryz.func59 (by kernel_rfl) rfl rfl (Nat.le_of_ble_eq_true rfl) rfl ?_
 refine AWp_sr hP ?_
 refine RK.alc guard_none (op_box rfl rfl) ?_
 refine RK.As rfl ?_
 refine RK.D ?_
 refine AWp_freezeBox (t := 1) rfl rfl ?_
 refine AWp_sr hP ?_
 refine RK.V (op_makeFunc rfl) ?_
 refine RK.V (op_assign (rfl : _ = AV.fn _ _)) ?_
 refine RK.D ?_
 refine AWp_ret ?_
 exact ⟨.inr rfl, 2, rfl, rfl⟩
/- algorist/integer.Low -/
set_option maxHeartbeats 2000000 in
set_option maxRecDepth 100000 in
theorem int_Low2 (x : Int) (hx : x.natAbs < 18446744073709551616) :
  Call0 Tryz.prog 22 [I x] (.t [PE (lwV x), PB (lwO x)]) := by
 have hlen : (wl x.natAbs).length ≤ 2 := wl_len_le (k := 2) (by omega)
 have hok := wl_ok x.natAbs
 refine callM_of (np := 0) Tryz.func22 (by kernel_rfl) rfl rfl (Nat.le_of_ble_eq_true rfl) (fun m h => absurd rfl h) (fun m h => absurd rfl h) rfl ?_
 refine AWp_sr hP ?_
 refine RK.alc guard_none (op_box rfl rfl) ?_
 refine RK.As rfl ?_
 refine RK.As rfl ?_
 refine RK.D ?_
 refine AWp_seq ?_
 refine AWp_sr hP ?_
 refine RK.F hT rfl rfl rfl rfl rfl rfl ?_
 refine RK.V (op_load_one hT rfl rfl rfl rfl (by first | rfl | exact vget (by omega))) ?_
 refine RK.V (op_len hT rfl rfl rfl (l := (wl x.natAbs).length) rfl) ?_
 refine RK.V (op_gtr rfl rfl) ?_
 refine RK.D ?_
 refine AWp_cond_false rfl (decide_eq_false (by omega)) ?_
 refine AWp_skip ?_
 refine AWp_sr hP ?_
 refine RK.alc guard_none (op_alloc hT rfl rfl) ?_
 refine RK.D ?_
 refine AWp_seq ?_
 refine AWp_sr hP ?_
 refine RK.F hT rfl rfl rfl rfl rfl rfl ?_
 refine RK.V (op_load_one hT rfl rfl rfl rfl (by first | rfl | exact vget (by omega))) ?_
 refine RK.V (Eff.call0 (sl_back (wl x.natAbs))) ?_
 refine RK.D ?_
 refine AWp_block ?_
 refine AWp_le (t := stL [(1, .loc 1 0), (4, .loc 4 0), (14, .fn 94 [[W (wl x.natAbs)]])] [(1, ⟨false, 1, 26, [zn x, zm x]⟩), (4, ⟨false, 1, 50, [.v (.int .u64 ((lwA (wl x.natAbs) 0 : Nat) : Int))]⟩)]) (le_stL ⟨.refl _, .refl _, .refl _, trivial⟩ ⟨rfl, by rw [lwA_0]; rfl, trivial⟩) ?_
 refine AWp_range 5 (fun k => lookO [(1, ⟨false, 1, 26, [zn x, zm x]⟩), (4, ⟨false, 1, 50, [.v (.int .u64 ((lwA (wl x.natAbs) k : Nat) : Int))]⟩)]) rfl (sl_back1 (wl x.natAbs) (by omega)) (bkL_two _) rfl rfl rfl (fun k xx hxx => ?_) ?_
 ·obtain ⟨hk, rfl⟩ := bkL_get hxx
  have hv := lwA_b hok hlen hk
  have hw := hok.getD ((wl x.natAbs).length - 1 - k)
  refine AWp_region hP ?_
  refine RK.As rfl ?_
  refine RK.D ?_
  refine AWp_block ?_
  refine AWp_region hP ?_
  refine RK.V (op_load_one hT rfl rfl rfl rfl (by first | rfl | exact vget (by omega))) ?_
  refine RK.V (op_shl rfl rfl (by decide) (c := ((lwA (wl x.natAbs) k * 4294967296 : Nat) : Int)) (by rw [show (2 : Int) ^ (min (32 : Int).toNat IntKind.u64.bits) = 4294967296 from rfl, IntWalk.u64_in _ (by omega)]; omega)) ?_
  refine RK.M rfl ?_
  refine RK.V (op_conv hT rfl rfl rfl rfl (IntWalk.u64_in _ (by omega))) ?_
  refine RK.V (op_or rfl rfl (or64 hv hw)) ?_
  refine RK.S hT rfl rfl rfl rfl rfl rfl rfl ?_
  refine RK.D ?_
  refine ⟨rfl, GW.forget_as (congrArg (fun y => lookO [(1, ⟨false, 1, 26, [zn x, zm x]⟩), (4, ⟨false, 1, 50, [.v (.int .u64 ((y : Nat) : Int))]⟩)]) (lwA_next hk).symm) (SubO.own ⟨rfl, rfl, trivial⟩)⟩
 rw [bkL_len, lwA_all, wv_wl]
 refine AWp_sr hP ?_
 refine RK.V (op_load_one hT rfl rfl rfl rfl (by first | rfl | exact vget (by omega))) ?_
 refine RK.V (op_conv hT rfl rfl rfl rfl (sw64_w hx)) ?_
 refine RK.As rfl ?_
 refine RK.D ?_
 refine AWp_seq ?_
 refine AWp_sr hP ?_
 refine RK.F hT rfl rfl rfl rfl rfl rfl ?_
 refine RK.V (op_load_one hT rfl rfl rfl rfl (by first | rfl | exact vget (by omega))) ?_
 refine RK.D ?_
 refine AWp_cond rfl (fun hb1 => ?_) (fun hb1 => ?_)
 ·have hn : x < 0 := of_decide_eq_true hb1
  refine AWp_region hP ?_
  refine RK.M rfl ?_
  refine RK.V (op_uneg rfl (yL_neg hn)) ?_
  refine RK.As rfl ?_
  refine RK.D ?_
  refine AWp_seq ?_
  refine AWp_sr hP ?_
  refine RK.M rfl ?_
  refine RK.V (op_neq rfl rfl) ?_
  refine RK.M rfl ?_
  refine RK.split (t := 30) rfl (fun hg2 => ?_) (fun hg2 => ?_)
  ·have hg2_ := bneT hg2
   refine RK.val (guard_yes rfl rfl hg2) (op_field_loc hT rfl rfl rfl rfl rfl rfl) ?_
   refine RK.val (guard_yes rfl rfl hg2) (op_load_one hT rfl rfl rfl rfl (by first | rfl | exact vget (by omega))) ?_
   refine RK.val (guard_yes rfl rfl hg2) (op_move (rfl : _ = AV.p (.c _))) ?_
   refine RK.val (guard_yes rfl rfl hg2) (op_lss rfl rfl) ?_
   refine RK.val (guard_yes rfl rfl hg2) (op_bne hT rfl rfl rfl rfl) ?_
   refine RK.V (op_pick_t rfl hg2 (rfl : _ = AV.p (.c _))) ?_
   refine RK.D ?_
   refine AWp_cond rfl (fun hb3 => ?_) (fun hb3 => ?_)
   ·refine AWp_sr hP ?_
    refine RK.As rfl ?_
    refine RK.As rfl ?_
    refine RK.D ?_
    refine AWp_ret ?_
    refine ends_two rfl (.inr rfl) (res_tmp rfl) (res_tmp rfl) ?_ O_ends
    exact Sub.of_eq (low_bad hx (by assumption))
   ·refine AWp_skip ?_
    refine AWp_sr hP ?_
    refine RK.M rfl ?_
    refine RK.As rfl ?_
    refine RK.As rfl ?_
    refine RK.D ?_
    refine AWp_ret ?_
    refine ends_two rfl (.inr rfl) (res_tmp rfl) (res_tmp rfl) ?_ O_ends
    exact Sub.of_eq (low_good hx (by assumption))
  ·have hg2_ := bneF hg2
   refine RK.skip (guard_no rfl rfl hg2) ?_
   refine RK.skip (guard_no rfl rfl hg2) ?_
   refine RK.skip (guard_no rfl rfl hg2) ?_
   refine RK.skip (guard_no rfl rfl hg2) ?_
   refine RK.skip (guard_no rfl rfl hg2) ?_
   refine RK.V (op_pick_f rfl hg2 (rfl : _ = AV.p (.c _))) ?_
   refine RK.D ?_
   refine AWp_cond_false rfl rfl ?_
   refine AWp_skip ?_
   refine AWp_sr hP ?_
   refine RK.M rfl ?_
   refine RK.As rfl ?_
   refine RK.As rfl ?_
   refine RK.D ?_
   refine AWp_ret ?_
   refine ends_two rfl (.inr rfl) (res_tmp rfl) (res_tmp rfl) ?_ O_ends
   exact Sub.of_eq (low_zero0 hx (by assumption))
 ·have hn : ¬ x < 0 := of_decide_eq_false hb1
  rw [yL_pos hn]
  refine AWp_skip ?_
  refine AWp_seq ?_
  refine AWp_sr hP ?_
  refine RK.M rfl ?_
  refine RK.V (op_neq rfl rfl) ?_
  refine RK.M rfl ?_
  refine RK.split (t := 30) rfl (fun hg4 => ?_) (fun hg4 => ?_)
  ·have hg4_ := bneT hg4
   refine RK.val (guard_yes rfl rfl hg4) (op_field_loc hT rfl rfl rfl rfl rfl rfl) ?_
   refine RK.val (guard_yes rfl rfl hg4) (op_load_one hT rfl rfl rfl rfl (by first | rfl | exact vget (by omega))) ?_
   refine RK.val (guard_yes rfl rfl hg4) (op_move (rfl : _ = AV.p (.c _))) ?_
   refine RK.val (guard_yes rfl rfl hg4) (op_lss rfl rfl) ?_
   refine RK.val (guard_yes rfl rfl hg4) (op_bne hT rfl rfl rfl rfl) ?_
   refine RK.V (op_pick_t rfl hg4 (rfl : _ = AV.p (.c _))) ?_
   refine RK.D ?_
   refine AWp_cond rfl (fun hb5 => ?_) (fun hb5 => ?_)
   ·refine AWp_sr hP ?_
    refine RK.As rfl ?_
    refine RK.As rfl ?_
    refine RK.D ?_
    refine AWp_ret ?_
    refine ends_two rfl (.inr rfl) (res_tmp rfl) (res_tmp rfl) ?_ O_ends
    exact Sub.of_eq (low_bad hx (by assumption))
   ·refine AWp_skip ?_
    refine AWp_sr hP ?_
    refine RK.M rfl ?_
    refine RK.As rfl ?_
    refine RK.As rfl ?_
    refine RK.D ?_
    refine AWp_ret ?_
    refine ends_two rfl (.inr rfl) (res_tmp rfl) (res_tmp rfl) ?_ O_ends
    exact Sub.of_eq (low_good hx (by assumption))
  ·have hg4_ := bneF hg4
   refine RK.skip (guard_no rfl rfl hg4) ?_
   refine RK.skip (guard_no rfl rfl hg4) ?_
   refine RK.skip (guard_no rfl rfl hg4) ?_
   refine RK.skip (guard_no rfl rfl hg4) ?_
   refine RK.skip (guard_no rfl rfl hg4) ?_
   refine RK.V (op_pick_f rfl hg4 (rfl : _ = AV.p (.c _))) ?_
   refine RK.D ?_
   refine AWp_cond_false rfl rfl ?_
   refine AWp_skip ?_
   refine AWp_sr hP ?_
   refine RK.M rfl ?_
   refine RK.As rfl ?_
   refine RK.As rfl ?_
   refine RK.D ?_
   refine AWp_ret ?_
   refine ends_two rfl (.inr rfl) (res_tmp rfl) (res_tmp rfl) ?_ O_ends
   exact Sub.of_eq (low_zero0 hx (by assumption))
theorem lw_in {x : Int} (h1 : -9223372036854775808 < x) (h2 : x < 9223372036854775808) : AV.t [PE (lwV x), PB (lwO x)] = .t [PE x, PB true] := by
 have e : lwO x = true := decide_eq_true ⟨by omega, h2⟩
 unfold lwV; rw [e]; rfl
theorem int_Low (x : Int) (h1 : -9223372036854775808 < x) (h2 : x < 9223372036854775808) : Call0 Tryz.prog 22 [I x] (.t [.c (.v (.int .i64 x)), PB true]) := lw_in h1 h2 ▸ int_Low2 x (by omega)
end Go.Proofs.YtfdjankalhfceaaGreat
end

import Derived.Test.YthaiejfjnllglaaGreatDoorMBA
import Derived.Test.YthaiejfjnllglaaGreatDoorMBB
import Derived.Test.YthaiejfjnllglaaGreatDoorProg
import Derived.KernelRfl
set_option maxRecDepth 100000
set_option maxHeartbeats 2000000
namespace Go.Proofs.YthaiejfjnllglaaGreatDoor
section
open Go Go.AM
def ty2 : TyI := ⟨.int .i64, 1, 8, [.v (.int .i64 0)]⟩
theorem FY : TyOK Tryz.prog 2 ty2 := TyOK.mk' (z := .int .i64 0) (by kernel_rfl) Tryz.underlying2 rfl rfl ⟨z_v _ rfl, trivial⟩
def ty3 : TyI := ⟨.int .i64, 1, 8, [.v (.int .i64 0)]⟩
theorem FU : TyOK Tryz.prog 3 ty3 := TyOK.mk' (z := .int .i64 0) (by kernel_rfl) Tryz.underlying3 rfl rfl ⟨z_v _ rfl, trivial⟩
def ty4 : TyI := ⟨.bool, 1, 1, [.v (.bool false)]⟩
theorem FN : TyOK Tryz.prog 4 ty4 := TyOK.mk' (z := .bool false) (by kernel_rfl) Tryz.underlying4 trivial rfl ⟨z_v _ rfl, trivial⟩
def ty5 : TyI := ⟨.int .u8, 1, 1, [.v (.int .u8 0)]⟩
theorem FE : TyOK Tryz.prog 5 ty5 := TyOK.mk' (z := .int .u8 0) (by kernel_rfl) Tryz.underlying5 rfl rfl ⟨z_v _ rfl, trivial⟩
def ty9 : TyI := ⟨.str, 1, 16, [.v (.string ⟨#[]⟩)]⟩
theorem Fp : TyOK Tryz.prog 9 ty9 := TyOK.mk' (z := .string ⟨#[]⟩) (by kernel_rfl) Tryz.underlying9 trivial rfl ⟨z_v _ rfl, trivial⟩
def Gc : TyI := ⟨.int .u64, 1, 8, [.v (.int .u64 0)]⟩
theorem C8 : TyOK Tryz.prog 12 Gc := TyOK.mk' (z := .int .u64 0) (by kernel_rfl) Tryz.underlying12 rfl rfl ⟨z_v _ rfl, trivial⟩
def Gb : TyI := ⟨.int .i32, 1, 4, [.v (.int .i32 0)]⟩
theorem C7 : TyOK Tryz.prog 21 Gb := TyOK.mk' (z := .int .i32 0) (by kernel_rfl) Tryz.underlying21 rfl rfl ⟨z_v _ rfl, trivial⟩
def Ga : TyI := ⟨.int .u16, 1, 2, [.v (.int .u16 0)]⟩
theorem C6 : TyOK Tryz.prog 22 Ga := TyOK.mk' (z := .int .u16 0) (by kernel_rfl) Tryz.underlying22 rfl rfl ⟨z_v _ rfl, trivial⟩
def F9 : TyI := ⟨.ar 4 22, 4, 8, [.v (.int .u16 0), .v (.int .u16 0), .v (.int .u16 0), .v (.int .u16 0)]⟩
theorem C5 : TyOK Tryz.prog 23 F9 := TyOK.mk' (z := .agg #[.int .u16 0, .int .u16 0, .int .u16 0, .int .u16 0]) (by kernel_rfl) Tryz.underlying23 ⟨rfl, rfl⟩ rfl ⟨z_v _ rfl, z_v _ rfl, z_v _ rfl, z_v _ rfl, trivial⟩
def F8 : TyI := ⟨.ar 4 5, 4, 4, [.v (.int .u8 0), .v (.int .u8 0), .v (.int .u8 0), .v (.int .u8 0)]⟩
theorem C4 : TyOK Tryz.prog 24 F8 := TyOK.mk' (z := .agg #[.int .u8 0, .int .u8 0, .int .u8 0, .int .u8 0]) (by kernel_rfl) Tryz.underlying24 ⟨rfl, rfl⟩ rfl ⟨z_v _ rfl, z_v _ rfl, z_v _ rfl, z_v _ rfl, trivial⟩
def F7 : TyI := ⟨.st [(0, 22), (1, 23), (5, 24)], 9, 14, [.v (.int .u16 0), .v (.int .u16 0), .v (.int .u16 0), .v (.int .u16 0), .v (.int .u16 0), .v (.int .u8 0), .v (.int .u8 0), .v (.int .u8 0), .v (.int .u8 0)]⟩
theorem C3 : TyOK Tryz.prog 25 F7 := TyOK.mk' (z := .agg #[.int .u16 0, .int .u16 0, .int .u16 0, .int .u16 0, .int .u16 0, .int .u8 0, .int .u8 0, .int .u8 0, .int .u8 0]) (by kernel_rfl) Tryz.underlying25 rfl rfl ⟨z_v _ rfl, z_v _ rfl, z_v _ rfl, z_v _ rfl, z_v _ rfl, z_v _ rfl, z_v _ rfl, z_v _ rfl, z_v _ rfl, trivial⟩
def F6 : TyI := ⟨.st [(0, 22), (1, 23), (5, 24)], 9, 14, [.v (.int .u16 0), .v (.int .u16 0), .v (.int .u16 0), .v (.int .u16 0), .v (.int .u16 0), .v (.int .u8 0), .v (.int .u8 0), .v (.int .u8 0), .v (.int .u8 0)]⟩
theorem CZ : TyOK Tryz.prog 26 F6 := TyOK.mk' (z := .agg #[.int .u16 0, .int .u16 0, .int .u16 0, .int .u16 0, .int .u16 0, .int .u8 0, .int .u8 0, .int .u8 0, .int .u8 0]) (by kernel_rfl) Tryz.underlying26 rfl rfl ⟨z_v _ rfl, z_v _ rfl, z_v _ rfl, z_v _ rfl, z_v _ rfl, z_v _ rfl, z_v _ rfl, z_v _ rfl, z_v _ rfl, trivial⟩
def F5 : TyI := ⟨.sl 105, 1, 24, [.sl 0 []]⟩
theorem CY : TyOK Tryz.prog 27 F5 := TyOK.mk' (z := .slice none 0 0) (by kernel_rfl) Tryz.underlying27 rfl rfl ⟨b7, trivial⟩
def F0 : TyI := ⟨.st [(0, 4), (1, 27)], 2, 32, [.v (.bool false), .sl 0 []]⟩
theorem CX : TyOK Tryz.prog 28 F0 := TyOK.mk' (z := .agg #[.bool false, .slice none 0 0]) (by kernel_rfl) Tryz.underlying28 rfl rfl ⟨z_v _ rfl, b7, trivial⟩
def FZ : TyI := ⟨.st [(0, 4), (1, 27)], 2, 32, [zn 0, zm 0]⟩
theorem CW : TyOK Tryz.prog 29 FZ := TyOK.mk' (z := .agg #[.bool false, .slice none 0 0]) (by kernel_rfl) Tryz.underlying29 rfl rfl ⟨bX, bY, trivial⟩
def FX : TyI := ⟨.sl 46, 1, 24, [.sl 0 []]⟩
theorem CV : TyOK Tryz.prog 32 FX := TyOK.mk' (z := .slice none 0 0) (by kernel_rfl) Tryz.underlying32 rfl rfl ⟨b7, trivial⟩
def FW : TyI := ⟨.int .i64, 1, 8, [.v (.int .i64 0)]⟩
theorem CU : TyOK Tryz.prog 33 FW := TyOK.mk' (z := .int .i64 0) (by kernel_rfl) Tryz.underlying33 rfl rfl ⟨z_v _ rfl, trivial⟩
def FV : TyI := ⟨.sl 29, 1, 24, [.sl 0 []]⟩
theorem CT : TyOK Tryz.prog 36 FV := TyOK.mk' (z := .slice none 0 0) (by kernel_rfl) Tryz.underlying36 rfl rfl ⟨b7, trivial⟩
def FT : TyI := ⟨.st [(0, 3), (1, 29), (3, 29), (5, 29), (7, 36), (8, 32)], 9, 152, [.v (.int .i64 0), zn 0, zm 0, zn 0, zm 0, zn 0, zm 0, .sl 0 [], .sl 0 []]⟩
theorem CR : TyOK Tryz.prog 41 FT := TyOK.mk' (z := .agg #[.int .i64 0, .bool false, .slice none 0 0, .bool false, .slice none 0 0, .bool false, .slice none 0 0, .slice none 0 0, .slice none 0 0]) (by kernel_rfl) Tryz.underlying41 rfl rfl ⟨z_v _ rfl, bX, bY, bX, bY, bX, bY, b7, b7, trivial⟩
def FR : TyI := ⟨.st [(0, 3), (1, 29), (3, 29), (5, 29), (7, 36), (8, 32)], 9, 152, [.v (.int .i64 0), zn 0, zm 0, zn 0, zm 0, zn 0, zm 0, .sl 0 [], .sl 0 []]⟩
theorem CQ : TyOK Tryz.prog 42 FR := TyOK.mk' (z := .agg #[.int .i64 0, .bool false, .slice none 0 0, .bool false, .slice none 0 0, .bool false, .slice none 0 0, .slice none 0 0, .slice none 0 0]) (by kernel_rfl) Tryz.underlying42 rfl rfl ⟨z_v _ rfl, bX, bY, bX, bY, bX, bY, b7, b7, trivial⟩
def FQ : TyI := ⟨.st [(0, 29), (2, 29), (4, 29)], 6, 96, [zn 0, zm 0, zn 0, zm 0, zn 0, zm 0]⟩
theorem CP : TyOK Tryz.prog 45 FQ := TyOK.mk' (z := .agg #[.bool false, .slice none 0 0, .bool false, .slice none 0 0, .bool false, .slice none 0 0]) (by kernel_rfl) Tryz.underlying45 rfl rfl ⟨bX, bY, bX, bY, bX, bY, trivial⟩
def FP : TyI := ⟨.st [(0, 29), (2, 29), (4, 29)], 6, 96, [zn 0, zm 0, zn 0, zm 0, zn 0, zm 0]⟩
theorem CO : TyOK Tryz.prog 46 FP := TyOK.mk' (z := .agg #[.bool false, .slice none 0 0, .bool false, .slice none 0 0, .bool false, .slice none 0 0]) (by kernel_rfl) Tryz.underlying46 rfl rfl ⟨bX, bY, bX, bY, bX, bY, trivial⟩
def FO : TyI := ⟨.sl 3, 1, 24, [.sl 0 []]⟩
theorem CN : TyOK Tryz.prog 48 FO := TyOK.mk' (z := .slice none 0 0) (by kernel_rfl) Tryz.underlying48 rfl rfl ⟨b7, trivial⟩
def FM : TyI := ⟨.st [(0, 4), (1, 27)], 2, 32, [.v (.bool false), .sl 0 []]⟩
theorem CM : TyOK Tryz.prog 53 FM := TyOK.mk' (z := .agg #[.bool false, .slice none 0 0]) (by kernel_rfl) Tryz.underlying53 rfl rfl ⟨z_v _ rfl, b7, trivial⟩
def FJ : TyI := ⟨.st [(0, 4), (1, 27)], 2, 32, [.v (.bool false), .sl 0 []]⟩
theorem CL : TyOK Tryz.prog 54 FJ := TyOK.mk' (z := .agg #[.bool false, .slice none 0 0]) (by kernel_rfl) Tryz.underlying54 rfl rfl ⟨z_v _ rfl, b7, trivial⟩
def FI : TyI := ⟨.ar 3 54, 6, 96, [.v (.bool false), .sl 0 [], .v (.bool false), .sl 0 [], .v (.bool false), .sl 0 []]⟩
theorem CI : TyOK Tryz.prog 55 FI := TyOK.mk' (z := .agg #[.bool false, .slice none 0 0, .bool false, .slice none 0 0, .bool false, .slice none 0 0]) (by kernel_rfl) Tryz.underlying55 ⟨rfl, rfl⟩ rfl ⟨z_v _ rfl, b7, z_v _ rfl, b7, z_v _ rfl, b7, trivial⟩
def FH : TyI := ⟨.ar 4 54, 8, 128, [.v (.bool false), .sl 0 [], .v (.bool false), .sl 0 [], .v (.bool false), .sl 0 [], .v (.bool false), .sl 0 []]⟩
theorem CH : TyOK Tryz.prog 56 FH := TyOK.mk' (z := .agg #[.bool false, .slice none 0 0, .bool false, .slice none 0 0, .bool false, .slice none 0 0, .bool false, .slice none 0 0]) (by kernel_rfl) Tryz.underlying56 ⟨rfl, rfl⟩ rfl ⟨z_v _ rfl, b7, z_v _ rfl, b7, z_v _ rfl, b7, z_v _ rfl, b7, trivial⟩
def FG : TyI := ⟨.st [(0, 55), (6, 56)], 14, 224, [.v (.bool false), .sl 0 [], .v (.bool false), .sl 0 [], .v (.bool false), .sl 0 [], .v (.bool false), .sl 0 [], .v (.bool false), .sl 0 [], .v (.bool false), .sl 0 [], .v (.bool false), .sl 0 []]⟩
theorem CG : TyOK Tryz.prog 57 FG := TyOK.mk' (z := .agg #[.bool false, .slice none 0 0, .bool false, .slice none 0 0, .bool false, .slice none 0 0, .bool false, .slice none 0 0, .bool false, .slice none 0 0, .bool false, .slice none 0 0, .bool false, .slice none 0 0]) (by kernel_rfl) Tryz.underlying57 rfl rfl ⟨z_v _ rfl, b7, z_v _ rfl, b7, z_v _ rfl, b7, z_v _ rfl, b7, z_v _ rfl, b7, z_v _ rfl, b7, z_v _ rfl, b7, trivial⟩
def FF : TyI := ⟨.st [(0, 55), (6, 56)], 14, 224, [.v (.bool false), .sl 0 [], .v (.bool false), .sl 0 [], .v (.bool false), .sl 0 [], .v (.bool false), .sl 0 [], .v (.bool false), .sl 0 [], .v (.bool false), .sl 0 [], .v (.bool false), .sl 0 []]⟩
theorem CF : TyOK Tryz.prog 58 FF := TyOK.mk' (z := .agg #[.bool false, .slice none 0 0, .bool false, .slice none 0 0, .bool false, .slice none 0 0, .bool false, .slice none 0 0, .bool false, .slice none 0 0, .bool false, .slice none 0 0, .bool false, .slice none 0 0]) (by kernel_rfl) Tryz.underlying58 rfl rfl ⟨z_v _ rfl, b7, z_v _ rfl, b7, z_v _ rfl, b7, z_v _ rfl, b7, z_v _ rfl, b7, z_v _ rfl, b7, z_v _ rfl, b7, trivial⟩
def FD : TyI := ⟨.st [(0, 36), (1, 33)], 2, 32, [.sl 0 [], .v (.int .i64 0)]⟩
theorem CE : TyOK Tryz.prog 62 FD := TyOK.mk' (z := .agg #[.slice none 0 0, .int .i64 0]) (by kernel_rfl) Tryz.underlying62 rfl rfl ⟨b7, z_v _ rfl, trivial⟩
def Fz : TyI := ⟨.st [(0, 36), (1, 33)], 2, 32, [.sl 0 [], .v (.int .i64 0)]⟩
theorem CC : TyOK Tryz.prog 63 Fz := TyOK.mk' (z := .agg #[.slice none 0 0, .int .i64 0]) (by kernel_rfl) Tryz.underlying63 rfl rfl ⟨b7, z_v _ rfl, trivial⟩
def Fy : TyI := ⟨.sl 93, 1, 24, [.sl 0 []]⟩
theorem CA : TyOK Tryz.prog 65 Fy := TyOK.mk' (z := .slice none 0 0) (by kernel_rfl) Tryz.underlying65 rfl rfl ⟨b7, trivial⟩
def Fx : TyI := ⟨.st [(0, 42), (9, 33)], 10, 160, [.v (.int .i64 0), zn 0, zm 0, zn 0, zm 0, zn 0, zm 0, .sl 0 [], .sl 0 [], .v (.int .i64 0)]⟩
theorem Cz : TyOK Tryz.prog 71 Fx := TyOK.mk' (z := .agg #[.int .i64 0, .bool false, .slice none 0 0, .bool false, .slice none 0 0, .bool false, .slice none 0 0, .slice none 0 0, .slice none 0 0, .int .i64 0]) (by kernel_rfl) Tryz.underlying71 rfl rfl ⟨z_v _ rfl, bX, bY, bX, bY, bX, bY, b7, b7, z_v _ rfl, trivial⟩
def Fw : TyI := ⟨.st [(0, 42), (9, 33)], 10, 160, [.v (.int .i64 0), zn 0, zm 0, zn 0, zm 0, zn 0, zm 0, .sl 0 [], .sl 0 [], .v (.int .i64 0)]⟩
theorem Cy : TyOK Tryz.prog 72 Fw := TyOK.mk' (z := .agg #[.int .i64 0, .bool false, .slice none 0 0, .bool false, .slice none 0 0, .bool false, .slice none 0 0, .slice none 0 0, .slice none 0 0, .int .i64 0]) (by kernel_rfl) Tryz.underlying72 rfl rfl ⟨z_v _ rfl, bX, bY, bX, bY, bX, bY, b7, b7, z_v _ rfl, trivial⟩
def Fv : TyI := ⟨.st [(0, 42), (9, 33)], 10, 160, [.v (.int .i64 0), zn 0, zm 0, zn 0, zm 0, zn 0, zm 0, .sl 0 [], .sl 0 [], .v (.int .i64 0)]⟩
theorem Cx : TyOK Tryz.prog 74 Fv := TyOK.mk' (z := .agg #[.int .i64 0, .bool false, .slice none 0 0, .bool false, .slice none 0 0, .bool false, .slice none 0 0, .slice none 0 0, .slice none 0 0, .int .i64 0]) (by kernel_rfl) Tryz.underlying74 rfl rfl ⟨z_v _ rfl, bX, bY, bX, bY, bX, bY, b7, b7, z_v _ rfl, trivial⟩
def Fu : TyI := ⟨.sl 42, 1, 24, [.sl 0 []]⟩
theorem Cw : TyOK Tryz.prog 84 Fu := TyOK.mk' (z := .slice none 0 0) (by kernel_rfl) Tryz.underlying84 rfl rfl ⟨b7, trivial⟩
def Ft : TyI := ⟨.st [(0, 29), (2, 29), (4, 29), (6, 29)], 8, 128, [zn 0, zm 0, zn 0, zm 0, zn 0, zm 0, zn 0, zm 0]⟩
theorem Cv : TyOK Tryz.prog 86 Ft := TyOK.mk' (z := .agg #[.bool false, .slice none 0 0, .bool false, .slice none 0 0, .bool false, .slice none 0 0, .bool false, .slice none 0 0]) (by kernel_rfl) Tryz.underlying86 rfl rfl ⟨bX, bY, bX, bY, bX, bY, bX, bY, trivial⟩
def Fs : TyI := ⟨.st [(0, 29), (2, 29), (4, 29), (6, 29)], 8, 128, [zn 0, zm 0, zn 0, zm 0, zn 0, zm 0, zn 0, zm 0]⟩
theorem Cu : TyOK Tryz.prog 87 Fs := TyOK.mk' (z := .agg #[.bool false, .slice none 0 0, .bool false, .slice none 0 0, .bool false, .slice none 0 0, .bool false, .slice none 0 0]) (by kernel_rfl) Tryz.underlying87 rfl rfl ⟨bX, bY, bX, bY, bX, bY, bX, bY, trivial⟩
def yS : TyI := ⟨.ar 2 29, 4, 64, [zn 0, zm 0, zn 0, zm 0]⟩
theorem Ct : TyOK Tryz.prog 93 yS := TyOK.mk' (z := .agg #[.bool false, .slice none 0 0, .bool false, .slice none 0 0]) (by kernel_rfl) Tryz.underlying93 ⟨rfl, rfl⟩ rfl ⟨bX, bY, bX, bY, trivial⟩
def Fq : TyI := ⟨.ar 2 5, 2, 2, [.v (.int .u8 0), .v (.int .u8 0)]⟩
theorem Cs : TyOK Tryz.prog 96 Fq := TyOK.mk' (z := .agg #[.int .u8 0, .int .u8 0]) (by kernel_rfl) Tryz.underlying96 ⟨rfl, rfl⟩ rfl ⟨z_v _ rfl, z_v _ rfl, trivial⟩
def BL : TyI := ⟨.int .u64, 1, 8, [.v (.int .u64 0)]⟩
theorem zt : TyOK Tryz.prog 103 BL := TyOK.mk' (z := .int .u64 0) (by kernel_rfl) Tryz.underlying103 rfl rfl ⟨z_v _ rfl, trivial⟩
def BK : TyI := ⟨.int .u32, 1, 4, [.v (.int .u32 0)]⟩
theorem zr : TyOK Tryz.prog 105 BK := TyOK.mk' (z := .int .u32 0) (by kernel_rfl) Tryz.underlying105 rfl rfl ⟨z_v _ rfl, trivial⟩
def BJ : TyI := ⟨.int .u64, 1, 8, [.v (.int .u64 0)]⟩
theorem zq : TyOK Tryz.prog 106 BJ := TyOK.mk' (z := .int .u64 0) (by kernel_rfl) Tryz.underlying106 rfl rfl ⟨z_v _ rfl, trivial⟩
def BH : TyI := ⟨.sl 105, 1, 24, [.sl 0 []]⟩
theorem zo : TyOK Tryz.prog 114 BH := TyOK.mk' (z := .slice none 0 0) (by kernel_rfl) Tryz.underlying114 rfl rfl ⟨b7, trivial⟩
def BG : TyI := ⟨.sl 142, 1, 24, [.sl 0 []]⟩
theorem zl : TyOK Tryz.prog 138 BG := TyOK.mk' (z := .slice none 0 0) (by kernel_rfl) Tryz.underlying138 rfl rfl ⟨b7, trivial⟩
def BE : TyI := ⟨.st [(0, 3), (1, 140)], 2, 16, [.v (.int .i64 0), .v (.nilFunc)]⟩
theorem zj : TyOK Tryz.prog 141 BE := TyOK.mk' (z := .agg #[.int .i64 0, .nilFunc]) (by kernel_rfl) Tryz.underlying141 rfl rfl ⟨z_v _ rfl, z_v _ rfl, trivial⟩
def BD : TyI := ⟨.st [(0, 3), (1, 140)], 2, 16, [.v (.int .i64 0), .v (.nilFunc)]⟩
theorem zi : TyOK Tryz.prog 142 BD := TyOK.mk' (z := .agg #[.int .i64 0, .nilFunc]) (by kernel_rfl) Tryz.underlying142 rfl rfl ⟨z_v _ rfl, z_v _ rfl, trivial⟩
def BC : TyI := ⟨.pt 163, 1, 8, [.v (.pointer none)]⟩
theorem zh : TyOK Tryz.prog 161 BC := TyOK.mk' (z := .pointer none) (by kernel_rfl) Tryz.underlying161 rfl rfl ⟨z_v _ rfl, trivial⟩
def BB : TyI := ⟨.st [(0, 46), (6, 87)], 14, 224, [zn 0, zm 0, zn 0, zm 0, zn 0, zm 0, zn 0, zm 0, zn 0, zm 0, zn 0, zm 0, zn 0, zm 0]⟩
theorem zg : TyOK Tryz.prog 162 BB := TyOK.mk' (z := .agg #[.bool false, .slice none 0 0, .bool false, .slice none 0 0, .bool false, .slice none 0 0, .bool false, .slice none 0 0, .bool false, .slice none 0 0, .bool false, .slice none 0 0, .bool false, .slice none 0 0]) (by kernel_rfl) Tryz.underlying162 rfl rfl ⟨bX, bY, bX, bY, bX, bY, bX, bY, bX, bY, bX, bY, bX, bY, trivial⟩
def BA : TyI := ⟨.st [(0, 46), (6, 87)], 14, 224, [zn 0, zm 0, zn 0, zm 0, zn 0, zm 0, zn 0, zm 0, zn 0, zm 0, zn 0, zm 0, zn 0, zm 0]⟩
theorem zf : TyOK Tryz.prog 163 BA := TyOK.mk' (z := .agg #[.bool false, .slice none 0 0, .bool false, .slice none 0 0, .bool false, .slice none 0 0, .bool false, .slice none 0 0, .bool false, .slice none 0 0, .bool false, .slice none 0 0, .bool false, .slice none 0 0]) (by kernel_rfl) Tryz.underlying163 rfl rfl ⟨bX, bY, bX, bY, bX, bY, bX, bY, bX, bY, bX, bY, bX, bY, trivial⟩
def Bz : TyI := ⟨.st [(0, 2), (1, 2), (2, 2)], 3, 24, [.v (.int .i64 0), .v (.int .i64 0), .v (.int .i64 0)]⟩
theorem ze : TyOK Tryz.prog 175 Bz := TyOK.mk' (z := .agg #[.int .i64 0, .int .i64 0, .int .i64 0]) (by kernel_rfl) Tryz.underlying175 rfl rfl ⟨z_v _ rfl, z_v _ rfl, z_v _ rfl, trivial⟩
def By : TyI := ⟨.st [(0, 2), (1, 2), (2, 2)], 3, 24, [.v (.int .i64 0), .v (.int .i64 0), .v (.int .i64 0)]⟩
theorem zd : TyOK Tryz.prog 176 By := TyOK.mk' (z := .agg #[.int .i64 0, .int .i64 0, .int .i64 0]) (by kernel_rfl) Tryz.underlying176 rfl rfl ⟨z_v _ rfl, z_v _ rfl, z_v _ rfl, trivial⟩
def Bv : TyI := ⟨.sl 192, 1, 24, [.sl 0 []]⟩
theorem za : TyOK Tryz.prog 190 Bv := TyOK.mk' (z := .slice none 0 0) (by kernel_rfl) Tryz.underlying190 rfl rfl ⟨b7, trivial⟩
def Bu : TyI := ⟨.ar 2 3, 2, 16, [.v (.int .i64 0), .v (.int .i64 0)]⟩
theorem y9 : TyOK Tryz.prog 192 Bu := TyOK.mk' (z := .agg #[.int .i64 0, .int .i64 0]) (by kernel_rfl) Tryz.underlying192 ⟨rfl, rfl⟩ rfl ⟨z_v _ rfl, z_v _ rfl, trivial⟩
def Bt : TyI := ⟨.ar 3 29, 6, 96, [zn 0, zm 0, zn 0, zm 0, zn 0, zm 0]⟩
theorem y8 : TyOK Tryz.prog 206 Bt := TyOK.mk' (z := .agg #[.bool false, .slice none 0 0, .bool false, .slice none 0 0, .bool false, .slice none 0 0]) (by kernel_rfl) Tryz.underlying206 ⟨rfl, rfl⟩ rfl ⟨bX, bY, bX, bY, bX, bY, trivial⟩
def Bs : TyI := ⟨.sl 2, 1, 24, [.sl 0 []]⟩
theorem y7 : TyOK Tryz.prog 219 Bs := TyOK.mk' (z := .slice none 0 0) (by kernel_rfl) Tryz.underlying219 rfl rfl ⟨b7, trivial⟩
def Br : TyI := ⟨.ar 2 93, 8, 128, [zn 0, zm 0, zn 0, zm 0, zn 0, zm 0, zn 0, zm 0]⟩
theorem y6 : TyOK Tryz.prog 233 Br := TyOK.mk' (z := .agg #[.bool false, .slice none 0 0, .bool false, .slice none 0 0, .bool false, .slice none 0 0, .bool false, .slice none 0 0]) (by kernel_rfl) Tryz.underlying233 ⟨rfl, rfl⟩ rfl ⟨bX, bY, bX, bY, bX, bY, bX, bY, trivial⟩
def Bq : TyI := ⟨.st [(0, 27), (1, 27)], 2, 48, [.sl 0 [], .sl 0 []]⟩
theorem y5 : TyOK Tryz.prog 235 Bq := TyOK.mk' (z := .agg #[.slice none 0 0, .slice none 0 0]) (by kernel_rfl) Tryz.underlying235 rfl rfl ⟨b7, b7, trivial⟩
def Bp : TyI := ⟨.st [(0, 27), (1, 27)], 2, 48, [.sl 0 [], .sl 0 []]⟩
theorem y4 : TyOK Tryz.prog 236 Bp := TyOK.mk' (z := .agg #[.slice none 0 0, .slice none 0 0]) (by kernel_rfl) Tryz.underlying236 rfl rfl ⟨b7, b7, trivial⟩
def Bo : TyI := ⟨.ar 8 3, 8, 64, [.v (.int .i64 0), .v (.int .i64 0), .v (.int .i64 0), .v (.int .i64 0), .v (.int .i64 0), .v (.int .i64 0), .v (.int .i64 0), .v (.int .i64 0)]⟩
theorem y0 : TyOK Tryz.prog 244 Bo := TyOK.mk' (z := .agg #[.int .i64 0, .int .i64 0, .int .i64 0, .int .i64 0, .int .i64 0, .int .i64 0, .int .i64 0, .int .i64 0]) (by kernel_rfl) Tryz.underlying244 ⟨rfl, rfl⟩ rfl ⟨z_v _ rfl, z_v _ rfl, z_v _ rfl, z_v _ rfl, z_v _ rfl, z_v _ rfl, z_v _ rfl, z_v _ rfl, trivial⟩
def Bn : TyI := ⟨.int .i64, 1, 8, [.v (.int .i64 0)]⟩
theorem yZ : TyOK Tryz.prog 249 Bn := TyOK.mk' (z := .int .i64 0) (by kernel_rfl) Tryz.underlying249 rfl rfl ⟨z_v _ rfl, trivial⟩
def Bm : TyI := ⟨.int .u64, 1, 8, [.v (.int .u64 0)]⟩
theorem yY : TyOK Tryz.prog 262 Bm := TyOK.mk' (z := .int .u64 0) (by kernel_rfl) Tryz.underlying262 rfl rfl ⟨z_v _ rfl, trivial⟩
def Bl : TyI := ⟨.pt 3, 1, 8, [.v (.pointer none)]⟩
theorem yX : TyOK Tryz.prog 266 Bl := TyOK.mk' (z := .pointer none) (by kernel_rfl) Tryz.underlying266 rfl rfl ⟨z_v _ rfl, trivial⟩
def Bk : TyI := ⟨.pt 262, 1, 8, [.v (.pointer none)]⟩
theorem yW : TyOK Tryz.prog 273 Bk := TyOK.mk' (z := .pointer none) (by kernel_rfl) Tryz.underlying273 rfl rfl ⟨z_v _ rfl, trivial⟩
def Bj : TyI := ⟨.pt 5, 1, 8, [.v (.pointer none)]⟩
theorem yV : TyOK Tryz.prog 286 Bj := TyOK.mk' (z := .pointer none) (by kernel_rfl) Tryz.underlying286 rfl rfl ⟨z_v _ rfl, trivial⟩
def Bi : TyI := ⟨.st [(0, 9)], 1, 16, [.v (.string ⟨#[]⟩)]⟩
theorem yU : TyOK Tryz.prog 291 Bi := TyOK.mk' (z := .agg #[.string ⟨#[]⟩]) (by kernel_rfl) Tryz.underlying291 rfl rfl ⟨z_v _ rfl, trivial⟩
def BI : TyI := ⟨.ot, 1, 8, [.v (.nilFunc)]⟩
theorem zp : TyOK Tryz.prog 108 BI := TyOK.mk' (z := .nilFunc) (by kernel_rfl) Tryz.underlying108 trivial rfl ⟨z_v _ rfl, trivial⟩
def BF : TyI := ⟨.ot, 1, 8, [.v (.nilFunc)]⟩
theorem zk : TyOK Tryz.prog 140 BF := TyOK.mk' (z := .nilFunc) (by kernel_rfl) Tryz.underlying140 trivial rfl ⟨z_v _ rfl, trivial⟩
def Bx : TyI := ⟨.ot, 1, 8, [.v (.nilFunc)]⟩
theorem zc : TyOK Tryz.prog 183 Bx := TyOK.mk' (z := .nilFunc) (by kernel_rfl) Tryz.underlying183 trivial rfl ⟨z_v _ rfl, trivial⟩
def Bw : TyI := ⟨.ot, 1, 8, [.v (.nilFunc)]⟩
theorem zb : TyOK Tryz.prog 187 Bw := TyOK.mk' (z := .nilFunc) (by kernel_rfl) Tryz.underlying187 trivial rfl ⟨z_v _ rfl, trivial⟩
def tt : TT := qH [(2, ty2), (3, ty3), (4, ty4), (5, ty5), (9, ty9), (12, Gc), (21, Gb), (22, Ga), (23, F9), (24, F8), (25, F7), (26, F6), (27, F5), (28, F0), (29, FZ), (32, FX), (33, FW), (36, FV), (41, FT), (42, FR), (45, FQ), (46, FP), (48, FO), (53, FM), (54, FJ), (55, FI), (56, FH), (57, FG), (58, FF), (62, FD), (63, Fz), (65, Fy), (71, Fx), (72, Fw), (74, Fv), (84, Fu), (86, Ft), (87, Fs), (93, yS), (96, Fq), (103, BL), (105, BK), (106, BJ), (114, BH), (138, BG), (141, BE), (142, BD), (161, BC), (162, BB), (163, BA), (175, Bz), (176, By), (190, Bv), (192, Bu), (206, Bt), (219, Bs), (233, Br), (235, Bq), (236, Bp), (244, Bo), (249, Bn), (262, Bm), (266, Bl), (273, Bk), (286, Bj), (291, Bi), (108, BI), (140, BF), (183, Bx), (187, Bw)]
theorem hT : dO Tryz.prog tt := AllT.ok ⟨FY, FU, FN, FE, Fp, C8, C7, C6, C5, C4, C3, CZ, CY, CX, CW, CV, CU, CT, CR, CQ, CP, CO, CN, CM, CL, CI, CH, CG, CF, CE, CC, CA, Cz, Cy, Cx, Cw, Cv, Cu, Ct, Cs, zt, zr, zq, zo, zl, zj, zi, zh, zg, zf, ze, zd, za, y9, y8, y7, y6, y5, y4, y0, yZ, yY, yX, yW, yV, yU, zp, zk, zc, zb, trivial⟩
theorem hP : Tryz.prog.follows .mixedOrders = true := by kernel_rfl
end
section
open Go Go.AM
theorem eD (ws : List Nat) (hok : okW ws) :
  aF Tryz.prog 130 [.p (.c (W ws))] (.p (.c (nt (wv ws)))) := by
 refine aL Tryz.func130 rfl rfl rfl rfl ?_
 refine iJ (t := 0) rfl rfl (fun hlen => ?_)
 refine ae hP<|ak rfl<|ag<|ao<|aA<|bq (ι := List Nat) (fun l => stL [(0, .p (.c (W l)))] []) (fun l => okW l ∧ wv l = wv ws ∧ l.length ≤ 140737488355328) (fun l => l.length) ws ⟨hok, rfl, hlen⟩ (aG ⟨.refl _, trivial⟩ trivial) ?_
 rintro l ⟨hl, hv, hn⟩
 refine ao<|ae hP<|aj rfl<|ab (aU hT rfl rfl rfl rfl)<|ab (bV rfl rfl)<|aj rfl ?_
 refine bd (t := 6) rfl (fun hg1 => ?_) (fun hg1 => ?_)
 ·have hg1_ := dT0 hg1
  refine aB hg1 (az (rfl : _ = AV.p (.c _))) ?_
  refine aB hg1 (az (rfl : _ = AV.p (.c _))) ?_
  refine aB hg1 (aU hT rfl rfl rfl rfl) ?_
  refine aB hg1 (bC rfl rfl (by first | exact iW0 _ (by omega) | rfl)) ?_
  refine aB hg1 (by first | exact fp hT rfl rfl rfl rfl rfl rfl (by omega) | exact b6 hT rfl rfl rfl rfl rfl rfl (by omega) (by first | exact gQ (by omega) | simp)) ?_
  refine aB hg1 (ce hT rfl rfl rfl (by first | rfl | exact ly (by omega))) ?_
  refine aB hg1 (bp rfl rfl) ?_
  refine ab (aN rfl hg1 (rfl : _ = AV.p (.c _)))<|ag ?_
  refine aw rfl (fun hb2 => ?_) (fun hb2 => ?_)
  ·have hb2_ := bT hb2
   refine aq<|aA<|av hP<|aj rfl<|aj rfl<|ab (aU hT rfl rfl rfl rfl)<|ab (bC rfl rfl (by first | exact iW0 _ (by omega) | rfl)) ?_
   refine ab (kb hT rfl rfl rfl rfl rfl rfl (by omega)) ?_
   refine ak rfl<|ag ?_
   have e : ((l.length : Int) - 1).toNat = l.length - 1 := by omega
   refine ⟨l.take (l.length - 1), ⟨hl.take _, ?_, ?_⟩, ?_, aG ⟨aH ?_, trivial⟩ trivial⟩
   ·rw [qN (by omega) (by rw [← e]; omega), hv]
   ·rw [List.length_take]; omega
   ·rw [List.length_take]; omega
   show AV.p (.c (W (l.take ((l.length : Int) - 1).toNat))) = _
   rw [e]
  have hb2_ := bF hb2
  refine aZ<|ae hP<|aj rfl<|ak rfl<|ag<|am<|E1 rfl rfl ?_
  have e : ((l.length : Int) - 1).toNat = l.length - 1 := by omega
  refine aH ?_
  rw [← hv, qD hl (.inr (by rw [← e]; omega))]
 have hg1_ := dF0 hg1
 iterate 7 refine a7 hg1 ?_
 refine ab (aP rfl hg1 (rfl : _ = AV.p (.c _)))<|ag<|aT rfl rfl<|aZ<|ae hP<|aj rfl<|ak rfl<|ag<|am<|E1 rfl rfl ?_
 refine aH ?_
 rw [← hv, qD hl (.inl (by omega))]
end
section
open Go Go.AM
theorem qa (a : Int) :
  aF Tryz.prog 128 [Z a] (B false) := by
 refine aL Tryz.func128 rfl rfl rfl rfl ?_
 refine ae hP<|ak rfl<|ag<|ae hP<|aj rfl<|aj rfl<|ab (bw rfl rfl)<|ak rfl<|ag<|am<|E1 rfl rfl ?_
 exact aH (by simp)
theorem p9 (a : Int) :
  aF Tryz.prog 181 [.p (.c (.v (.int .u32 a)))] (B false) := by
 refine aL Tryz.func181 rfl rfl rfl rfl ?_
 refine ae hP<|ak rfl<|ag<|ae hP<|aj rfl<|aj rfl<|ab (bw rfl rfl)<|ak rfl<|ag<|am<|E1 rfl rfl ?_
 exact aH (by simp)
theorem mU (a b : Int) :
  aF Tryz.prog 57 [.p (.c (.v (.int .i64 a))), .p (.c (.v (.int .i64 b)))] (Z (bu a b)) := by
 refine aL Tryz.func57 rfl rfl rfl rfl ?_
 refine ae hP<|ak rfl<|ag<|ae hP<|aj rfl<|ab (ah (qa _)) ?_
 refine ak rfl<|ag<|ae hP<|aj rfl<|ab (ah (qa _)) ?_
 refine ak rfl<|ag<|ao<|ae hP<|aj rfl<|ag<|aT rfl rfl<|aq<|ao<|ae hP<|aj rfl<|ag<|aT rfl rfl<|aq<|ao<|ae hP<|aj rfl<|aj rfl<|ab (bi rfl rfl)<|ag ?_
 refine aw rfl (fun hb1 => ?_) (fun hb1 => ?_)
 ·have hb1_ := dT0 hb1
  refine ae hP<|ak rfl<|ag<|am<|E1 rfl rfl ?_
  exact aH (by unfold bu; rw [if_pos (by omega)])
 have hb1_ := dF0 hb1
 refine aq<|ao<|ae hP<|aj rfl<|aj rfl<|ab (bV rfl rfl)<|ag ?_
 refine aw rfl (fun hb2 => ?_) (fun hb2 => ?_)
 ·have hb2_ := dT0 hb2
  refine ae hP<|ak rfl<|ag<|am<|E1 rfl rfl ?_
  exact aH (by unfold bu; rw [if_neg (by omega), if_pos (by omega)])
 have hb2_ := dF0 hb2
 refine aq<|ae hP<|ak rfl<|ag<|am<|E1 rfl rfl ?_
 exact aH (by unfold bu; rw [if_neg (by omega), if_neg (by omega)])
theorem tQ (a b : Int) :
  aF Tryz.prog 129 [.p (.c (.v (.int .u32 a))), .p (.c (.v (.int .u32 b)))] (Z (bu a b)) := by
 refine aL Tryz.func129 rfl rfl rfl rfl ?_
 refine ae hP<|ak rfl<|ag<|ae hP<|aj rfl<|ab (ah (p9 _)) ?_
 refine ak rfl<|ag<|ae hP<|aj rfl<|ab (ah (p9 _)) ?_
 refine ak rfl<|ag<|ao<|ae hP<|aj rfl<|ag<|aT rfl rfl<|aq<|ao<|ae hP<|aj rfl<|ag<|aT rfl rfl<|aq<|ao<|ae hP<|aj rfl<|aj rfl<|ab (bi rfl rfl)<|ag ?_
 refine aw rfl (fun hb1 => ?_) (fun hb1 => ?_)
 ·have hb1_ := dT0 hb1
  refine ae hP<|ak rfl<|ag<|am<|E1 rfl rfl ?_
  exact aH (by unfold bu; rw [if_pos (by omega)])
 have hb1_ := dF0 hb1
 refine aq<|ao<|ae hP<|aj rfl<|aj rfl<|ab (bV rfl rfl)<|ag ?_
 refine aw rfl (fun hb2 => ?_) (fun hb2 => ?_)
 ·have hb2_ := dT0 hb2
  refine ae hP<|ak rfl<|ag<|am<|E1 rfl rfl ?_
  exact aH (by unfold bu; rw [if_neg (by omega), if_pos (by omega)])
 have hb2_ := dF0 hb2
 refine aq<|ae hP<|ak rfl<|ag<|am<|E1 rfl rfl ?_
 exact aH (by unfold bu; rw [if_neg (by omega), if_neg (by omega)])
theorem GZ (a b : Int) :
  aF Tryz.prog 60 [.p (.c (.sl 2 [.v (.int .i64 a), .v (.int .i64 b)]))] (Z (if a = 0 then b else a)) := by
 refine aL Tryz.func60 rfl rfl rfl rfl ?_
 refine ae hP<|ak rfl<|ag<|ae hP<|ak rfl<|ag<|ao<|ae hP<|aj rfl<|ab (aU hT rfl rfl rfl rfl)<|aj rfl<|ag<|aA<|dU 3 ?_
 refine ae hP<|ab (bi rfl rfl)<|ag<|ao<|aX rfl (by decide) ?_
 refine aq<|ao<|aA<|ae hP<|cI ?_
 refine cC hT rfl rfl rfl ?_
 refine ak rfl<|ag<|ae hP<|aj rfl<|aj rfl<|ab (bw rfl rfl)<|ag ?_
 refine aw rfl (fun hb1 => ?_) (fun hb1 => ?_)
 ·have hb1_ := cw hb1
  refine ae hP<|aj rfl<|ak rfl<|ag<|am<|E1 rfl rfl ?_
  exact aH (by rw [if_neg hb1_])
 have hb1_ := b9 hb1
 refine aq<|av hP<|bH rfl rfl ?_
 refine aj rfl<|ag<|ae hP<|ab (bi rfl rfl)<|ag<|ao<|aX rfl (by decide) ?_
 refine aq<|ao<|aA<|ae hP<|cI ?_
 refine cC hT rfl rfl rfl ?_
 refine ak rfl<|ag<|ae hP<|aj rfl<|aj rfl<|ab (bw rfl rfl)<|ag ?_
 refine aw rfl (fun hb2 => ?_) (fun hb2 => ?_)
 ·have hb2_ := cw hb2
  refine ae hP<|aj rfl<|ak rfl<|ag<|am<|E1 rfl rfl ?_
  exact aH (by rw [if_pos hb1_])
 have hb2_ := b9 hb2
 refine aq<|av hP<|bH rfl rfl ?_
 refine aj rfl<|ag<|ae hP<|ab (bi rfl rfl)<|ag<|ao<|aT rfl (by decide) ?_
 refine aZ<|ae hP<|aj rfl<|ak rfl<|ag<|am<|E1 rfl rfl ?_
 exact aH (by rw [if_pos hb1_, hb2_])
theorem Ci (x y c : Nat) (hx : x < 4294967296) (hy : y < 4294967296) (hc : c < 4294967296) :
  aF Tryz.prog 169 [.p (.c (w32 x)), .p (.c (w32 y)), .p (.c (w32 c))] (.t [.c (w32 ((x + y + c) % 4294967296)), .c (w32 ((x + y + c) / 4294967296))]) := by
 refine aL Tryz.func169 rfl rfl rfl rfl ?_
 refine ae hP<|ak rfl<|ak rfl<|ag<|ae hP<|aj rfl<|ab (a8 hT rfl rfl rfl rfl (by first | exact IntWalk.u64_in _ (by omega) | rfl)) ?_
 refine aj rfl<|ab (a8 hT rfl rfl rfl rfl (by first | exact IntWalk.u64_in _ (by omega) | rfl)) ?_
 refine ab (bJ rfl rfl (c := ((x + y : Nat) : Int)) (by rw [IntWalk.u64_in _ (by omega)]; omega)) ?_
 refine aj rfl<|ab (a8 hT rfl rfl rfl rfl (by first | exact IntWalk.u64_in _ (by omega) | rfl)) ?_
 refine ab (bJ rfl rfl (c := ((x + y + c : Nat) : Int)) (by rw [IntWalk.u64_in _ (by omega)]; omega)) ?_
 refine ak rfl<|ag<|ae hP<|aj rfl<|ab (a8 hT rfl rfl rfl rfl (c := (((x + y + c) % 4294967296 : Nat) : Int)) (by rw [IntKind.wrap_u32]; omega)) ?_
 refine ak rfl<|ag<|ae hP<|aj rfl<|ab (c8 (j := 32) rfl rfl (by first | decide | omega)) ?_
 refine ab (a8 hT rfl rfl rfl rfl (c := (((x + y + c) / 4294967296 : Nat) : Int)) (by rw [IntWalk.u32_in _ (by omega)])) ?_
 refine ak rfl<|ag<|am<|E11 rfl rfl rfl ?_
 exact .refl _
theorem vp (x y c : Nat) (hx : x < 4294967296) (hy : y < 4294967296) (hc : c < 2) :
  aF Tryz.prog 170 [.p (.c (w32 x)), .p (.c (w32 y)), .p (.c (w32 c))] (.t [.c (w32 ((x + 8589934592 - y - c) % 4294967296)), .c (w32 (if x < y + c then 1 else 0))]) := by
 have hxy : (x ^^^ y) < 4294967296 := Nat.xor_lt_two_pow (n := 32) hx hy
 have hd : (x + 8589934592 - y - c) % 4294967296 < 4294967296 := Nat.mod_lt _ (by omega)
 have h1 : ((4294967295 - x) &&& y) < 4294967296 := Nat.lt_of_le_of_lt Nat.and_le_right hy
 have h2 : ((4294967295 - (x ^^^ y)) &&& ((x + 8589934592 - y - c) % 4294967296)) < 4294967296 := Nat.lt_of_le_of_lt Nat.and_le_right hd
 refine aL Tryz.func170 rfl rfl rfl rfl ?_
 refine ae hP<|ak rfl<|ak rfl<|ag<|ae hP<|aj rfl<|aj rfl<|ab (bC rfl rfl rfl)<|aj rfl<|ab (bC rfl rfl (c := (((x + 8589934592 - y - c) % 4294967296 : Nat) : Int)) (by simp only [IntKind.wrap_u32]; omega)) ?_
 refine ak rfl<|ag<|ae hP<|aj rfl<|ab (pT rfl (by first | assumption | omega)) ?_
 refine aj rfl<|ab (oS rfl rfl rfl (by first | exact gL (by omega) | exact fG (by omega)) (by first | exact gL (by omega) | exact fG (by omega))) ?_
 refine aj rfl<|aj rfl<|ab (DY rfl rfl rfl (by first | exact gL (by omega) | exact fG (by omega)) (by first | exact gL (by omega) | exact fG (by omega))) ?_
 refine ab (pT rfl (by first | assumption | omega)) ?_
 refine aj rfl<|ab (oS rfl rfl rfl (by first | exact gL (by omega) | exact fG (by omega)) (by first | exact gL (by omega) | exact fG (by omega))) ?_
 refine ab (lL rfl rfl rfl (by first | exact gL (by omega) | exact fG (by omega)) (by first | exact gL (by omega) | exact fG (by omega))) ?_
 refine ab (c8 (j := 31) rfl rfl (by first | decide | omega)) ?_
 refine ak rfl<|ag<|am<|E11 rfl rfl rfl ?_
 exact aH (by rw [wH x y c hx hy hc]; rfl)
theorem Ej : ∀ m, m < 256 → (⟨#[0, 1, 2, 2, 3, 3, 3, 3, 4, 4, 4, 4, 4, 4, 4, 4, 5, 5, 5, 5, 5, 5, 5, 5, 5, 5, 5, 5, 5, 5, 5, 5, 6, 6, 6, 6, 6, 6, 6, 6, 6, 6, 6, 6, 6, 6, 6, 6, 6, 6, 6, 6, 6, 6, 6, 6, 6, 6, 6, 6, 6, 6, 6, 6, 7, 7, 7, 7, 7, 7, 7, 7, 7, 7, 7, 7, 7, 7, 7, 7, 7, 7, 7, 7, 7, 7, 7, 7, 7, 7, 7, 7, 7, 7, 7, 7, 7, 7, 7, 7, 7, 7, 7, 7, 7, 7, 7, 7, 7, 7, 7, 7, 7, 7, 7, 7, 7, 7, 7, 7, 7, 7, 7, 7, 7, 7, 7, 7, 8, 8, 8, 8, 8, 8, 8, 8, 8, 8, 8, 8, 8, 8, 8, 8, 8, 8, 8, 8, 8, 8, 8, 8, 8, 8, 8, 8, 8, 8, 8, 8, 8, 8, 8, 8, 8, 8, 8, 8, 8, 8, 8, 8, 8, 8, 8, 8, 8, 8, 8, 8, 8, 8, 8, 8, 8, 8, 8, 8, 8, 8, 8, 8, 8, 8, 8, 8, 8, 8, 8, 8, 8, 8, 8, 8, 8, 8, 8, 8, 8, 8, 8, 8, 8, 8, 8, 8, 8, 8, 8, 8, 8, 8, 8, 8, 8, 8, 8, 8, 8, 8, 8, 8, 8, 8, 8, 8, 8, 8, 8, 8, 8, 8, 8, 8, 8, 8, 8, 8, 8, 8, 8, 8, 8, 8, 8, 8]⟩ : ByteArray)[m]? = some (UInt8.ofNat (a6 m)) := by decide +kernel
theorem JX : ∀ m, m < 256 → (UInt8.ofNat (a6 m)).toNat = a6 m := by decide +kernel
theorem my {dst : Option Nat} {ty : TypeId} {pos : String} {af : Array Edge} {gd : Option (Nat × Bool)} {d : Nat} {ρ : Operand → AV} {own : Own} {x y : Operand} {m : Nat}
  (hx : ρ x = .p (.c (.v (.string ⟨#[0, 1, 2, 2, 3, 3, 3, 3, 4, 4, 4, 4, 4, 4, 4, 4, 5, 5, 5, 5, 5, 5, 5, 5, 5, 5, 5, 5, 5, 5, 5, 5, 6, 6, 6, 6, 6, 6, 6, 6, 6, 6, 6, 6, 6, 6, 6, 6, 6, 6, 6, 6, 6, 6, 6, 6, 6, 6, 6, 6, 6, 6, 6, 6, 7, 7, 7, 7, 7, 7, 7, 7, 7, 7, 7, 7, 7, 7, 7, 7, 7, 7, 7, 7, 7, 7, 7, 7, 7, 7, 7, 7, 7, 7, 7, 7, 7, 7, 7, 7, 7, 7, 7, 7, 7, 7, 7, 7, 7, 7, 7, 7, 7, 7, 7, 7, 7, 7, 7, 7, 7, 7, 7, 7, 7, 7, 7, 7, 8, 8, 8, 8, 8, 8, 8, 8, 8, 8, 8, 8, 8, 8, 8, 8, 8, 8, 8, 8, 8, 8, 8, 8, 8, 8, 8, 8, 8, 8, 8, 8, 8, 8, 8, 8, 8, 8, 8, 8, 8, 8, 8, 8, 8, 8, 8, 8, 8, 8, 8, 8, 8, 8, 8, 8, 8, 8, 8, 8, 8, 8, 8, 8, 8, 8, 8, 8, 8, 8, 8, 8, 8, 8, 8, 8, 8, 8, 8, 8, 8, 8, 8, 8, 8, 8, 8, 8, 8, 8, 8, 8, 8, 8, 8, 8, 8, 8, 8, 8, 8, 8, 8, 8, 8, 8, 8, 8, 8, 8, 8, 8, 8, 8, 8, 8, 8, 8, 8, 8, 8, 8, 8, 8, 8, 8, 8, 8]⟩)))) (hy : ρ y = .p (.c (.v (.int .u8 m)))) (hm : m < 256) : Eff Tryz.prog ⟨dst, .index 9 x y, ty, pos, af, gd⟩ d ρ own (.p (.c (.v (.int .u8 (a6 m : Nat))))) [] none [] := by
 have h := r5 (P := Tryz.prog) (dst := dst) (ty := ty) (pos := pos) (af := af) (gd := gd) (d := d) (own := own) hT (T := 9) rfl rfl hx hy (by omega) (by rw [Int.toNat_natCast]; exact Ej m hm)
 rw [JX m hm] at h
 exact h
theorem B3 (x : Nat) (hx : x < 4294967296) :
  aF Tryz.prog 233 [.p (.c (w32 x))] (Z (a6 x)) := by
 refine aL Tryz.func233 rfl rfl rfl rfl ?_
 refine ae hP<|ak rfl<|ag<|ao<|ae hP<|aj rfl<|ab (dc rfl rfl)<|ag ?_
 refine aw rfl (fun hb1 => ?_) (fun hb1 => ?_)
 ·have hb1_ := dT0 hb1
  refine ae hP<|aj rfl<|ab (c8 (j := 16) rfl rfl (by first | decide | omega)) ?_
  refine ak rfl<|ag<|av hP<|ak rfl<|ag<|ao<|ae hP<|aj rfl<|ab (dc rfl rfl)<|ag ?_
  refine aw rfl (fun hb2 => ?_) (fun hb2 => ?_)
  ·have hb2_ := dT0 hb2
   refine ae hP<|aj rfl<|ab (c8 (j := 8) rfl rfl (by first | decide | omega)) ?_
   refine ak rfl<|ag<|av hP<|aj rfl<|bH rfl rfl ?_
   refine ak rfl<|ag<|ae hP<|aj rfl<|aj rfl<|ab (a8 hT rfl rfl rfl rfl (IntWalk.u8_in _ (by omega))) ?_
   refine ab (my rfl rfl (by omega)) ?_
   refine ab (a8 hT rfl rfl rfl rfl (iW0 _ (by first | (have h8 := bN (m := x / 2 ^ 16 / 2 ^ 8) (by omega); omega) | (have h8 := bN (m := x / 2 ^ 16) (by omega); omega) | (have h8 := bN (m := x / 2 ^ 8) (by omega); omega) | (have h8 := bN (m := x) (by omega); omega)))) ?_
   refine ab (bJ rfl rfl (iW0 _ (by first | (have h8 := bN (m := x / 2 ^ 16 / 2 ^ 8) (by omega); omega) | (have h8 := bN (m := x / 2 ^ 16) (by omega); omega) | (have h8 := bN (m := x / 2 ^ 8) (by omega); omega) | (have h8 := bN (m := x) (by omega); omega)))) ?_
   refine ak rfl<|ag<|am<|E1 rfl rfl ?_
   have e : a6 x = 16 + (8 + a6 (x / 2 ^ 16 / 2 ^ 8)) := by rw [iI (k := 16) (by omega), iI (n := x / 2 ^ 16) (k := 8) (by omega)]
   exact aO (by omega)
  have hb2_ := dF0 hb2
  refine aq<|ae hP<|aj rfl<|aj rfl<|ab (a8 hT rfl rfl rfl rfl (IntWalk.u8_in _ (by omega))) ?_
  refine ab (my rfl rfl (by omega)) ?_
  refine ab (a8 hT rfl rfl rfl rfl (iW0 _ (by first | (have h8 := bN (m := x / 2 ^ 16 / 2 ^ 8) (by omega); omega) | (have h8 := bN (m := x / 2 ^ 16) (by omega); omega) | (have h8 := bN (m := x / 2 ^ 8) (by omega); omega) | (have h8 := bN (m := x) (by omega); omega)))) ?_
  refine ab (bJ rfl rfl (iW0 _ (by first | (have h8 := bN (m := x / 2 ^ 16 / 2 ^ 8) (by omega); omega) | (have h8 := bN (m := x / 2 ^ 16) (by omega); omega) | (have h8 := bN (m := x / 2 ^ 8) (by omega); omega) | (have h8 := bN (m := x) (by omega); omega)))) ?_
  refine ak rfl<|ag<|am<|E1 rfl rfl ?_
  have e : a6 x = 16 + a6 (x / 2 ^ 16) := by rw [iI (k := 16) (by omega)]
  exact aO (by omega)
 have hb1_ := dF0 hb1
 refine aq<|ao<|ae hP<|aj rfl<|ab (dc rfl rfl)<|ag ?_
 refine aw rfl (fun hb3 => ?_) (fun hb3 => ?_)
 ·have hb3_ := dT0 hb3
  refine ae hP<|aj rfl<|ab (c8 (j := 8) rfl rfl (by first | decide | omega)) ?_
  refine ak rfl<|ag<|av hP<|aj rfl<|bH rfl rfl ?_
  refine ak rfl<|ag<|ae hP<|aj rfl<|aj rfl<|ab (a8 hT rfl rfl rfl rfl (IntWalk.u8_in _ (by omega))) ?_
  refine ab (my rfl rfl (by omega)) ?_
  refine ab (a8 hT rfl rfl rfl rfl (iW0 _ (by first | (have h8 := bN (m := x / 2 ^ 16 / 2 ^ 8) (by omega); omega) | (have h8 := bN (m := x / 2 ^ 16) (by omega); omega) | (have h8 := bN (m := x / 2 ^ 8) (by omega); omega) | (have h8 := bN (m := x) (by omega); omega)))) ?_
  refine ab (bJ rfl rfl (iW0 _ (by first | (have h8 := bN (m := x / 2 ^ 16 / 2 ^ 8) (by omega); omega) | (have h8 := bN (m := x / 2 ^ 16) (by omega); omega) | (have h8 := bN (m := x / 2 ^ 8) (by omega); omega) | (have h8 := bN (m := x) (by omega); omega)))) ?_
  refine ak rfl<|ag<|am<|E1 rfl rfl ?_
  have e : a6 x = 8 + a6 (x / 2 ^ 8) := by rw [iI (k := 8) (by omega)]
  exact aO (by omega)
 have hb3_ := dF0 hb3
 refine aq<|ae hP<|aj rfl<|aj rfl<|ab (a8 hT rfl rfl rfl rfl (IntWalk.u8_in _ (by omega))) ?_
 refine ab (my rfl rfl (by omega)) ?_
 refine ab (a8 hT rfl rfl rfl rfl (iW0 _ (by first | (have h8 := bN (m := x / 2 ^ 16 / 2 ^ 8) (by omega); omega) | (have h8 := bN (m := x / 2 ^ 16) (by omega); omega) | (have h8 := bN (m := x / 2 ^ 8) (by omega); omega) | (have h8 := bN (m := x) (by omega); omega)))) ?_
 refine ab (bJ rfl rfl (iW0 _ (by first | (have h8 := bN (m := x / 2 ^ 16 / 2 ^ 8) (by omega); omega) | (have h8 := bN (m := x / 2 ^ 16) (by omega); omega) | (have h8 := bN (m := x / 2 ^ 8) (by omega); omega) | (have h8 := bN (m := x) (by omega); omega)))) ?_
 refine ak rfl<|ag<|am<|E1 rfl rfl ?_
 exact aO (by omega)
theorem Ky (x : Nat) (hx : x < 4294967296) :
  aF Tryz.prog 206 [.p (.c (w32 x))] (Z (32 - (a6 x : Nat))) := by
 have hb := fO (k := 32) hx
 refine aL Tryz.func206 rfl rfl rfl rfl ?_
 refine ae hP<|ak rfl<|ag<|ae hP<|aj rfl<|ab (ah (B3 _ (by assumption))) ?_
 refine ab (bC rfl rfl (by first | exact iW0 _ (by omega) | rfl)) ?_
 refine ak rfl<|ag<|am<|E1 rfl rfl ?_
 exact .refl _
theorem JP (hi lo y : Nat) (hy : y < 4294967296) (hh : hi < y) (hl : lo < 4294967296) :
  aF Tryz.prog 238 [.p (.c (w32 hi)), .p (.c (w32 lo)), .p (.c (w32 y))] (.t [.c (w32 ((hi * 4294967296 + lo) / y)), .c (w32 ((hi * 4294967296 + lo) % y))]) := by
 have hq : (hi * 4294967296 + lo) / y < 4294967296 := (Nat.div_lt_iff_lt_mul (by omega)).2 (by have : (hi + 1) * 4294967296 ≤ y * 4294967296 := Nat.mul_le_mul_right _ hh; omega)
 have hr : (hi * 4294967296 + lo) % y < y := Nat.mod_lt _ (by omega)
 refine aL Tryz.func238 rfl rfl rfl rfl ?_
 refine ae hP<|ak rfl<|ak rfl<|ag<|ao<|ae hP<|aj rfl<|ab (bw rfl rfl)<|aj rfl<|bn (aS rfl rfl (bne_iff_ne.2 (by omega))) (az (rfl : _ = AV.p (.c _))) ?_
 refine bn (aS rfl rfl (bne_iff_ne.2 (by omega))) (az (rfl : _ = AV.p (.c _))) ?_
 refine bn (aS rfl rfl (bne_iff_ne.2 (by omega))) (fU rfl rfl) ?_
 refine ab (aN rfl (bne_iff_ne.2 (by omega)) (rfl : _ = AV.p (.c _))) ?_
 refine ag<|aT rfl (decide_eq_false (by omega)) ?_
 refine aq<|ae hP<|aj rfl<|ab (a8 hT rfl rfl rfl rfl (IntWalk.u64_in _ (by omega))) ?_
 refine ab (hZ (j := 32) rfl rfl (by first | decide | omega) rfl) ?_
 refine aj rfl<|ab (a8 hT rfl rfl rfl rfl (IntWalk.u64_in _ (by omega))) ?_
 refine ab (jW rfl rfl (l5 (by omega) hl)) ?_
 refine ak rfl<|ag<|ae hP<|aj rfl<|aj rfl<|ab (a8 hT rfl rfl rfl rfl (IntWalk.u64_in _ (by omega))) ?_
 refine ab (dl rfl rfl (by omega) (c := (((hi * 4294967296 + lo) / y : Nat) : Int)) (by rw [Int.tdiv_eq_ediv_of_nonneg (by omega), ← Int.natCast_ediv, cU (by omega)])) ?_
 refine ab (a8 hT rfl rfl rfl rfl (j0 (by omega))) ?_
 refine aj rfl<|aj rfl<|ab (a8 hT rfl rfl rfl rfl (IntWalk.u64_in _ (by omega))) ?_
 refine ab (b5 rfl rfl (by omega) (c := (((hi * 4294967296 + lo) % y : Nat) : Int)) (by rw [Int.tmod_eq_emod_of_nonneg (by omega), ← Int.natCast_emod])) ?_
 refine ab (a8 hT rfl rfl rfl rfl (j0 (by omega))) ?_
 refine ak rfl<|ak rfl<|ag<|am<|E11 rfl rfl rfl ?_
 exact .refl _
end
section
open Go Go.AM
theorem oV (m n : Nat) :
  aF Tryz.prog 59 [.p (.c (nt m)), .p (.c (nt n))] (Z (bu m n)) := by
 refine aL Tryz.func59 rfl rfl rfl rfl ?_
 refine iJ (t := 0) rfl rfl (fun hlen => ?_)
 refine iJ (t := 1) rfl rfl (fun hlen2 => ?_)
 refine ae hP<|ak rfl<|ag<|ao<|ae hP<|aj rfl<|ab (aU hT rfl rfl rfl rfl)<|aj rfl<|ab (aU hT rfl rfl rfl rfl)<|ab (ah (mU _ _)) ?_
 refine ak rfl<|ag<|ae hP<|aj rfl<|ab (bw rfl rfl)<|ag ?_
 refine aw rfl (fun hb1 => ?_) (fun hb1 => ?_)
 ·have hb1_ := cw hb1
  refine ae hP<|aj rfl<|ak rfl<|ag<|am<|E1 rfl rfl ?_
  exact aO (ES hb1_)
 have hb1_ := b9 hb1
 refine aq<|ao<|ae hP<|aj rfl<|ab (aU hT rfl rfl rfl rfl)<|ab (bC rfl rfl (by first | exact iW0 _ (by omega) | rfl)) ?_
 refine ak rfl<|ag<|aA ?_
 have hll : (wl m).length = (wl n).length := by have := jw hb1_; omega
 refine bq (ι := Nat) (fun k => stL [(0, .p (.c (nt m))), (1, .p (.c (nt n))), (6, Z ((k : Int) - 1))] []) (fun k => k ≤ (wl m).length ∧ (wl m).drop k = (wl n).drop k) (fun k => k) (wl m).length ⟨Nat.le_refl _, by rw [List.drop_length, hll, List.drop_length]⟩ (aG ⟨.refl _, .refl _, .refl _, trivial⟩ trivial) ?_
 rintro k ⟨hk, he⟩
 refine ao<|ae hP<|aj rfl<|ab (dc rfl rfl)<|ag ?_
 refine aw rfl (fun hb2 => ?_) (fun hb2 => ?_)
 ·have hb2_ := dT0 hb2
  refine aq<|ao<|aA<|ae hP<|aj rfl<|aj rfl<|ab (b6 hT rfl rfl rfl rfl rfl rfl (l := (wl m).length) (xs := (wl m).map w32) (by omega) (gQ (by omega))) ?_
  refine cC hT rfl rfl rfl ?_
  refine aj rfl<|aj rfl<|ab (b6 hT rfl rfl rfl rfl rfl rfl (l := (wl n).length) (xs := (wl n).map w32) (by omega) (gQ (by omega))) ?_
  refine cC hT rfl rfl rfl ?_
  refine ab (ah (tQ _ _)) ?_
  refine ak rfl<|ag<|ae hP<|aj rfl<|ab (bw rfl rfl)<|ag ?_
  refine aw rfl (fun hb3 => ?_) (fun hb3 => ?_)
  ·have hb3_ := cw hb3
   refine ae hP<|aj rfl<|ak rfl<|ag<|am<|E1 rfl rfl ?_
   have hkk : ((k : Int) - 1).toNat = k - 1 := by omega
   rw [hkk] at hb3_ ⊢
   have h2 := tg (bI m) (bI n) hll (k := k - 1) (by omega) (by rw [show k - 1 + 1 = k by omega]; exact he) hb3_
   rw [bE, bE] at h2
   exact aO h2
  have hb3_ := b9 hb3
  refine aq<|av hP<|aj rfl<|ab (bC rfl rfl (by first | exact iW0 _ (by omega) | rfl)) ?_
  refine ak rfl<|ag ?_
  have hkk : ((k : Int) - 1).toNat = k - 1 := by omega
  have he2 := jw hb3_
  rw [hkk] at he2
  refine ⟨k - 1, ⟨by omega, ?_⟩, by omega, aG ⟨.refl _, .refl _, aO (by omega), trivial⟩ trivial⟩
  have e1 := dN (ws := wl m) (k := k - 1) (by omega)
  have e2 := dN (ws := wl n) (k := k - 1) (by omega)
  rw [e1, e2, show k - 1 + 1 = k by omega, he]
  congr 1
  omega
 have hb2_ := dF0 hb2
 refine aZ<|ae hP<|ak rfl<|ag<|am<|E1 rfl rfl ?_
 have hk0 : k = 0 := by omega
 rw [hk0, List.drop_zero, List.drop_zero] at he
 have : m = n := by rw [← bE m, he, bE]
 exact aO (by rw [this, gB])
theorem D7 (a b : List Nat) (ha : okW a) (hb : okW b) (hla : a.length ≤ 1099511627776) (hlb : b.length ≤ 1099511627776) :
  aF Tryz.prog 106 [.p (.c (W a)), .p (.c (W b))] (.p (.c (nt (wv a + wv b)))) := by
 refine aL Tryz.func106 rfl rfl rfl rfl ?_
 refine ae hP<|ak rfl<|ag<|cz (ι := List Nat × List Nat) (fun ⟨p, q⟩ => stL [(0, .p (.c (W p))), (1, .p (.c (W q)))] []) (fun ⟨p, q⟩ => okW p ∧ okW q ∧ q.length ≤ p.length ∧ p.length ≤ 1099511627776 ∧ wv p + wv q = wv a + wv b) ?_ ?_
 ·refine ae hP<|aj rfl<|ab (aU hT rfl rfl rfl rfl)<|aj rfl<|ab (aU hT rfl rfl rfl rfl)<|ab (bi rfl rfl)<|ag ?_
  refine aw rfl (fun hb1 => ?_) (fun hb1 => ?_)
  ·have hb1_ := dT0 hb1
   refine av hP<|aj rfl<|aj rfl<|ak rfl<|ak rfl<|ag ?_
   exact ⟨(b, a), ⟨hb, ha, by omega, hlb, Nat.add_comm _ _⟩, aG ⟨.refl _, .refl _, trivial⟩ trivial⟩
  have hb1_ := dF0 hb1
  refine aq ?_
  exact ⟨(a, b), ⟨ha, hb, by omega, hla, rfl⟩, aG ⟨.refl _, .refl _, trivial⟩ trivial⟩
 clear hla hlb
 generalize hS : wv a + wv b = S
 clear ha hb
 rintro ⟨a, b⟩ ⟨ha, hb, hl, hla, hs⟩
 refine ae hP<|aj rfl<|ab (aU hT rfl rfl rfl rfl)<|bH rfl rfl ?_
 refine an ai (eh hT rfl rfl rfl rfl rfl rfl rfl rfl (by omega)) ?_
 refine ab (bl (rfl : _ = AV.vec _))<|ag<|ae hP<|ab (az (rfl : _ = AV.vec _))<|aj rfl<|RK.mut ai (lN hT rfl rfl rfl rfl rfl rfl rfl (by simp) (ws' := a ++ [0]) (by rw [zE])) ?_
 refine ag<|ae hP<|ak rfl<|ag<|ao<|ae hP<|ab (az (rfl : _ = AV.vec _))<|ab (eC hT rfl rfl rfl rfl)<|aj rfl<|ag<|aA ?_
 have hA : okW (a ++ [0]) := ha.snoc (by omega)
 refine bq (ι := List Nat × Nat) (fun ⟨l, c⟩ => stL [(1, .p (.c (W b))), (5, .vec 19), (6, .p (.c (w32 c))), (24, Z (((a ++ [0]).length : Nat) : Int)), (25, Z ((l.length : Nat) : Int))] [(19, WB 105 (l ++ (a ++ [0]).drop l.length))]) (fun ⟨l, c⟩ => l.length ≤ (a ++ [0]).length ∧ okW l ∧ c < 2 ∧ wv l + 4294967296 ^ l.length * c = wv ((a ++ [0]).take l.length) + wv (b.take l.length)) (fun ⟨l, _⟩ => (a ++ [0]).length - l.length) ([], 0) ⟨Nat.zero_le _, okW.nil, by omega, by simp [wv]⟩ (aG ⟨.refl _, .refl _, .refl _, .refl _, .refl _, trivial⟩ ⟨rfl, trivial⟩) ?_
 rintro ⟨l, c⟩ ⟨hll, hol, hc, hv⟩
 have hmid := oX hll
 have hAlen : (a ++ [0]).length = a.length + 1 := by simp
 refine ae hP<|ab (bi rfl rfl)<|ag<|ao ?_
 refine aw rfl (fun hb2 => ?_) (fun hb2 => ?_)
 ·have hb2_ := dT0 hb2
  have hlt : l.length < (a ++ [0]).length := by omega
  refine aq<|ao<|aA<|ae hP<|aj rfl<|ak rfl<|ag<|ae hP<|ak rfl<|ag<|cz (ι := Unit) (fun _ => stL [(1, .p (.c (W b))), (5, .vec 19), (6, .p (.c (w32 c))), (24, Z (((a ++ [0]).length : Nat) : Int)), (25, Z ((l.length : Nat) : Int)), (7, Z ((l.length : Nat) : Int)), (8, .p (.c (w32 (b.getD l.length 0))))] [(19, WB 105 (l ++ (a ++ [0]).drop l.length))]) (fun _ => True) ?_ ?_
  ·refine ae hP<|aj rfl<|aj rfl<|ab (aU hT rfl rfl rfl rfl)<|ab (bi rfl rfl)<|ag ?_
   refine aw rfl (fun hb3 => ?_) (fun hb3 => ?_)
   ·have hb3_ := dT0 hb3
    refine av hP<|aj rfl<|aj rfl<|cI ?_
    refine cC hT rfl rfl rfl ?_
    refine ak rfl<|ag ?_
    exact ⟨(), trivial, aG ⟨.refl _, .refl _, .refl _, .refl _, .refl _, .refl _, .refl _, trivial⟩ ⟨rfl, trivial⟩⟩
   have hb3_ := dF0 hb3
   refine aq ?_
   exact ⟨(), trivial, aG ⟨.refl _, .refl _, .refl _, .refl _, .refl _, .refl _, aH (by rw [o7 (by omega)]; rfl), trivial⟩ ⟨rfl, trivial⟩⟩
  rintro _ -
  refine av hP<|ab (az (rfl : _ = AV.vec _))<|aj rfl<|ab (az (rfl : _ = AV.vec _))<|aj rfl<|c7 ?_
  refine ab (dj hT rfl rfl rfl rfl (by first | omega | (simp; omega)) (oY hlt)) ?_
  refine aj rfl<|aj rfl<|ab (ah (Ci _ _ _ (hA.getD _) (hb.getD _) (by omega))) ?_
  refine ab (az (rfl : _ = AV.t _))<|ab (aC rfl (v := .c _) rfl)<|ab (aC rfl (v := .c _) rfl)<|c7 ?_
  refine de ai (ci hT rfl rfl rfl rfl rfl (by first | omega | (simp; omega)) (oW hlt)) ?_
  refine ak rfl<|ag<|av hP<|bH rfl rfl ?_
  refine aj rfl<|ag ?_
  have hs1 := hA.getD l.length
  have hs2 := hb.getD l.length
  have hr := yz (A := (a ++ [0])) (b := b) (_r := []) hlt rfl hv _ rfl
  refine ⟨(l ++ [((a ++ [0]).getD l.length 0 + b.getD l.length 0 + c) % 4294967296], ((a ++ [0]).getD l.length 0 + b.getD l.length 0 + c) / 4294967296), ⟨by simp; omega, hol.snoc (Nat.mod_lt _ (by omega)), by omega, by simpa using hr⟩, by simp; omega, aG ⟨.refl _, .refl _, .refl _, .refl _, aO (by simp), trivial⟩ ⟨rfl, trivial⟩⟩
 have hb2_ := dF0 hb2
 have hge : l.length = (a ++ [0]).length := by omega
 have hfin := hol.app (hA.drop l.length)
 have hval := yC hge hl ha hb hol hv
 refine aZ<|cH (t := 5) rfl rfl ?_
 refine ae hP<|aj rfl<|ab (ah (eD _ hfin)) ?_
 refine ak rfl<|ag<|am<|E1 rfl rfl ?_
 exact aH (by rw [hval, hs])
end
section
open Go Go.AM
theorem uO (a b : List Nat) (ha : okW a) (hb : okW b) (hla : a.length ≤ 1099511627776) (hab : b.length ≤ a.length) (hle : wv b ≤ wv a) :
  aF Tryz.prog 107 [.p (.c (W a)), .p (.c (W b))] (.p (.c (nt (wv a - wv b)))) := by
 refine aL Tryz.func107 rfl rfl rfl rfl ?_
 have h0l : (0 : Nat) ≤ a.length := Nat.zero_le _
 refine ae hP<|ak rfl<|ag<|ae hP<|aj rfl<|ab (aU hT rfl rfl rfl rfl)<|an ai (eh hT rfl rfl rfl rfl rfl rfl rfl rfl (by omega)) ?_
 refine ab (bl (rfl : _ = AV.vec _))<|ag<|ae hP<|ab (az (rfl : _ = AV.vec _))<|aj rfl<|RK.mut ai (lN hT rfl rfl rfl rfl rfl rfl rfl (by simp) (ws' := a) (by rw [zG, List.append_nil])) ?_
 refine ag<|ae hP<|ak rfl<|ag<|ao<|ae hP<|ab (az (rfl : _ = AV.vec _))<|ab (eC hT rfl rfl rfl rfl)<|aj rfl<|ag<|aA<|bq (ι := List Nat × Nat) (fun ⟨l, c⟩ => stL [(1, .p (.c (W b))), (5, .vec 11), (6, .p (.c (w32 c))), (16, Z ((a.length : Nat) : Int)), (17, Z ((l.length : Nat) : Int))] [(11, WB 105 (l ++ a.drop l.length))]) (fun ⟨l, c⟩ => l.length ≤ a.length ∧ okW l ∧ c < 2 ∧ wv l + wv (b.take l.length) = wv (a.take l.length) + 4294967296 ^ l.length * c) (fun ⟨l, _⟩ => a.length - l.length) ([], 0) ⟨Nat.zero_le _, okW.nil, by omega, by simp [wv]⟩ (aG ⟨.refl _, .refl _, .refl _, .refl _, .refl _, trivial⟩ ⟨rfl, trivial⟩) ?_
 rintro ⟨l, c⟩ ⟨hll, hol, hc, hv⟩
 have hmid := oX hll
 refine ae hP<|ab (bi rfl rfl)<|ag<|ao ?_
 refine aw rfl (fun hb1 => ?_) (fun hb1 => ?_)
 ·have hb1_ := dT0 hb1
  have hlt : l.length < a.length := by omega
  refine aq<|ao<|aA<|ae hP<|aj rfl<|ak rfl<|ag<|ae hP<|ak rfl<|ag<|cz (ι := Unit) (fun _ => stL [(1, .p (.c (W b))), (5, .vec 11), (6, .p (.c (w32 c))), (16, Z ((a.length : Nat) : Int)), (17, Z ((l.length : Nat) : Int)), (7, Z ((l.length : Nat) : Int)), (8, .p (.c (w32 (b.getD l.length 0))))] [(11, WB 105 (l ++ a.drop l.length))]) (fun _ => True) ?_ ?_
  ·refine ae hP<|aj rfl<|aj rfl<|ab (aU hT rfl rfl rfl rfl)<|ab (bi rfl rfl)<|ag ?_
   refine aw rfl (fun hb2 => ?_) (fun hb2 => ?_)
   ·have hb2_ := dT0 hb2
    refine av hP<|aj rfl<|aj rfl<|cI ?_
    refine cC hT rfl rfl rfl ?_
    refine ak rfl<|ag ?_
    exact ⟨(), trivial, aG ⟨.refl _, .refl _, .refl _, .refl _, .refl _, .refl _, .refl _, trivial⟩ ⟨rfl, trivial⟩⟩
   have hb2_ := dF0 hb2
   refine aq ?_
   exact ⟨(), trivial, aG ⟨.refl _, .refl _, .refl _, .refl _, .refl _, .refl _, aH (by rw [o7 (by omega)]; rfl), trivial⟩ ⟨rfl, trivial⟩⟩
  rintro _ -
  refine av hP<|ab (az (rfl : _ = AV.vec _))<|aj rfl<|ab (az (rfl : _ = AV.vec _))<|aj rfl<|c7 ?_
  refine ab (dj hT rfl rfl rfl rfl (by first | omega | (simp; omega)) (oY hlt)) ?_
  refine aj rfl<|aj rfl<|ab (ah (vp _ _ _ (ha.getD _) (hb.getD _) hc)) ?_
  refine ab (az (rfl : _ = AV.t _))<|ab (aC rfl (v := .c _) rfl)<|ab (aC rfl (v := .c _) rfl)<|c7 ?_
  refine de ai (ci hT rfl rfl rfl rfl rfl (by first | omega | (simp; omega)) (oW hlt)) ?_
  refine ak rfl<|ag<|av hP<|bH rfl rfl ?_
  refine aj rfl<|ag ?_
  have hr := w6 rfl hc ha hb hv
  refine ⟨(l ++ [(a.getD l.length 0 + 8589934592 - b.getD l.length 0 - c) % 4294967296], if a.getD l.length 0 < b.getD l.length 0 + c then 1 else 0), ⟨by simp; omega, hol.snoc (Nat.mod_lt _ (by omega)), by split <;> omega, by simpa using hr⟩, by simp; omega, aG ⟨.refl _, .refl _, .refl _, .refl _, aO (by simp), trivial⟩ ⟨rfl, trivial⟩⟩
 have hb1_ := dF0 hb1
 have hge : l.length = a.length := by omega
 have hfin := hol.app (ha.drop l.length)
 have hval := w7 hge hab hle hol hv
 refine aZ<|cH (t := 5) rfl rfl ?_
 refine ae hP<|aj rfl<|ab (ah (eD _ hfin)) ?_
 refine ak rfl<|ag<|am<|E1 rfl rfl ?_
 exact aH (by rw [hval])
theorem D5 (a b : List Nat) (ha : okW a) (hb : okW b) (hla : a.length ≤ 1099511627776) (hlb : b.length ≤ 1099511627776) :
  aF Tryz.prog 64 [.p (.c (W a)), .p (.c (W b))] (.p (.c (nt (wv a * wv b)))) := by
 refine aL Tryz.func64 rfl rfl rfl rfl ?_
 refine ae hP<|ak rfl<|ag<|ae hP<|aj rfl<|ab (aU hT rfl rfl rfl rfl)<|aj rfl<|ab (aU hT rfl rfl rfl rfl)<|bH rfl rfl ?_
 refine an ai (eh hT rfl rfl rfl rfl rfl rfl rfl rfl (by omega)) ?_
 refine ab (bl (rfl : _ = AV.vec _))<|ag<|ao<|ae hP<|aj rfl<|ab (aU hT rfl rfl rfl rfl)<|aj rfl<|ag<|aA<|bq (ι := List Nat × Nat) (fun ⟨o, i⟩ => stL [(1, .p (.c (W b))), (5, .vec 17), (18, .p (.c (W a))), (19, Z ((a.length : Nat) : Int)), (20, Z (i : Int))] [(17, WB 105 o)]) (fun ⟨o, i⟩ => i ≤ a.length ∧ o.length = a.length + b.length ∧ okW o ∧ wv o = wv (a.take i) * wv b ∧ ∀ j, i + b.length ≤ j → o.getD j 0 = 0) (fun ⟨_, i⟩ => a.length - i) (List.replicate ((a.length : Int) + (b.length : Int)).toNat 0, 0) ⟨Nat.zero_le _, by simp; omega, okW.rep _, by rw [kl]; simp [wv], fun j _ => kW _ _⟩ (aG ⟨.refl _, .refl _, .refl _, .refl _, .refl _, trivial⟩ ⟨rfl, trivial⟩) ?_
 rintro ⟨o, i⟩ ⟨hi, hlo, ho, hv, hz⟩
 refine ae hP<|ab (bi rfl rfl)<|ag<|ao ?_
 refine aw rfl (fun hb1 => ?_) (fun hb1 => ?_)
 ·have hb1_ := dT0 hb1
  have hlt0 : i < a.length := by omega
  refine aq<|ao<|aA<|ae hP<|aj rfl<|cI ?_
  refine cC hT rfl rfl rfl ?_
  refine ak rfl<|ak rfl<|ag<|ae hP<|ak rfl<|ag<|ao<|ae hP<|aj rfl<|ab (aU hT rfl rfl rfl rfl)<|aj rfl<|ag<|aA ?_
  obtain ⟨o0, ho0⟩ : ∃ o0, o0 = o := ⟨_, rfl⟩
  have hv0 := hv
  rw [← ho0] at hv
  refine bq (ι := List Nat × Nat × Nat) (fun ⟨o, k, c⟩ => stL [(1, .p (.c (W b))), (5, .vec 17), (18, .p (.c (W a))), (19, Z ((a.length : Nat) : Int)), (20, Z (i : Int)), (6, Z (i : Int)), (7, .p (.c (w32 (a.getD i 0)))), (8, .p (.c (.v (.int .u64 (c : Nat))))), (25, .p (.c (W b))), (26, Z ((b.length : Nat) : Int)), (27, Z (k : Int))] [(17, WB 105 o)]) (fun ⟨o, k, c⟩ => k ≤ b.length ∧ o.length = a.length + b.length ∧ okW o ∧ c < 4294967296 ∧ wv o + 4294967296 ^ (i + k) * c = wv o0 + 4294967296 ^ i * (a.getD i 0 * wv (b.take k)) ∧ ∀ j, i + b.length ≤ j → o.getD j 0 = 0) (fun ⟨_, k, _⟩ => b.length - k) (o, 0, 0) ⟨Nat.zero_le _, hlo, ho, by omega, by rw [ho0]; simp [wv], hz⟩ (aG ⟨.refl _, .refl _, .refl _, .refl _, .refl _, .refl _, .refl _, .refl _, .refl _, .refl _, .refl _, trivial⟩ ⟨rfl, trivial⟩) ?_
  clear hlo ho hz hv0 ho0
  rintro ⟨o, k, c⟩ ⟨hk, hlo, ho, hc, hkv, hz⟩
  refine ae hP<|ab (bi rfl rfl)<|ag<|ao ?_
  refine aw rfl (fun hb2 => ?_) (fun hb2 => ?_)
  ·have hb2_ := dT0 hb2
   have hlt : k < b.length := by omega
   have ha1 := ha.getD i
   have hb1v := hb.getD k
   have hp1 := Nat.mul_le_mul (Nat.le_sub_one_of_lt (ha.getD i)) (Nat.le_sub_one_of_lt (hb.getD k))
   have ho1 := ho.getD (i + k)
   refine aq<|ao<|aA<|ae hP<|aj rfl<|cI ?_
   refine cC hT rfl rfl rfl ?_
   refine ak rfl<|ak rfl<|ag<|ae hP<|aj rfl<|ab (a8 hT rfl rfl rfl rfl (cU (by omega))) ?_
   refine aj rfl<|ab (a8 hT rfl rfl rfl rfl (cU (by omega))) ?_
   refine ab (bU rfl rfl (c := ((a.getD i 0 * b.getD k 0 : Nat) : Int)) (by rw [← Int.natCast_mul, cU (by omega)])) ?_
   refine ab (az (rfl : _ = AV.vec _))<|aj rfl<|aj rfl<|ab (bJ rfl rfl (c := ((i + k : Nat) : Int)) (by rw [iW0 _ (by omega)]; omega)) ?_
   refine c7 ?_
   refine ab (dj hT rfl rfl rfl rfl (by first | omega | (simp; omega)) rfl) ?_
   refine ab (a8 hT rfl rfl rfl rfl (cU (by omega))) ?_
   refine ab (bJ rfl rfl (c := ((a.getD i 0 * b.getD k 0 + o.getD (i + k) 0 : Nat) : Int)) (by rw [← Int.natCast_add, cU (by omega)])) ?_
   refine aj rfl<|ab (bJ rfl rfl (c := ((a.getD i 0 * b.getD k 0 + o.getD (i + k) 0 + c : Nat) : Int)) (by rw [← Int.natCast_add, cU (by omega)])) ?_
   refine ak rfl<|ag<|av hP<|ab (az (rfl : _ = AV.vec _))<|aj rfl<|aj rfl<|ab (bJ rfl rfl (c := ((i + k : Nat) : Int)) (by rw [iW0 _ (by omega)]; omega)) ?_
   refine aj rfl<|ab (a8 hT rfl rfl rfl rfl (c := (((a.getD i 0 * b.getD k 0 + o.getD (i + k) 0 + c) % 4294967296 : Nat) : Int)) (by rw [IntKind.wrap_u32]; omega)) ?_
   refine aj rfl<|ab (c8 (j := 32) rfl rfl (by first | decide | omega)) ?_
   refine c7 ?_
   refine de ai (ci hT rfl rfl rfl rfl rfl (by first | omega | (simp; omega)) rfl) ?_
   refine ak rfl<|ag<|av hP<|bH rfl rfl ?_
   refine aj rfl<|ag ?_
   have hr := pU (b := b) (x := a.getD i 0) (i := i) (k := k) (t := a.getD i 0 * b.getD k 0 + o.getD (i + k) 0 + c) (by omega) rfl hkv
   refine ⟨(o.set (i + k) ((a.getD i 0 * b.getD k 0 + o.getD (i + k) 0 + c) % 4294967296), k + 1, (a.getD i 0 * b.getD k 0 + o.getD (i + k) 0 + c) / 4294967296), ⟨by omega, by simpa using hlo, ho.set (Nat.mod_lt _ (by omega)), (Nat.div_lt_iff_lt_mul (by omega)).2 (by omega), hr, fun j hj => ?_⟩, by show b.length - (k + 1) < b.length - k; omega, aG ⟨.refl _, .refl _, .refl _, .refl _, .refl _, .refl _, .refl _, .refl _, .refl _, .refl _, .refl _, trivial⟩ ⟨rfl, trivial⟩⟩
   rw [eX _ _ _ _ (by omega), if_neg (by omega)]
   exact hz j (by omega)
  have hb2_ := dF0 hb2
  have hke : k = b.length := by omega
  subst hke
  refine aZ<|av hP<|ab (az (rfl : _ = AV.vec _))<|aj rfl<|aj rfl<|ab (aU hT rfl rfl rfl rfl)<|ab (bJ rfl rfl (c := ((i + b.length : Nat) : Int)) (by rw [iW0 _ (by omega)]; omega)) ?_
  refine aj rfl<|ab (a8 hT rfl rfl rfl rfl (j0 (by omega))) ?_
  refine c7 ?_
  refine de ai (ci hT rfl rfl rfl rfl rfl (by first | omega | (simp; omega)) rfl) ?_
  refine ag<|av hP<|bH rfl rfl ?_
  refine aj rfl<|ag ?_
  have hov := pV (o := o0) (a := a) (by omega) (hz _ (Nat.le_refl _)) rfl hv hkv
  refine ⟨(o.set (i + b.length) c, i + 1), ⟨by omega, by simpa using hlo, ho.set (by omega), hov, fun j hj => ?_⟩, by show a.length - (i + 1) < a.length - i; omega, aG ⟨.refl _, .refl _, .refl _, .refl _, .refl _, trivial⟩ ⟨rfl, trivial⟩⟩
  rw [eX _ _ _ _ (by omega), if_neg (by omega)]
  exact hz j (by omega)
 have hb1_ := dF0 hb1
 have hie : i = a.length := by omega
 refine aZ<|cH (t := 5) rfl rfl ?_
 refine ae hP<|aj rfl<|ab (ah (eD _ ho)) ?_
 refine ak rfl<|ag<|am<|E1 rfl rfl ?_
 exact aH (by rw [hv, hie, List.take_length])
end
section
open Go Go.AM
theorem oU (a : List Nat) (k : Nat) (ha : okW a) (hla : a.length ≤ 1099511627776) (hk : k ≤ 1099511627776) :
  aF Tryz.prog 207 [.p (.c (W a)), Z (k : Int)] (.p (.c (nt (wv a * 2 ^ k)))) := by
 refine aL Tryz.func207 rfl rfl rfl rfl ?_
 obtain ⟨q, hq⟩ : ∃ q, q = k / 32 := ⟨_, rfl⟩
 obtain ⟨s, hs⟩ : ∃ s, s = k % 32 := ⟨_, rfl⟩
 have hks : k = 32 * q + s := by omega
 have hs32 : s < 32 := by omega
 refine ae hP<|ak rfl<|ag<|ae hP<|aj rfl<|ab (aU hT rfl rfl rfl rfl)<|aj rfl<|ab (dl rfl rfl (by decide) (c := ((q : Nat) : Int)) (by rw [Int.tdiv_eq_ediv_of_nonneg (by omega), iW0 _ (by omega)]; omega)) ?_
 refine ab (bJ rfl rfl (c := ((a.length + q : Nat) : Int)) (by rw [iW0 _ (by omega)]; omega)) ?_
 refine ab (bJ rfl rfl (c := ((a.length + q + 1 : Nat) : Int)) (by rw [iW0 _ (by omega)]; omega)) ?_
 refine an ai (eh hT rfl rfl rfl rfl rfl rfl rfl rfl (by omega)) ?_
 refine ab (bl (rfl : _ = AV.vec _))<|ag<|ao<|ae hP<|aj rfl<|ab (aU hT rfl rfl rfl rfl)<|aj rfl<|ag<|aA<|bq (ι := List Nat × Nat) (fun ⟨o, i⟩ => stL [(1, Z (k : Int)), (5, .vec 15), (16, .p (.c (W a))), (17, Z ((a.length : Nat) : Int)), (18, Z (i : Int))] [(15, WB 105 o)]) (fun ⟨o, i⟩ => i ≤ a.length ∧ o.length = a.length + q + 1 ∧ okW o ∧ wv o = wv (a.take i) * 2 ^ k ∧ o.getD (i + q) 0 < 2 ^ s ∧ ∀ j, i + q < j → o.getD j 0 = 0) (fun ⟨_, i⟩ => a.length - i) (List.replicate ((a.length + q + 1 : Nat) : Int).toNat 0, 0) ⟨Nat.zero_le _, by simp; omega, okW.rep _, by rw [kl]; simp [wv], by rw [kW]; exact Nat.two_pow_pos s, fun j _ => kW _ _⟩ (aG ⟨.refl _, .refl _, .refl _, .refl _, .refl _, trivial⟩ ⟨rfl, trivial⟩) ?_
 rintro ⟨o, i⟩ ⟨hi, hlo, ho, hv, hlow, hz⟩
 refine ae hP<|ab (bi rfl rfl)<|ag<|ao ?_
 refine aw rfl (fun hb1 => ?_) (fun hb1 => ?_)
 ·have hb1_ := dT0 hb1
  have hlt : i < a.length := by omega
  have hai := ha.getD i
  have hoi := ho.getD (i + q)
  have hti : a.getD i 0 * 2 ^ s / 4294967296 < 4294967296 := xd hai hs32
  refine aq<|ao<|aA<|ae hP<|aj rfl<|cI ?_
  refine cC hT rfl rfl rfl ?_
  refine ak rfl<|ak rfl<|ag<|ae hP<|aj rfl<|ab (a8 hT rfl rfl rfl rfl (cU (by omega))) ?_
  refine aj rfl<|ab (b5 rfl rfl (by decide) (c := ((s : Nat) : Int)) (by rw [Int.tmod_eq_emod_of_nonneg (by omega)]; omega)) ?_
  refine ab (ku rfl rfl (by omega) (c := ((a.getD i 0 * 2 ^ s : Nat) : Int)) (vv hai hs32)) ?_
  refine ak rfl<|ag<|ae hP<|ab (az (rfl : _ = AV.vec _))<|aj rfl<|aj rfl<|ab (dl rfl rfl (by decide) (c := ((q : Nat) : Int)) (by rw [Int.tdiv_eq_ediv_of_nonneg (by omega), iW0 _ (by omega)]; omega)) ?_
  refine ab (bJ rfl rfl (c := ((i + q : Nat) : Int)) (by rw [iW0 _ (by omega)]; omega)) ?_
  refine c7 ?_
  refine ab (dj hT rfl rfl rfl rfl (by first | omega | (simp; omega)) rfl) ?_
  refine aj rfl<|ab (a8 hT rfl rfl rfl rfl (c := ((a.getD i 0 * 2 ^ s % 4294967296 : Nat) : Int)) (by rw [IntKind.wrap_u32]; omega)) ?_
  refine ab (lL rfl rfl rfl (gL hoi) (gL (Nat.mod_lt _ (by omega)))) ?_
  refine c7 ?_
  refine de ai (ci hT rfl rfl rfl rfl rfl (by first | omega | (simp; omega)) rfl) ?_
  refine ag<|av hP<|ab (az (rfl : _ = AV.vec _))<|aj rfl<|aj rfl<|ab (dl rfl rfl (by decide) (c := ((q : Nat) : Int)) (by rw [Int.tdiv_eq_ediv_of_nonneg (by omega), iW0 _ (by omega)]; omega)) ?_
  refine ab (bJ rfl rfl (c := ((i + q : Nat) : Int)) (by rw [iW0 _ (by omega)]; omega)) ?_
  refine ab (bJ rfl rfl (c := ((i + q + 1 : Nat) : Int)) (by rw [iW0 _ (by omega)]; omega)) ?_
  refine aj rfl<|ab (c8 (j := 32) rfl rfl (by decide)) ?_
  refine ab (a8 hT rfl rfl rfl rfl (c := ((a.getD i 0 * 2 ^ s / 4294967296 : Nat) : Int)) (j0 hti)) ?_
  refine c7 ?_
  refine de ai (ci hT rfl rfl rfl rfl rfl (by first | omega | (simp; omega)) rfl) ?_
  refine ag<|av hP<|bH rfl rfl ?_
  refine aj rfl<|ag ?_
  have hr := xc (a := a) (x := a.getD i 0) hks hs32 (by omega) rfl hlow (hz _ (by omega)) hv
  have hts : a.getD i 0 * 2 ^ s / 4294967296 < 2 ^ s := by
   rw [Nat.div_lt_iff_lt_mul (by omega), Nat.mul_comm]; exact Nat.mul_lt_mul_of_pos_left hai (Nat.two_pow_pos s)
  refine ⟨((o.set (i + q) (o.getD (i + q) 0 ||| a.getD i 0 * 2 ^ s % 4294967296)).set (i + q + 1) (a.getD i 0 * 2 ^ s / 4294967296), i + 1), ⟨by omega, by simpa using hlo, (ho.set (Nat.or_lt_two_pow (n := 32) hoi (Nat.mod_lt _ (by omega)))).set hti, hr, ?_, fun j hj => ?_⟩, by show a.length - (i + 1) < a.length - i; omega, aG ⟨.refl _, .refl _, .refl _, .refl _, .refl _, trivial⟩ ⟨rfl, trivial⟩⟩
  ·rw [show i + 1 + q = i + q + 1 by omega, eX _ _ _ _ (by simp; omega), if_pos rfl]; exact hts
  rw [eX _ _ _ _ (by simp; omega), if_neg (by omega), eX _ _ _ _ (by omega), if_neg (by omega)]
  exact hz j (by omega)
 have hb1_ := dF0 hb1
 have hie : i = a.length := by omega
 refine aZ<|cH (t := 5) rfl rfl ?_
 refine ae hP<|aj rfl<|ab (ah (eD _ ho)) ?_
 refine ak rfl<|ag<|am<|E1 rfl rfl ?_
 exact aH (by rw [hv, hie, List.take_length])
theorem D4 (a : List Nat) (k : Nat) (ha : okW a) (hla : a.length ≤ 1099511627776) (hk : k < 32) :
  aF Tryz.prog 208 [.p (.c (W a)), Z (k : Int)] (.p (.c (nt (wv a / 2 ^ k)))) := by
 refine aL Tryz.func208 rfl rfl rfl rfl ?_
 have h0l : (0 : Nat) ≤ a.length := Nat.zero_le _
 refine ae hP<|ak rfl<|ag<|ae hP<|aj rfl<|ab (aU hT rfl rfl rfl rfl)<|an ai (eh hT rfl rfl rfl rfl rfl rfl rfl rfl (by omega)) ?_
 refine ab (bl (rfl : _ = AV.vec _))<|ag<|ao<|ae hP<|ab (az (rfl : _ = AV.vec _))<|ab (eC hT rfl rfl rfl rfl)<|aj rfl<|ag<|aA<|bq (ι := List Nat × Nat) (fun ⟨o, i⟩ => stL [(0, .p (.c (W a))), (1, Z (k : Int)), (5, .vec 10), (12, Z ((a.length : Nat) : Int)), (13, Z (i : Int))] [(10, WB 105 o)]) (fun ⟨o, i⟩ => i ≤ a.length ∧ o.length = a.length ∧ ∀ j, j < i → o.getD j 0 = gW a k j) (fun ⟨_, i⟩ => a.length - i) (List.replicate ((a.length : Nat) : Int).toNat 0, 0) ⟨Nat.zero_le _, by simp, fun j hj => by omega⟩ (aG ⟨.refl _, .refl _, .refl _, aO (by simp), .refl _, trivial⟩ ⟨rfl, trivial⟩) ?_
 rintro ⟨o, i⟩ ⟨hi, hlo, hv⟩
 refine ae hP<|ab (bi rfl rfl)<|ag<|ao ?_
 refine aw rfl (fun hb1 => ?_) (fun hb1 => ?_)
 ·have hb1_ := dT0 hb1
  have hlt : i < a.length := by omega
  have hai := ha.getD i
  refine aq<|ao<|aA<|ae hP<|aj rfl<|ak rfl<|ag<|ae hP<|aj rfl<|aj rfl<|cI ?_
  refine cC hT rfl rfl rfl ?_
  refine ab (a8 hT rfl rfl rfl rfl (cU (by omega))) ?_
  refine ak rfl<|ag<|cz (ι := Unit) (fun _ => stL [(0, .p (.c (W a))), (1, Z (k : Int)), (5, .vec 10), (12, Z ((a.length : Nat) : Int)), (13, Z (i : Int)), (6, Z (i : Int)), (7, .p (.c (.v (.int .u64 ((a.getD i 0 + 4294967296 * a.getD (i + 1) 0 : Nat) : Int)))))] [(10, WB 105 o)]) (fun _ => True) ?_ ?_
  ·refine ae hP<|aj rfl<|ab (bJ rfl rfl (c := ((i + 1 : Nat) : Int)) (by rw [iW0 _ (by omega)]; omega)) ?_
   refine aj rfl<|ab (aU hT rfl rfl rfl rfl)<|ab (bi rfl rfl)<|ag ?_
   refine aw rfl (fun hb2 => ?_) (fun hb2 => ?_)
   ·have hb2_ := dT0 hb2
    refine av hP<|aj rfl<|aj rfl<|aj rfl<|ab (bJ rfl rfl (c := ((i + 1 : Nat) : Int)) (by rw [iW0 _ (by omega)]; omega)) ?_
    refine cI ?_
    refine cC hT rfl rfl rfl ?_
    refine ab (a8 hT rfl rfl rfl rfl (cU (by have := ha.getD (i + 1); omega))) ?_
    refine ab (hZ (j := 32) rfl rfl (by decide) rfl) ?_
    refine ab (jW rfl rfl (c := ((a.getD i 0 + 4294967296 * a.getD (i + 1) 0 : Nat) : Int)) (by rw [qm hai (ha.getD (i + 1))])) ?_
    refine ak rfl<|ag ?_
    exact ⟨(), trivial, aG ⟨.refl _, .refl _, .refl _, .refl _, .refl _, .refl _, .refl _, trivial⟩ ⟨rfl, trivial⟩⟩
   have hb2_ := dF0 hb2
   refine aq ?_
   exact ⟨(), trivial, aG ⟨.refl _, .refl _, .refl _, .refl _, .refl _, .refl _, aO (by rw [o7 (k := i + 1) (by omega)]; omega), trivial⟩ ⟨rfl, trivial⟩⟩
  rintro _ -
  have hai2 := ha.getD (i + 1)
  refine av hP<|ab (az (rfl : _ = AV.vec _))<|aj rfl<|aj rfl<|aj rfl<|ab (c8 (j := k) rfl rfl (by show k ≤ 64; omega)) ?_
  refine ab (a8 hT rfl rfl rfl rfl (c := ((gW a k i : Nat) : Int)) (by rw [IntKind.wrap_u32]; unfold gW; omega)) ?_
  refine c7 ?_
  refine de ai (ci hT rfl rfl rfl rfl rfl (by first | omega | (simp; omega)) rfl) ?_
  refine ag<|av hP<|bH rfl rfl ?_
  refine aj rfl<|ag ?_
  refine ⟨(o.set i (gW a k i), i + 1), ⟨by omega, by simpa using hlo, fun j hj => ?_⟩, by show a.length - (i + 1) < a.length - i; omega, aG ⟨.refl _, .refl _, .refl _, .refl _, .refl _, trivial⟩ ⟨rfl, trivial⟩⟩
  rw [eX _ _ _ _ (by omega)]
  split
  ·subst_vars; rfl
  exact hv j (by omega)
 have hb1_ := dF0 hb1
 have hie : i = a.length := by omega
 have hoe := Dg (hie ▸ hv) hlo
 have hook := Gk a k
 refine aZ<|cH (t := 5) rfl rfl ?_
 refine ae hP<|aj rfl<|ab (ah (eD _ (hoe ▸ hook))) ?_
 refine ak rfl<|ag<|am<|E1 rfl rfl ?_
 exact aH (by rw [hoe, uk k hk a ha])
theorem tO (a : List Nat) (d : Nat) (ha : okW a) (hla : a.length ≤ 1099511627776) (hd : 0 < d) (hd2 : d < 4294967296) :
  aF Tryz.prog 205 [.p (.c (W a)), .p (.c (w32 d))] (.t [.c (nt (wv a / d)), .c (w32 (wv a % d))]) := by
 refine aL Tryz.func205 rfl rfl rfl rfl ?_
 have h0l : (0 : Nat) ≤ a.length := Nat.zero_le _
 refine ae hP<|ak rfl<|ak rfl<|ag<|ae hP<|aj rfl<|ab (aU hT rfl rfl rfl rfl)<|an ai (eh hT rfl rfl rfl rfl rfl rfl rfl rfl (by omega)) ?_
 refine ab (bl (rfl : _ = AV.vec _))<|ag<|ae hP<|ak rfl<|ag<|ao<|ae hP<|aj rfl<|ab (aU hT rfl rfl rfl rfl)<|ab (bC rfl rfl (by first | exact iW0 _ (by omega) | rfl)) ?_
 refine ak rfl<|ag<|aA<|bq (ι := List Nat × Nat × Nat) (fun ⟨o, i, r⟩ => stL [(0, .p (.c (W a))), (1, .p (.c (w32 d))), (6, .vec 11), (7, .p (.c (w32 r))), (8, Z ((i : Int) - 1))] [(11, WB 105 o)]) (fun ⟨o, i, r⟩ => i ≤ a.length ∧ o.length = a.length ∧ okW o ∧ r < d ∧ wv (a.drop i) = d * wv (o.drop i) + r) (fun ⟨_, i, _⟩ => i) (List.replicate ((a.length : Nat) : Int).toNat 0, a.length, 0) ⟨Nat.le_refl _, by simp, okW.rep _, hd, by simp [wv]⟩ (aG ⟨.refl _, .refl _, .refl _, .refl _, .refl _, trivial⟩ ⟨rfl, trivial⟩) ?_
 rintro ⟨o, i, r⟩ ⟨hi, hlo, ho, hr, hv⟩
 refine ao<|ae hP<|aj rfl<|ab (dc rfl rfl)<|ag ?_
 refine aw rfl (fun hb1 => ?_) (fun hb1 => ?_)
 ·have hb1_ := dT0 hb1
  obtain ⟨i, rfl⟩ : ∃ k, i = k + 1 := ⟨i - 1, by omega⟩
  have hc : ((i + 1 : Nat) : Int) - 1 = (i : Int) := by omega
  have hai := ha.getD i
  have hq : (r * 4294967296 + a.getD i 0) / d < 4294967296 := (Nat.div_lt_iff_lt_mul hd).2 (by have : (r + 1) * 4294967296 ≤ d * 4294967296 := Nat.mul_le_mul_right _ hr; omega)
  refine dF (t := stL [(0, .p (.c (W a))), (1, .p (.c (w32 d))), (6, .vec 11), (7, .p (.c (w32 r))), (8, Z (i : Int))] [(11, WB 105 o)]) (aG ⟨.refl _, .refl _, .refl _, .refl _, aO hc, trivial⟩ ⟨rfl, trivial⟩) ?_
  refine aq<|ao<|aA<|av hP<|ab (az (rfl : _ = AV.vec _))<|aj rfl<|aj rfl<|aj rfl<|aj rfl<|cI ?_
  refine cC hT rfl rfl rfl ?_
  refine aj rfl<|ab (ah (JP _ _ _ hd2 hr hai)) ?_
  refine ab (az (rfl : _ = AV.t _))<|ab (aC rfl (v := .c _) rfl)<|ab (aC rfl (v := .c _) rfl)<|c7 ?_
  refine de ai (ci hT rfl rfl rfl rfl rfl (by first | omega | (simp; omega)) rfl) ?_
  refine ak rfl<|ag<|av hP<|aj rfl<|ab (bC rfl rfl (by first | exact iW0 _ (by omega) | rfl)) ?_
  refine ak rfl<|ag ?_
  refine ⟨(o.set i ((r * 4294967296 + a.getD i 0) / d), i, (r * 4294967296 + a.getD i 0) % d), ⟨by omega, by simpa using hlo, ho.set hq, Nat.mod_lt _ hd, wz (by omega) hlo hv hd⟩, by show i < i + 1; omega, aG ⟨.refl _, .refl _, .refl _, .refl _, aO (by omega), trivial⟩ ⟨rfl, trivial⟩⟩
 have hb1_ := dF0 hb1
 have hie : i = 0 := by omega
 subst hie
 refine aZ<|cH (t := 6) rfl rfl ?_
 refine ae hP<|aj rfl<|ab (ah (eD _ ho)) ?_
 refine aj rfl<|ak rfl<|ak rfl<|ag<|am<|E11 rfl rfl rfl ?_
 rw [List.drop_zero, List.drop_zero] at hv
 have e1 : wv a / d = wv o := by rw [hv, Nat.mul_add_div hd, Nat.div_eq_of_lt hr, Nat.add_zero]
 have e2 : wv a % d = r := by rw [hv, Nat.mul_add_mod, Nat.mod_eq_of_lt hr]
 exact aH (by rw [e1, e2])
end
section
open Go Go.AM
theorem D6 (a b : Nat) (hla : (wl a).length ≤ 1099511627776) (hb : 0 < b) :
  aF Tryz.prog 171 [.p (.c (nt a)), .p (.c (nt b))] (.t [.c (nt (a / b)), .c (nt (a % b))]) := by
 refine aL Tryz.func171 rfl rfl rfl rfl ?_
 have h0l : (0 : Nat) ≤ (wl a).length := Nat.zero_le _
 have hbl := di b
 refine ae hP<|ak rfl<|ak rfl<|ag<|ao<|ae hP<|aj rfl<|aj rfl<|ab (ah (oV a b)) ?_
 refine ab (bi rfl rfl)<|ag ?_
 refine aw rfl (fun hb1 => ?_) (fun hb1 => ?_)
 ·have hb1_ := dT0 hb1
  have hlt : a < b := by
   unfold bu at *; split at * <;> first | omega | (split at * <;> omega)
  refine ae hP<|aj rfl<|ak rfl<|ak rfl<|ag<|am<|E11 rfl rfl rfl ?_
  exact Sub.tup ⟨fun _ _ h => DSub.of_eq (by rw [Nat.div_eq_of_lt hlt]; rfl) _ _ (DSub.nil_sl _ _ h), DSub.of_eq (by rw [Nat.mod_eq_of_lt hlt]), trivial⟩
 have hb1_ := dF0 hb1
 have hab : b ≤ a := by
  unfold bu at *; split at * <;> first | omega | (split at * <;> omega)
 have hll := fk hab
 refine aq<|ao<|ae hP<|aj rfl<|ab (aU hT rfl rfl rfl rfl)<|ab (bp rfl rfl)<|ag ?_
 refine aw rfl (fun hb2 => ?_) (fun hb2 => ?_)
 ·have hb2_ := bT hb2
  have h1 : (wl b).length = 1 := by omega
  have hd2 := (bI b).getD 0
  have hbe : b = (wl b).getD 0 0 := by
   have := mr (n := 0) h1
   rw [bE] at this; simpa [wv] using this
  have hmod : wv (wl a) % (wl b).getD 0 0 < 4294967296 := Nat.lt_trans (Nat.mod_lt _ (by omega)) hd2
  have hr1 : okW [wv (wl a) % (wl b).getD 0 0] := by intro x hx; rw [List.mem_singleton.1 hx]; exact hmod
  have hd1 : 0 < (wl b).getD 0 0 := by omega
  have hdiv : a / (wl b).getD 0 0 = a / b ∧ a % (wl b).getD 0 0 = a % b := by rw [← hbe]; exact ⟨rfl, rfl⟩
  refine ae hP<|aj rfl<|aj rfl<|cI ?_
  refine cC hT rfl rfl rfl ?_
  refine ab (ah (tO (wl a) ((wl b).getD 0 0) (bI a) hla hd1 hd2)) ?_
  refine ab (az (rfl : _ = AV.t _))<|ab (aC rfl (v := .c _) rfl)<|ab (aC rfl (v := .c _) rfl)<|ak rfl<|ak rfl<|ag<|ae hP<|aj rfl<|aj rfl<|ab (bj hT rfl rfl rfl (es := [_]) rfl rfl rfl)<|ab (ah (eD [_] hr1)) ?_
  refine ak rfl<|ak rfl<|ag<|am<|E11 rfl rfl rfl ?_
  exact aH (by rw [bE, hdiv.1, hdiv.2]; simp [wv])
 have hb2_ := bF hb2
 obtain ⟨k, hk⟩ : ∃ k, (wl b).length = k + 1 + 1 := by
  refine ⟨(wl b).length - 2, ?_⟩
  have : (wl b).length ≠ 0 := by intro h; rw [h] at hbl; omega
  omega
 obtain ⟨s, hs⟩ : ∃ s, s = 32 - a6 ((wl b).getD (k + 1) 0) := ⟨_, rfl⟩
 obtain ⟨hn1, hn2, hs32, hbp⟩ := vY hk hs
 have hb3 : a6 ((wl b).getD (k + 1) 0) ≤ 32 := fO (k := 32) (by simpa using (bI b).getD (k + 1))
 have hsl := Di (m := a) hs32
 have hva := bE a
 have hvb := bE b
 obtain ⟨v, hv⟩ : ∃ v, v = wl (b * 2 ^ s) := ⟨_, rfl⟩
 obtain ⟨x, hx⟩ : ∃ x, x = wl (a * 2 ^ s) := ⟨_, rfl⟩
 have okv : okW v := hv ▸ bI _
 have okx : okW x := hx ▸ bI _
 have hwv : wv v = b * 2 ^ s := by rw [hv, bE]
 have hwx : wv x = a * 2 ^ s := by rw [hx, bE]
 have cb : aF Tryz.prog 207 [.p (.c (nt b)), Z (s : Int)] (.p (.c (W v))) := by
  have := oU (wl b) s (bI b) (by omega) (by omega)
  rw [hvb] at this; rw [hv]; exact this
 have ca : aF Tryz.prog 207 [.p (.c (nt a)), Z (s : Int)] (.p (.c (W x))) := by
  have := oU (wl a) s (bI a) (by omega) (by omega)
  rw [hva] at this; rw [hx]; exact this
 rw [← hv] at hn1 hn2
 rw [← hx] at hsl
 obtain ⟨u0, hu0⟩ : ∃ u0, u0 = x ++ (List.replicate ((((wl a).length : Nat) : Int) + 1).toNat 0).drop x.length := ⟨_, rfl⟩
 have hu0l : u0.length = (wl a).length + 1 := by rw [hu0]; simp; omega
 have oku0 : okW u0 := by rw [hu0]; exact okx.app ((okW.rep _).drop _)
 have hwu0 : wv u0 = a * 2 ^ s := by
  rw [hu0, fC, List.drop_replicate, kl, Nat.mul_zero, Nat.add_zero, hwx]
 refine aq<|ae hP<|aj rfl<|aj rfl<|ab (aU hT rfl rfl rfl rfl)<|ab (bC rfl rfl (c := ((k + 1 : Nat) : Int)) (by rw [iW0 _ (by omega)]; omega)) ?_
 refine cI ?_
 refine cC hT rfl rfl rfl ?_
 refine ab (ah (Ky _ ((bI b).getD _))) ?_
 refine ak rfl<|ag<|dF (t := stL [(0, .p (.c (nt a))), (1, .p (.c (nt b))), (8, Z (s : Int))] []) (aG ⟨.refl _, .refl _, aO (by omega), trivial⟩ trivial) ?_
 refine ae hP<|aj rfl<|aj rfl<|ab (ah cb) ?_
 refine ak rfl<|ag<|ae hP<|aj rfl<|ab (aU hT rfl rfl rfl rfl)<|ak rfl<|ag<|ae hP<|aj rfl<|ab (aU hT rfl rfl rfl rfl)<|bH rfl rfl ?_
 refine an ai (eh hT rfl rfl rfl rfl rfl rfl rfl rfl (by omega)) ?_
 refine ab (bl (rfl : _ = AV.vec _))<|ag<|ae hP<|ab (az (rfl : _ = AV.vec _))<|aj rfl<|aj rfl<|ab (ah ca) ?_
 refine RK.mut ai (lN hT rfl rfl rfl rfl rfl rfl rfl (by simp; omega) (ws' := u0) hu0.symm) ?_
 refine ag<|ae hP<|ab (az (rfl : _ = AV.vec _))<|ab (eC hT rfl rfl rfl rfl)<|aj rfl<|ab (bC rfl rfl (c := (((wl a).length + 1 - (k + 2) : Nat) : Int)) (by rw [iW0 _ (by rw [hu0l]; omega), hu0l]; omega)) ?_
 refine an ai (eh hT rfl rfl rfl rfl rfl rfl rfl rfl (by omega)) ?_
 refine ab (bl (rfl : _ = AV.vec _))<|ag<|ao<|ae hP<|ab (az (rfl : _ = AV.vec _))<|ab (eC hT rfl rfl rfl rfl)<|ab (bC rfl rfl (c := (((wl a).length + 1 - (k + 2) : Nat) : Int) - 1) (by simp only [List.length_replicate, Int.toNat_natCast]; exact iW0 _ (by omega))) ?_
 refine ak rfl<|ag<|aA<|bq (ι := List Nat × List Nat × Nat) (fun ⟨u, q, i⟩ => stL [(8, Z (s : Int)), (9, .p (.c (W v))), (10, Z ((k + 2 : Nat) : Int)), (11, .vec 60), (12, .vec 70), (13, Z ((i : Int) - 1))] [(60, WB 105 u), (70, WB 105 q)]) (fun ⟨u, q, i⟩ => u.length = (wl a).length + 1 ∧ okW u ∧ q.length = (wl a).length + 1 - (k + 2) ∧ okW q ∧ i ≤ q.length ∧ wv (u.drop i) < wv v ∧ a * 2 ^ s = wv v * (4294967296 ^ i * wv (q.drop i)) + wv u) (fun ⟨_, _, i⟩ => i) (u0, List.replicate (((wl a).length + 1 - (k + 2) : Nat) : Int).toNat 0, (wl a).length + 1 - (k + 2)) ⟨hu0l, oku0, by simp, okW.rep _, by simp, by rw [hwv]; exact yc hwu0 hu0l hbp (by omega), by rw [hwu0, List.drop_replicate, kl]; simp⟩ (aG ⟨.refl _, .refl _, aO (by omega), .refl _, .refl _, .refl _, trivial⟩ ⟨rfl, rfl, trivial⟩) ?_
 rintro ⟨u, q, i⟩ ⟨hlu, hok, hlq, hqok, hi, hlow, hM⟩
 have hiq := hi
 refine ao<|ae hP<|aj rfl<|ab (dc rfl rfl)<|ag ?_
 refine aw rfl (fun hb3 => ?_) (fun hb3 => ?_)
 ·have hb3_ := dT0 hb3
  obtain ⟨j, rfl⟩ : ∃ k, i = k + 1 := ⟨i - 1, by omega⟩
  have hc : ((j + 1 : Nat) : Int) - 1 = (j : Int) := by omega
  have dg : Dig v u k j := ⟨hn1, okv, hn2, hok, by omega, hlow⟩
  have hq1 := hok.getD (j + k + 2)
  have hq2 := hok.getD (j + k + 1)
  have hq3 := hok.getD (j + k)
  have hv1 := okv.getD (k + 1)
  have hv2 := okv.getD k
  have hN64 : (u.getD (j + k + 2) 0 * 4294967296 + u.getD (j + k + 1) 0) < 18446744073709551616 := by omega
  have hdl : (u.getD (j + k + 2) 0 * 4294967296 + u.getD (j + k + 1) 0) / v.getD (k + 1) 0 ≤ (u.getD (j + k + 2) 0 * 4294967296 + u.getD (j + k + 1) 0) := Nat.div_le_self _ _
  have hml : (u.getD (j + k + 2) 0 * 4294967296 + u.getD (j + k + 1) 0) % v.getD (k + 1) 0 < v.getD (k + 1) 0 := Nat.mod_lt _ (by omega)
  refine dF (t := stL [(8, Z (s : Int)), (9, .p (.c (W v))), (10, Z ((k + 2 : Nat) : Int)), (11, .vec 60), (12, .vec 70), (13, Z ((j : Nat) : Int))] [(60, WB 105 u), (70, WB 105 q)]) (aG ⟨.refl _, .refl _, .refl _, .refl _, .refl _, aO hc, trivial⟩ ⟨rfl, rfl, trivial⟩) ?_
  refine aq<|ao<|aA<|ae hP<|ab (az (rfl : _ = AV.vec _))<|aj rfl<|aj rfl<|ab (bJ rfl rfl (c := ((j + k + 2 : Nat) : Int)) (by rw [iW0 _ (by omega)]; omega)) ?_
  refine c7 ?_
  refine ab (dj hT rfl rfl rfl rfl (by first | omega | (simp; omega)) rfl) ?_
  refine ab (a8 hT rfl rfl rfl rfl (cU (by omega))) ?_
  refine ab (hZ (j := 32) rfl rfl (by first | decide | omega) rfl) ?_
  refine ab (az (rfl : _ = AV.vec _))<|aj rfl<|aj rfl<|ab (bJ rfl rfl (c := ((j + k + 2 : Nat) : Int)) (by rw [iW0 _ (by omega)]; omega)) ?_
  refine ab (bC rfl rfl (c := ((j + k + 1 : Nat) : Int)) (by rw [iW0 _ (by omega)]; omega)) ?_
  refine c7 ?_
  refine ab (dj hT rfl rfl rfl rfl (by first | omega | (simp; omega)) rfl) ?_
  refine ab (a8 hT rfl rfl rfl rfl (cU (by omega))) ?_
  refine ab (jW rfl rfl (l5 hq1 hq2)) ?_
  refine ak rfl<|ag<|ae hP<|aj rfl<|aj rfl<|aj rfl<|ab (bC rfl rfl (c := ((k + 1 : Nat) : Int)) (by rw [iW0 _ (by omega)]; omega)) ?_
  refine cI ?_
  refine cC hT rfl rfl rfl ?_
  refine ab (a8 hT rfl rfl rfl rfl (cU (by omega))) ?_
  refine ab (dl rfl rfl (by omega) (c := (((u.getD (j + k + 2) 0 * 4294967296 + u.getD (j + k + 1) 0) / v.getD (k + 1) 0 : Nat) : Int)) (by rw [Int.tdiv_eq_ediv_of_nonneg (by omega), ← Int.natCast_ediv, cU (by omega)])) ?_
  refine aj rfl<|aj rfl<|aj rfl<|ab (bC rfl rfl (c := ((k + 1 : Nat) : Int)) (by rw [iW0 _ (by omega)]; omega)) ?_
  refine cI ?_
  refine cC hT rfl rfl rfl ?_
  refine ab (a8 hT rfl rfl rfl rfl (cU (by omega))) ?_
  refine ab (b5 rfl rfl (by omega) (c := (((u.getD (j + k + 2) 0 * 4294967296 + u.getD (j + k + 1) 0) % v.getD (k + 1) 0 : Nat) : Int)) (by rw [Int.tmod_eq_emod_of_nonneg (by omega), ← Int.natCast_emod])) ?_
  refine ak rfl<|ak rfl<|ag<|cz (ι := Nat) (fun g => stL [(8, Z (s : Int)), (9, .p (.c (W v))), (10, Z ((k + 2 : Nat) : Int)), (11, .vec 60), (12, .vec 70), (13, Z ((j : Nat) : Int)), (15, .p (.c (.v (.int .u64 ((g : Nat) : Int)))))] [(60, WB 105 u), (70, WB 105 q)]) (fun g => g < 4294967296 ∧ dq v u j ≤ g ∧ g ≤ dq v u j + 1) ?_ ?_
  ·refine aA<|bq (ι := Nat × Nat) (fun ⟨g, r⟩ => stL [(8, Z (s : Int)), (9, .p (.c (W v))), (10, Z ((k + 2 : Nat) : Int)), (11, .vec 60), (12, .vec 70), (13, Z ((j : Nat) : Int)), (15, .p (.c (.v (.int .u64 ((g : Nat) : Int))))), (16, .p (.c (.v (.int .u64 ((r : Nat) : Int)))))] [(60, WB 105 u), (70, WB 105 q)]) (fun ⟨g, r⟩ => g * v.getD (k + 1) 0 + r = (u.getD (j + k + 2) 0 * 4294967296 + u.getD (j + k + 1) 0) ∧ r < 4294967296 ∧ g < 18446744073709551616 ∧ dq v u j ≤ g) (fun ⟨g, _⟩ => g) ((u.getD (j + k + 2) 0 * 4294967296 + u.getD (j + k + 1) 0) / v.getD (k + 1) 0, (u.getD (j + k + 2) 0 * 4294967296 + u.getD (j + k + 1) 0) % v.getD (k + 1) 0) ⟨by rw [Nat.mul_comm]; exact Nat.div_add_mod _ _, by omega, by omega, dg.init⟩ (aG ⟨.refl _, .refl _, .refl _, .refl _, .refl _, .refl _, .refl _, .refl _, trivial⟩ ⟨rfl, rfl, trivial⟩) ?_
   rintro ⟨g, r⟩ ⟨hg, hr, hg64, hdq⟩
   refine ao<|ae hP<|aj rfl<|ab (bV rfl rfl)<|aj rfl ?_
   refine bd (t := 113) rfl (fun hg4 => ?_) (fun hg4 => ?_)
   ·have hg4_ := dT0 hg4
    have hdec : dq v u j < g := dg.dec hg (Or.inl (by omega))
    have hstep : (g - 1) * v.getD (k + 1) 0 + (r + v.getD (k + 1) 0) = (u.getD (j + k + 2) 0 * 4294967296 + u.getD (j + k + 1) 0) := by
     rw [← hg, ← Nat.add_assoc, Nat.add_right_comm, ← Nat.succ_mul, show (g - 1).succ = g by omega]
    iterate 20 refine a7 hg4 ?_
    refine ab (aN rfl hg4 (rfl : _ = AV.p (.c _)))<|ag<|aX rfl rfl<|aq<|aA<|ae hP<|aj rfl<|ab (bC rfl rfl (c := ((g - 1 : Nat) : Int)) (by rw [IntWalk.u64_in _ (by omega)]; omega)) ?_
    refine ak rfl<|ag<|ae hP<|aj rfl<|aj rfl<|aj rfl<|ab (bC rfl rfl (c := ((k + 1 : Nat) : Int)) (by rw [iW0 _ (by omega)]; omega)) ?_
    refine cI ?_
    refine cC hT rfl rfl rfl ?_
    refine ab (a8 hT rfl rfl rfl rfl (cU (by omega))) ?_
    refine ab (bJ rfl rfl (c := ((r + v.getD (k + 1) 0 : Nat) : Int)) (by rw [IntWalk.u64_in _ (by omega)]; omega)) ?_
    refine ak rfl<|ag<|ae hP<|aj rfl<|ab (bV rfl rfl)<|ag ?_
    refine aw rfl (fun hb5 => ?_) (fun hb5 => ?_)
    ·have hb5_ := dT0 hb5
     have hex := dg.exit hstep (Or.inr (by omega))
     refine aZ ?_
     exact ⟨g - 1, ⟨hex.1, by omega, hex.2⟩, (aG ⟨.refl _, .refl _, .refl _, .refl _, .refl _, .refl _, .refl _, trivial⟩ ⟨rfl, rfl, trivial⟩)⟩
    have hb5_ := dF0 hb5
    refine aq ?_
    exact ⟨(g - 1, r + v.getD (k + 1) 0), ⟨hstep, by omega, by omega, by omega⟩, by show g - 1 < g; omega, (aG ⟨.refl _, .refl _, .refl _, .refl _, .refl _, .refl _, .refl _, .refl _, trivial⟩ ⟨rfl, rfl, trivial⟩)⟩
   have hg4_ := dF0 hg4
   have hgB : g < 4294967296 := by omega
   have hp2 := Nat.mul_le_mul (Nat.le_sub_one_of_lt hgB) (Nat.le_sub_one_of_lt hv2)
   iterate 3 refine aB hg4 (az (rfl : _ = AV.p (.c _))) ?_
   refine aB hg4 (bC rfl rfl (c := ((k : Nat) : Int)) (by rw [iW0 _ (by omega)]; omega)) ?_
   refine aB hg4 (by first | exact fp hT rfl rfl rfl rfl rfl rfl (by omega) | exact b6 hT rfl rfl rfl rfl rfl rfl (by omega) (by first | exact gQ (by omega) | simp)) ?_
   refine aB hg4 (ce hT rfl rfl rfl (by first | rfl | exact ly (by omega))) ?_
   refine aB hg4 (a8 hT rfl rfl rfl rfl (cU (by omega))) ?_
   refine aB hg4 (bU rfl rfl (c := ((g * v.getD k 0 : Nat) : Int)) (by rw [← Int.natCast_mul, cU (by omega)])) ?_
   refine aB hg4 (az (rfl : _ = AV.p (.c _))) ?_
   refine aB hg4 (hZ (j := 32) rfl rfl (by first | decide | omega) rfl) ?_
   refine aB hg4 (az (rfl : _ = AV.vec _)) ?_
   refine aB hg4 (az (rfl : _ = AV.p (.c _))) ?_
   refine aB hg4 (az (rfl : _ = AV.p (.c _))) ?_
   refine aB hg4 (bJ rfl rfl (c := ((j + k + 2 : Nat) : Int)) (by rw [iW0 _ (by omega)]; omega)) ?_
   refine aB hg4 (bC rfl rfl (c := ((j + k : Nat) : Int)) (by rw [iW0 _ (by omega)]; omega)) ?_
   refine aB hg4 (by first | exact fM hT rfl rfl rfl rfl rfl rfl rfl (by first | omega | (simp; omega)) | exact fg hT rfl rfl rfl rfl rfl rfl rfl (by first | omega | (simp; omega))) ?_
   refine aB hg4 (dj hT rfl rfl rfl rfl (by first | omega | (simp; omega)) rfl) ?_
   refine aB hg4 (a8 hT rfl rfl rfl rfl (cU (by omega))) ?_
   refine aB hg4 (jW rfl rfl (l5 hr hq3)) ?_
   refine aB hg4 (bV rfl rfl) ?_
   refine ab (aP rfl hg4 (rfl : _ = AV.p (.c _)))<|ag ?_
   refine aw rfl (fun hb6 => ?_) (fun hb6 => ?_)
   ·have hb6_ := dT0 hb6
    have hdec : dq v u j < g := dg.dec hg (Or.inr (Int.ofNat_lt.1 (by assumption)))
    have hstep : (g - 1) * v.getD (k + 1) 0 + (r + v.getD (k + 1) 0) = (u.getD (j + k + 2) 0 * 4294967296 + u.getD (j + k + 1) 0) := by
     rw [← hg, ← Nat.add_assoc, Nat.add_right_comm, ← Nat.succ_mul, show (g - 1).succ = g by omega]
    refine aq<|aA<|ae hP<|aj rfl<|ab (bC rfl rfl (c := ((g - 1 : Nat) : Int)) (by rw [IntWalk.u64_in _ (by omega)]; omega)) ?_
    refine ak rfl<|ag<|ae hP<|aj rfl<|aj rfl<|aj rfl<|ab (bC rfl rfl (c := ((k + 1 : Nat) : Int)) (by rw [iW0 _ (by omega)]; omega)) ?_
    refine cI ?_
    refine cC hT rfl rfl rfl ?_
    refine ab (a8 hT rfl rfl rfl rfl (cU (by omega))) ?_
    refine ab (bJ rfl rfl (c := ((r + v.getD (k + 1) 0 : Nat) : Int)) (by rw [IntWalk.u64_in _ (by omega)]; omega)) ?_
    refine ak rfl<|ag<|ae hP<|aj rfl<|ab (bV rfl rfl)<|ag ?_
    refine aw rfl (fun hb7 => ?_) (fun hb7 => ?_)
    ·have hb7_ := dT0 hb7
     have hex := dg.exit hstep (Or.inr (by omega))
     refine aZ ?_
     exact ⟨g - 1, ⟨hex.1, by omega, hex.2⟩, (aG ⟨.refl _, .refl _, .refl _, .refl _, .refl _, .refl _, .refl _, trivial⟩ ⟨rfl, rfl, trivial⟩)⟩
    have hb7_ := dF0 hb7
    refine aq ?_
    exact ⟨(g - 1, r + v.getD (k + 1) 0), ⟨hstep, by omega, by omega, by omega⟩, by show g - 1 < g; omega, (aG ⟨.refl _, .refl _, .refl _, .refl _, .refl _, .refl _, .refl _, .refl _, trivial⟩ ⟨rfl, rfl, trivial⟩)⟩
   have hb6_ := dF0 hb6
   have hex := dg.exit hg (Or.inl ⟨by omega, by omega⟩)
   refine aZ ?_
   exact ⟨g, ⟨hex.1, hdq, hex.2⟩, (aG ⟨.refl _, .refl _, .refl _, .refl _, .refl _, .refl _, .refl _, trivial⟩ ⟨rfl, rfl, trivial⟩)⟩
  rintro g ⟨hgB, hg1, hg2⟩
  refine ae hP<|ak rfl<|ag<|ae hP<|ak rfl<|ag<|ao<|ae hP<|aj rfl<|ab (aU hT rfl rfl rfl rfl)<|aj rfl<|ag<|aA<|bq (ι := List Nat × Nat × Nat × Nat) (fun ⟨o, i, c, e⟩ => stL [(8, Z (s : Int)), (9, .p (.c (W v))), (10, Z ((k + 2 : Nat) : Int)), (11, .vec 60), (12, .vec 70), (13, Z ((j : Nat) : Int)), (15, .p (.c (.v (.int .u64 ((g : Nat) : Int))))), (17, .p (.c (.v (.int .u64 ((c : Nat) : Int))))), (18, .p (.c (w32 (e)))), (147, .p (.c (W v))), (148, Z ((v.length : Nat) : Int)), (149, Z ((i : Nat) : Int))] [(60, WB 105 o), (70, WB 105 q)]) (fun ⟨o, i, c, e⟩ => i ≤ v.length ∧ o.length = u.length ∧ okW o ∧ c < 4294967296 ∧ e < 2 ∧ o.drop (j + k + 3) = u.drop (j + k + 3) ∧ wv o + 4294967296 ^ j * (g * wv (v.take i)) = wv u + 4294967296 ^ (j + i) * (c + e)) (fun ⟨_, i, _, _⟩ => v.length - i) (u, 0, 0, 0) ⟨Nat.zero_le _, rfl, hok, by omega, by omega, rfl, by simp [wv]⟩ (aG ⟨.refl _, .refl _, .refl _, .refl _, .refl _, .refl _, .refl _, .refl _, .refl _, .refl _, .refl _, .refl _, trivial⟩ ⟨rfl, rfl, trivial⟩) ?_
  rintro ⟨o, i, c, e⟩ ⟨hi, hlo, ho, hc, he, hd, hS⟩
  refine ae hP<|ab (bi rfl rfl)<|ag<|ao ?_
  refine aw rfl (fun hb8 => ?_) (fun hb8 => ?_)
  ·have hb8_ := dT0 hb8
   have hlt : i < v.length := by omega
   have hvi := okv.getD i
   have hp1 := Nat.mul_le_mul (Nat.le_sub_one_of_lt hgB) (Nat.le_sub_one_of_lt (okv.getD i))
   have htB : (g * v.getD i 0 + c) / 4294967296 < 4294967296 := (Nat.div_lt_iff_lt_mul (by omega)).2 (by omega)
   refine aq<|ao<|aA<|ae hP<|aj rfl<|cI ?_
   refine cC hT rfl rfl rfl ?_
   refine ak rfl<|ak rfl<|ag<|ae hP<|aj rfl<|aj rfl<|ab (a8 hT rfl rfl rfl rfl (cU (by omega))) ?_
   refine ab (bU rfl rfl (c := ((g * v.getD i 0 : Nat) : Int)) (by rw [← Int.natCast_mul, cU (by omega)])) ?_
   refine aj rfl<|ab (bJ rfl rfl (c := ((g * v.getD i 0 + c : Nat) : Int)) (by rw [← Int.natCast_add, cU (by omega)])) ?_
   refine ak rfl<|ag<|ae hP<|aj rfl<|ab (c8 (j := 32) rfl rfl (by first | decide | omega)) ?_
   refine ak rfl<|ag<|av hP<|ab (az (rfl : _ = AV.vec _))<|aj rfl<|aj rfl<|ab (bJ rfl rfl (c := ((j + i : Nat) : Int)) (by rw [iW0 _ (by omega)]; omega)) ?_
   refine ab (az (rfl : _ = AV.vec _))<|aj rfl<|aj rfl<|ab (bJ rfl rfl (c := ((j + i : Nat) : Int)) (by rw [iW0 _ (by omega)]; omega)) ?_
   refine c7 ?_
   refine ab (dj hT rfl rfl rfl rfl (by first | omega | (simp; omega)) rfl) ?_
   refine aj rfl<|ab (a8 hT rfl rfl rfl rfl (c := (((g * v.getD i 0 + c) % 4294967296 : Nat) : Int)) (by rw [IntKind.wrap_u32]; omega)) ?_
   refine aj rfl<|ab (ah (vp _ _ _ (ho.getD _) (Nat.mod_lt _ (by omega)) he)) ?_
   refine ab (az (rfl : _ = AV.t _))<|ab (aC rfl (v := .c _) rfl)<|ab (aC rfl (v := .c _) rfl)<|c7 ?_
   refine de ai (ci hT rfl rfl rfl rfl rfl (by first | omega | (simp; omega)) rfl) ?_
   refine ak rfl<|ag<|av hP<|bH rfl rfl ?_
   refine aj rfl<|ag ?_
   have hr := v7 (v := v) (g := g) (by omega) ho he rfl hS
   exact ⟨(o.set (j + i) ((o.getD (j + i) 0 + 8589934592 - (g * v.getD i 0 + c) % 4294967296 - e) % 4294967296), i + 1, (g * v.getD i 0 + c) / 4294967296, if o.getD (j + i) 0 < (g * v.getD i 0 + c) % 4294967296 + e then 1 else 0), ⟨by omega, by simpa using hlo, ho.set (Nat.mod_lt _ (by omega)), htB, by split <;> omega, by rw [List.drop_set_of_lt (by omega)]; exact hd, hr⟩, by show v.length - (i + 1) < v.length - i; omega, (aG ⟨.refl _, .refl _, .refl _, .refl _, .refl _, .refl _, .refl _, .refl _, .refl _, .refl _, .refl _, .refl _, trivial⟩ ⟨rfl, rfl, trivial⟩)⟩
  have hb8_ := dF0 hb8
  have hie : i = v.length := by omega
  subst hie
  rw [List.take_length, hn1] at hS
  have hml1 := xJ (o := o) (p := j + k + 2) (c := c) (e := e) (A := 4294967296 ^ j * (g * wv v)) (S := wv u) (by omega) ho hc he (by rw [show j + k + 2 = j + (k + 2) by omega]; exact hS)
  obtain ⟨o1, ho1⟩ : ∃ o1, o1 = o.set (j + k + 2) ((o.getD (j + k + 2) 0 + 8589934592 - c - e) % 4294967296) := ⟨_, rfl⟩
  have hok1 : okW o1 := by rw [ho1]; exact ho.set (Nat.mod_lt _ (by omega))
  have hlo1 : o1.length = u.length := by rw [ho1]; simpa using hlo
  have hd1 : o1.drop (j + k + 3) = u.drop (j + k + 3) := by rw [ho1, List.drop_set_of_lt (by omega)]; exact hd
  rw [← ho1, show j + k + 2 + 1 = j + k + 3 by omega] at hml1
  refine aZ<|cz (ι := List Nat) (fun u1 => stL [(8, Z (s : Int)), (9, .p (.c (W v))), (10, Z ((k + 2 : Nat) : Int)), (11, .vec 60), (12, .vec 70), (13, Z ((j : Nat) : Int)), (15, .p (.c (.v (.int .u64 ((dq v u j : Nat) : Int)))))] [(60, WB 105 u1), (70, WB 105 q)]) (fun u1 => u1.length = u.length ∧ okW u1 ∧ wv u1 + 4294967296 ^ j * (dq v u j * wv v) = wv u) ?_ ?_
  ·refine ae hP<|ab (az (rfl : _ = AV.vec _))<|aj rfl<|aj rfl<|ab (bJ rfl rfl (c := ((j + k + 2 : Nat) : Int)) (by rw [iW0 _ (by omega)]; omega)) ?_
   refine ab (az (rfl : _ = AV.vec _))<|aj rfl<|aj rfl<|ab (bJ rfl rfl (c := ((j + k + 2 : Nat) : Int)) (by rw [iW0 _ (by omega)]; omega)) ?_
   refine c7 ?_
   refine ab (dj hT rfl rfl rfl rfl (by first | omega | (simp; omega)) rfl) ?_
   refine aj rfl<|ab (a8 hT rfl rfl rfl rfl (j0 hc)) ?_
   refine aj rfl<|ab (ah (vp _ _ _ (ho.getD _) hc he)) ?_
   refine ab (az (rfl : _ = AV.t _))<|ab (aC rfl (v := .c _) rfl)<|ab (aC rfl (v := .c _) rfl)<|c7 ?_
   refine de ai (ci hT rfl rfl rfl rfl rfl (by first | omega | (simp; omega)) ho1.symm) ?_
   refine ak rfl<|ag<|ae hP<|aj rfl<|ab (bV rfl rfl)<|ag ?_
   refine aw rfl (fun hb9 => ?_) (fun hb9 => ?_)
   ·have hb9_ := dT0 hb9
    have hbo : o.getD (j + k + 2) 0 < c + e := by
     rcases Nat.lt_or_ge (o.getD (j + k + 2) 0) (c + e) with h | h
     ·exact h
     rw [if_neg (by omega)] at *; omega
    rw [if_pos hbo, Nat.mul_one] at hml1
    have hgq := dg.bad hok1 hlo1 hd1 hg2 hml1
    have hg0 : 0 < g := by omega
    refine ae hP<|aj rfl<|ab (bC rfl rfl (c := ((g - 1 : Nat) : Int)) (by rw [IntWalk.u64_in _ (by omega)]; omega)) ?_
    refine ak rfl<|ag<|ae hP<|ak rfl<|ag<|ao<|ae hP<|aj rfl<|ab (aU hT rfl rfl rfl rfl)<|aj rfl<|ag<|aA<|bq (ι := List Nat × Nat × Nat) (fun ⟨o, i, c⟩ => stL [(8, Z (s : Int)), (9, .p (.c (W v))), (10, Z ((k + 2 : Nat) : Int)), (11, .vec 60), (12, .vec 70), (13, Z ((j : Nat) : Int)), (15, .p (.c (.v (.int .u64 ((g - 1 : Nat) : Int))))), (22, .p (.c (w32 (c)))), (203, .p (.c (W v))), (204, Z ((v.length : Nat) : Int)), (205, Z ((i : Nat) : Int))] [(60, WB 105 o), (70, WB 105 q)]) (fun ⟨o, i, c⟩ => i ≤ v.length ∧ o.length = u.length ∧ okW o ∧ c < 2 ∧ o.drop (j + k + 3) = u.drop (j + k + 3) ∧ wv o + 4294967296 ^ (j + i) * c = wv o1 + 4294967296 ^ j * wv (v.take i)) (fun ⟨_, i, _⟩ => v.length - i) (o1, 0, 0) ⟨Nat.zero_le _, hlo1, hok1, by omega, hd1, by simp [wv]⟩ (aG ⟨.refl _, .refl _, .refl _, .refl _, .refl _, .refl _, .refl _, .refl _, .refl _, .refl _, .refl _, trivial⟩ ⟨rfl, rfl, trivial⟩) ?_
    clear hbo hS hd he hc ho hlo hi ho1 hd1 hok1 hlo1
    rintro ⟨o, i, c⟩ ⟨hi, hlo, ho, hc, hd, hS2⟩
    refine ae hP<|ab (bi rfl rfl)<|ag<|ao ?_
    refine aw rfl (fun hb10 => ?_) (fun hb10 => ?_)
    ·have hb10_ := dT0 hb10
     have hlt : i < v.length := by omega
     have hvi := okv.getD i
     have hoi := ho.getD (j + i)
     have hc2 : (o.getD (j + i) 0 + v.getD i 0 + c) / 4294967296 < 2 := (Nat.div_lt_iff_lt_mul (by omega)).2 (by omega)
     refine aq<|ao<|aA<|ae hP<|aj rfl<|cI ?_
     refine cC hT rfl rfl rfl ?_
     refine ak rfl<|ak rfl<|ag<|av hP<|ab (az (rfl : _ = AV.vec _))<|aj rfl<|aj rfl<|ab (bJ rfl rfl (c := ((j + i : Nat) : Int)) (by rw [iW0 _ (by omega)]; omega)) ?_
     refine ab (az (rfl : _ = AV.vec _))<|aj rfl<|aj rfl<|ab (bJ rfl rfl (c := ((j + i : Nat) : Int)) (by rw [iW0 _ (by omega)]; omega)) ?_
     refine c7 ?_
     refine ab (dj hT rfl rfl rfl rfl (by first | omega | (simp; omega)) rfl) ?_
     refine aj rfl<|aj rfl<|ab (ah (Ci _ _ _ (ho.getD _) (okv.getD _) (by omega))) ?_
     refine ab (az (rfl : _ = AV.t _))<|ab (aC rfl (v := .c _) rfl)<|ab (aC rfl (v := .c _) rfl)<|c7 ?_
     refine de ai (ci hT rfl rfl rfl rfl rfl (by first | omega | (simp; omega)) rfl) ?_
     refine ak rfl<|ag<|av hP<|bH rfl rfl ?_
     refine aj rfl<|ag ?_
     have hr := wM (v := v) (i := i) (by omega) rfl hS2
     exact ⟨(o.set (j + i) ((o.getD (j + i) 0 + v.getD i 0 + c) % 4294967296), i + 1, (o.getD (j + i) 0 + v.getD i 0 + c) / 4294967296), ⟨by omega, by simpa using hlo, ho.set (Nat.mod_lt _ (by omega)), hc2, by rw [List.drop_set_of_lt (by omega)]; exact hd, hr⟩, by show v.length - (i + 1) < v.length - i; omega, (aG ⟨.refl _, .refl _, .refl _, .refl _, .refl _, .refl _, .refl _, .refl _, .refl _, .refl _, .refl _, trivial⟩ ⟨rfl, rfl, trivial⟩)⟩
    have hb10_ := dF0 hb10
    have hie : i = v.length := by omega
    subst hie
    rw [List.take_length, hn1] at hS2
    have hbk := dg.back (o := o.set (j + k + 2) ((o.getD (j + k + 2) 0 + c) % 4294967296)) (o1 := o) (c := c) (ho.set (Nat.mod_lt _ (by omega))) (by simpa using hlo) (by rw [List.drop_set_of_lt (by omega)]; exact hd) hgq hml1 (by rw [show j + k + 2 = j + (k + 2) by omega]; exact hS2) ho hc rfl hlo
    refine aZ<|av hP<|ab (az (rfl : _ = AV.vec _))<|aj rfl<|aj rfl<|ab (bJ rfl rfl (c := ((j + k + 2 : Nat) : Int)) (by rw [iW0 _ (by omega)]; omega)) ?_
    refine c7 ?_
    refine ab (dj hT rfl rfl rfl rfl (by first | omega | (simp; omega)) rfl) ?_
    refine aj rfl<|ab (bJ rfl rfl (c := (((o.getD (j + k + 2) 0 + c) % 4294967296 : Nat) : Int)) (by rw [IntKind.wrap_u32]; omega)) ?_
    refine c7 ?_
    refine de ai (ci hT rfl rfl rfl rfl rfl (by first | omega | (simp; omega)) rfl) ?_
    refine ag ?_
    exact ⟨_, ⟨by simpa using hlo, ho.set (Nat.mod_lt _ (by omega)), hbk⟩, (aG ⟨.refl _, .refl _, .refl _, .refl _, .refl _, .refl _, aO (by omega), trivial⟩ ⟨rfl, rfl, trivial⟩)⟩
   have hb9_ := dF0 hb9
   have hbo : ¬ o.getD (j + k + 2) 0 < c + e := by
    intro h
    rw [if_pos h] at *; omega
   rw [if_neg hbo, Nat.mul_zero, Nat.add_zero] at hml1
   have hgq := dg.good hg1 hml1
   refine aq ?_
   exact ⟨o1, ⟨hlo1, hok1, hgq ▸ hml1⟩, (aG ⟨.refl _, .refl _, .refl _, .refl _, .refl _, .refl _, aO (by omega), trivial⟩ ⟨rfl, rfl, trivial⟩)⟩
  rintro u1 ⟨hl1, hok1, hfin⟩
  refine av hP<|ab (az (rfl : _ = AV.vec _))<|aj rfl<|aj rfl<|ab (a8 hT rfl rfl rfl rfl (j0 dg.q_lt)) ?_
  refine c7 ?_
  refine de ai (ci hT rfl rfl rfl rfl rfl (by first | omega | (simp; omega)) rfl) ?_
  refine ag<|av hP<|aj rfl<|ab (bC rfl rfl (by first | exact iW0 _ (by omega) | rfl)) ?_
  refine ak rfl<|ag ?_
  have hdn := dg.done hok1 hl1 hfin
  exact ⟨(u1, q.set j (dq v u j), j), ⟨by omega, hok1, by simpa using hlq, hqok.set dg.q_lt, by simp; omega, hdn, yd (by omega) hM hfin⟩, by show j < j + 1; omega, (aG ⟨.refl _, .refl _, .refl _, .refl _, .refl _, .refl _, trivial⟩ ⟨rfl, rfl, trivial⟩)⟩
 have hb3_ := dF0 hb3
 have hie : i = 0 := by omega
 subst hie
 rw [List.drop_zero] at hlow hM
 rw [Nat.pow_zero, Nat.one_mul] at hM
 have hE : a / b = wv q ∧ a % b = wv u / 2 ^ s := EM (m := a) (b := b) (s := s) (q := wv q) (r := wv u) (hwv ▸ hM) (hwv ▸ hlow)
 have hlt2 : wv u < 4294967296 ^ (k + 2) := Nat.lt_trans hlow (by have := eL okv; rwa [hn1] at this)
 have htk : wv (u.take (k + 2)) = wv u := by
  have e := dZ u (k + 2) (by omega)
  rcases Nat.eq_zero_or_pos (wv (u.drop (k + 2))) with h | h
  ·rw [h, Nat.mul_zero] at e; omega
  have := Nat.le_mul_of_pos_right (4294967296 ^ (k + 2)) h
  omega
 have hshl : (wl (wv (u.take (k + 2)))).length ≤ 1099511627776 := by
  have := gq (htk.symm ▸ hlt2 : wv (u.take (k + 2)) < 4294967296 ^ (k + 2))
  omega
 refine aZ<|cH (t := 12) rfl rfl ?_
 refine cH (t := 11) rfl rfl ?_
 refine ae hP<|aj rfl<|ab (ah (eD _ hqok)) ?_
 refine aj rfl<|aj rfl<|ab (kb hT rfl rfl rfl rfl rfl rfl (by omega)) ?_
 refine ab (ah (eD _ (hok.take _))) ?_
 refine aj rfl<|ab (ah (D4 (wl (wv (u.take (k + 2)))) s (bI _) hshl hs32)) ?_
 refine ak rfl<|ak rfl<|ag<|am<|E11 rfl rfl rfl ?_
 exact aH (by rw [bE, htk, hE.1, hE.2])
end
section
open Go Go.AM
theorem Ae (m : Nat) :
  aF Tryz.prog 254 [.p (.c (nt m))] (Z (a6 m)) := by
 refine aL Tryz.func254 rfl rfl rfl rfl ?_
 refine iJ (t := 0) rfl rfl (fun hlen => ?_)
 have hb32 : ∀ x : Nat, x < 4294967296 → a6 x ≤ 32 := fun x h => fO (k := 32) h
 refine ae hP<|ak rfl<|ag<|ao<|ae hP<|aj rfl<|ab (aU hT rfl rfl rfl rfl)<|ab (bp rfl rfl)<|ag ?_
 refine aw rfl (fun hb1 => ?_) (fun hb1 => ?_)
 ·have hb1_ := bT hb1
  refine ae hP<|ak rfl<|ag<|am<|E1 rfl rfl ?_
  have h0 : wl m = [] := by
   rcases h : wl m with _ | ⟨x, r⟩
   ·rfl
   rw [h] at hb1_; simp at hb1_; omega
  have : m = 0 := by rw [← bE m, h0]; rfl
  exact aO (by rw [this]; rfl)
 have hb1_ := bF hb1
 refine aq<|ae hP<|aj rfl<|ab (aU hT rfl rfl rfl rfl)<|ab (bC rfl rfl (by first | exact iW0 _ (by omega) | rfl)) ?_
 refine ab (bU rfl rfl (by first | exact iW0 _ (by omega) | rfl)) ?_
 refine aj rfl<|aj rfl<|ab (aU hT rfl rfl rfl rfl)<|ab (bC rfl rfl (by first | exact iW0 _ (by omega) | rfl)) ?_
 refine cI ?_
 refine cC hT rfl rfl rfl ?_
 refine ab (ah (B3 _ ((bI m).getD _))) ?_
 refine ab (bJ rfl rfl (iW0 _ (by have := hb32 _ ((bI m).getD (((wl m).length : Int) - 1).toNat); omega))) ?_
 refine ak rfl<|ag<|am<|E1 rfl rfl ?_
 obtain ⟨k, hk⟩ : ∃ k, (wl m).length = k + 1 := ⟨(wl m).length - 1, by omega⟩
 have hkk : (((wl m).length : Int) - 1).toNat = k := by omega
 exact aO (by rw [hkk, tn hk]; omega)
end
section
open Go Go.AM
theorem iS (neg : Bool) (ws : List Nat) (h : okW ws) :
  aF Tryz.prog 63 [B neg, .p (.c (W ws))] (I (sg neg (wv ws))) := by
 refine aL Tryz.func63 rfl rfl rfl rfl ?_
 refine ae hP<|an ai (ay hT rfl rfl)<|ag<|ae hP<|aj rfl<|ab (ah (eD _ h)) ?_
 refine ak rfl<|ag<|ao<|ae hP<|aj rfl<|ab (aU hT rfl rfl rfl rfl)<|ab (bp rfl rfl)<|ag ?_
 refine aw rfl (fun hb1 => ?_) (fun hb1 => ?_)
 ·have hb1_ := bT hb1
  refine ae hP<|ab (aV hT rfl rfl rfl (es := [_, _]) rfl)<|aE hT rfl<|ag<|am<|E2 hT rfl rfl rfl rfl rfl rfl rfl ?_
  have h0 : wv ws = 0 := mf (by omega)
  rw [h0, ul]
  exact .refl _
 have hb1_ := bF hb1
 refine aq<|ae hP<|aj rfl<|aj rfl<|ab (aV hT rfl rfl rfl (es := [_, _]) rfl)<|aE hT rfl<|ag<|am<|E2 hT rfl rfl rfl rfl rfl rfl rfl ?_
 have h0 : 0 < wv ws := by
  rcases Nat.eq_zero_or_pos (wv ws) with e | e
  ·rw [e] at hb1_; exact absurd rfl hb1_
  exact e
 exact aH (by show _ = AV.p (.a [zn _, zm _]); rw [Be h0, Bf])
theorem mB (x : Int) :
  aF Tryz.prog 62 [I x] (I x.natAbs) := by
 refine aL Tryz.func62 rfl rfl rfl rfl ?_
 refine ae hP<|an ai (aK rfl rfl)<|an ai (ay hT rfl rfl)<|ag<|ae hP<|aD hT rfl<|aY hT rfl rfl rfl rfl ?_
 refine ab (ah (iS _ (wl x.natAbs) (bI _))) ?_
 refine aE hT rfl<|ag<|am<|E2 hT rfl rfl rfl rfl rfl rfl rfl ?_
 exact Sub.I (yD x)
theorem jt (x : Int) :
  aF Tryz.prog 39 [I x] (I (-x)) := by
 refine aL Tryz.func39 rfl rfl rfl rfl ?_
 refine ae hP<|an ai (aK rfl rfl)<|an ai (ay hT rfl rfl)<|ag<|ae hP<|aD hT rfl<|aY hT rfl rfl rfl rfl ?_
 refine ab (bA rfl)<|aD hT rfl<|aY hT rfl rfl rfl rfl ?_
 refine ab (ah (iS _ (wl x.natAbs) (bI _))) ?_
 refine aE hT rfl<|ag<|am<|E2 hT rfl rfl rfl rfl rfl rfl rfl ?_
 exact Sub.I (xG x)
theorem dP (x y : Int) (hx : L 45 x) (hy : L 45 y) :
  aF Tryz.prog 38 [I x, I y] (I (x + y)) := by
 refine aL Tryz.func38 rfl rfl rfl rfl ?_
 refine ae hP<|an ai (aK rfl rfl)<|an ai (aK rfl rfl)<|an ai (ay hT rfl rfl)<|ag<|ae hP<|aD hT rfl<|aY hT rfl rfl rfl rfl ?_
 refine aD hT rfl<|aY hT rfl rfl rfl rfl ?_
 refine ak rfl<|ak rfl<|ag<|ao<|aA<|ae hP<|aD hT rfl<|aY hT rfl rfl rfl rfl ?_
 refine aD hT rfl<|aY hT rfl rfl rfl rfl ?_
 refine ab (r6 hT rfl rfl rfl rfl)<|ak rfl<|ag ?_
 refine aw rfl (fun hb1 => ?_) (fun hb1 => ?_)
 ·refine ae hP<|aD hT rfl<|aY hT rfl rfl rfl rfl ?_
  refine aj rfl<|aj rfl<|ab (ah (D7 (wl x.natAbs) (wl y.natAbs) (bI _) (bI _) (sz hx) (sz hy))) ?_
  refine ab (ah (iS _ _ (bI _))) ?_
  refine aE hT rfl<|ag<|am<|E2 hT rfl rfl rfl rfl rfl rfl rfl ?_
  exact Sub.I (by rw [bE]; exact tA (by assumption))
 refine ae hP<|aj rfl<|aj rfl<|ab (ah (oV x.natAbs y.natAbs)) ?_
 refine ab (bi rfl rfl)<|ak rfl<|ag ?_
 refine aw rfl (fun hb2 => ?_) (fun hb2 => ?_)
 ·have hb2_ := dT0 hb2
  have hc := HZ (m := x.natAbs) (n := y.natAbs) (by assumption)
  refine ae hP<|aD hT rfl<|aY hT rfl rfl rfl rfl ?_
  refine aj rfl<|aj rfl<|ab (ah (uO (wl y.natAbs) (wl x.natAbs) (bI _) (bI _) (sz hy) (fk (by omega)) (by rw [bE, bE]; omega))) ?_
  refine ab (ah (iS _ _ (bI _))) ?_
  refine aE hT rfl<|ag<|am<|E2 hT rfl rfl rfl rfl rfl rfl rfl ?_
  exact Sub.I (by rw [bE]; exact yA (by assumption) hc)
 have hb2_ := dF0 hb2
 have hc := H0 (m := x.natAbs) (n := y.natAbs) (by assumption)
 refine aq<|ae hP<|aD hT rfl<|aY hT rfl rfl rfl rfl ?_
 refine aj rfl<|aj rfl<|ab (ah (uO (wl x.natAbs) (wl y.natAbs) (bI _) (bI _) (sz hx) (fk hc) (by rw [bE, bE]; exact hc))) ?_
 refine ab (ah (iS _ _ (bI _))) ?_
 refine aE hT rfl<|ag<|am<|E2 hT rfl rfl rfl rfl rfl rfl rfl ?_
 exact Sub.I (by rw [bE]; exact yB (by assumption) hc)
theorem js (x y : Int) (hx : L 45 x) (hy : L 45 y) :
  aF Tryz.prog 108 [I x, I y] (I (x - y)) := by
 refine aL Tryz.func108 rfl rfl rfl rfl ?_
 refine ae hP<|an ai (aK rfl rfl)<|an ai (aK rfl rfl)<|an ai (ay hT rfl rfl)<|ag<|ae hP<|au hT rfl<|au hT rfl<|ab (ah (jt y)) ?_
 refine ab (ah (dP x (-y) hx hy.neg)) ?_
 refine aE hT rfl<|ag<|am<|E2 hT rfl rfl rfl rfl rfl rfl rfl ?_
 exact Sub.I (by omega)
theorem dG (x y : Int) (hx : L 45 x) (hy : L 45 y) :
  aF Tryz.prog 16 [I x, I y] (I (x * y)) := by
 refine aL Tryz.func16 rfl rfl rfl rfl ?_
 refine ae hP<|an ai (aK rfl rfl)<|an ai (aK rfl rfl)<|an ai (ay hT rfl rfl)<|ag<|ae hP<|aD hT rfl<|aY hT rfl rfl rfl rfl ?_
 refine aD hT rfl<|aY hT rfl rfl rfl rfl ?_
 refine ab (iQ hT rfl rfl rfl rfl)<|aD hT rfl<|aY hT rfl rfl rfl rfl ?_
 refine aD hT rfl<|aY hT rfl rfl rfl rfl ?_
 refine ab (ah (D5 (wl x.natAbs) (wl y.natAbs) (bI _) (bI _) (sz hx) (sz hy))) ?_
 refine ab (ah (iS _ _ (bI _))) ?_
 refine aE hT rfl<|ag<|am<|E2 hT rfl rfl rfl rfl rfl rfl rfl ?_
 exact Sub.I (by rw [bE]; exact xH x y)
end
section
open Go Go.AM
theorem db (x : Int) :
  aF Tryz.prog 58 [I x] (Z (sgn x)) := by
 refine aL Tryz.func58 rfl rfl rfl rfl ?_
 refine ae hP<|an ai (aK rfl rfl)<|ak rfl<|ag<|ao<|aA<|ae hP<|aD hT rfl<|aY hT rfl rfl rfl rfl ?_
 refine ab (aU hT rfl rfl rfl rfl)<|ab (bp rfl rfl)<|ak rfl<|ag ?_
 refine aw rfl (fun hb1 => ?_) (fun hb1 => ?_)
 ·have hb1_ := bT hb1
  refine ae hP<|ak rfl<|ag<|am<|E1 rfl rfl ?_
  have h0 := wl_len_zero.1 hb1_
  exact aO (by rw [h0]; rfl)
 have hb1_ := bF hb1
 refine ae hP<|aD hT rfl<|aY hT rfl rfl rfl rfl ?_
 refine ak rfl<|ag ?_
 refine aw rfl (fun hb2 => ?_) (fun hb2 => ?_)
 ·refine ae hP<|ak rfl<|ag<|am<|E1 rfl rfl ?_
  exact aO (jp hb2).symm
 refine aq<|ae hP<|ak rfl<|ag<|am<|E1 rfl rfl ?_
 have h0 : x ≠ 0 := fun e => hb1_ (wl_len_zero.2 e)
 exact aO (oD h0 hb2).symm
theorem dy (x y : Int) :
  aF Tryz.prog 14 [I x, I y] (Z (bu x y)) := by
 refine aL Tryz.func14 rfl rfl rfl rfl ?_
 refine ae hP<|an ai (aK rfl rfl)<|an ai (aK rfl rfl)<|ak rfl<|ag<|ao<|ae hP<|aD hT rfl<|aY hT rfl rfl rfl rfl ?_
 refine aD hT rfl<|aY hT rfl rfl rfl rfl ?_
 refine ab (iQ hT rfl rfl rfl rfl)<|ag ?_
 refine aw rfl (fun hb1 => ?_) (fun hb1 => ?_)
 ·refine ae hP<|au hT rfl<|ab (ah (db _)) ?_
  refine au hT rfl<|ab (ah (db _)) ?_
  refine ab (ah (mU _ _)) ?_
  refine ak rfl<|ag<|am<|E1 rfl rfl ?_
  exact aO (AX hb1)
 refine aq<|ae hP<|aD hT rfl<|aY hT rfl rfl rfl rfl ?_
 refine aD hT rfl<|aY hT rfl rfl rfl rfl ?_
 refine ab (ah (oV x.natAbs y.natAbs)) ?_
 refine au hT rfl<|ab (ah (db _)) ?_
 refine ab (bj hT rfl rfl rfl (es := [_, _]) rfl rfl rfl)<|ab (ah (GZ _ _)) ?_
 refine ab (bU rfl rfl (AW hb1)) ?_
 refine ak rfl<|ag<|am<|E1 rfl rfl ?_
 exact .refl _
theorem sC (x : Int) :
  aF Tryz.prog 242 [I x] (Z (a6 x.natAbs)) := by
 refine aL Tryz.func242 rfl rfl rfl rfl ?_
 refine ae hP<|an ai (aK rfl rfl)<|ak rfl<|ag<|ae hP<|aD hT rfl<|aY hT rfl rfl rfl rfl ?_
 refine ab (ah (Ae x.natAbs)) ?_
 refine ak rfl<|ag<|am<|E1 rfl rfl ?_
 exact .refl _
theorem lR (x : Int) (hx : L 45 x) :
  aF Tryz.prog 100 [I x] (B true) := by
 have hlen := sz hx
 refine aL Tryz.func100 rfl rfl rfl rfl ?_
 refine ae hP<|an ai (aK rfl rfl)<|ak rfl<|ag<|ao<|ae hP<|aD hT rfl<|aY hT rfl rfl rfl rfl ?_
 refine ab (aU hT rfl rfl rfl rfl)<|ab (bp rfl rfl)<|ag ?_
 refine aw rfl (fun hb1 => ?_) (fun hb1 => ?_)
 ·have hb1_ := bT hb1
  refine ae hP<|aD hT rfl<|aY hT rfl rfl rfl rfl ?_
  refine ab (bA rfl)<|ak rfl<|ag<|am<|E1 rfl rfl ?_
  have h0 := wl_len_zero.1 hb1_
  exact aH (by rw [h0]; rfl)
 have hb1_ := bF hb1
 refine aq<|ae hP<|aD hT rfl<|aY hT rfl rfl rfl rfl ?_
 refine aD hT rfl<|aY hT rfl rfl rfl rfl ?_
 refine ab (aU hT rfl rfl rfl rfl)<|ab (bC rfl rfl (by first | exact iW0 _ (by omega) | rfl)) ?_
 refine cI ?_
 refine cC hT rfl rfl rfl ?_
 refine ab (bw rfl rfl)<|ak rfl<|ag<|am<|E1 rfl rfl ?_
 have h1 : (wl x.natAbs).length ≠ 0 := fun e => hb1_ (by rw [e]; rfl)
 have h2 : (((wl x.natAbs).length : Int) - 1).toNat = (wl x.natAbs).length - 1 := by omega
 rw [h2]
 have h3 := nF (k := x.natAbs) (n := (wl x.natAbs).length - 1) (by omega)
 exact aH (by rw [show ((((wl x.natAbs).getD ((wl x.natAbs).length - 1) 0 : Nat) : Int) != 0) = true from bne_iff_ne.2 (by omega)])
theorem ei (z : Int) (hz : bv z) :
  aF Tryz.prog 136 [.p (.c (.v (.int .i64 z)))] (I z) := by
 have hz1 : z.natAbs < 18446744073709551616 := by unfold bv at hz; omega
 refine aL Tryz.func136 rfl rfl rfl rfl ?_
 refine ae hP<|an ai (ay hT rfl rfl)<|ag<|ae hP<|aj rfl<|aj rfl<|ab (gx rfl rfl)<|ab (oa rfl rfl)<|ab (a8 hT rfl rfl rfl rfl (c := ((z.natAbs : Nat) : Int)) (Cr hz)) ?_
 refine ak rfl<|ag<|ae hP<|aj rfl<|ab (bi rfl rfl)<|aj rfl<|ab (a8 hT rfl rfl rfl rfl (ee _)) ?_
 refine aj rfl<|ab (c8 (j := 32) rfl rfl (by decide)) ?_
 refine ab (a8 hT rfl rfl rfl rfl (c := ((z.natAbs / 2 ^ 32 : Nat) : Int)) (by simp only [IntKind.wrap_u32]; omega)) ?_
 refine ab (bj hT rfl rfl rfl (es := [_, _]) rfl rfl rfl)<|ab (ah (iS _ [z.natAbs % 4294967296, z.natAbs / 2 ^ 32] (oT (by omega)))) ?_
 refine aE hT rfl<|ag<|am<|E2 hT rfl rfl rfl rfl rfl rfl rfl ?_
 exact Sub.I (by rw [qM]; exact vU)
theorem o3 (neg : Bool) (m : Nat) : aF Tryz.prog 63 [B neg, .p (.c (nt m))] (I (sg neg m)) := by
 have h := iS neg (wl m) (bI m)
 rwa [bE] at h
theorem dJ (x y : Int) (hx : L 44 x) (hy : L 44 y) (h0 : y ≠ 0) :
  aF Tryz.prog 113 [I x, I y] (.t [PI (x / y), PI (x % y), PE 0]) := by
 have hq : L 44 (sg (!(decide (x < 0) == decide (y < 0))) (x.natAbs / y.natAbs)) := L.of_le hx (by rw [nJ]; exact Nat.div_le_self _ _)
 have hr : L 44 (sg (decide (x < 0)) (x.natAbs % y.natAbs)) := L.of_le hx (by rw [nJ]; exact Nat.mod_le _ _)
 refine aL Tryz.func113 rfl rfl rfl rfl ?_
 refine ae hP<|an ai (aK rfl rfl)<|an ai (aK rfl rfl)<|an ai (ay hT rfl rfl)<|an ai (ay hT rfl rfl)<|ak rfl<|ag<|ao<|ae hP<|aD hT rfl<|aY hT rfl rfl rfl rfl ?_
 refine ab (aU hT rfl rfl rfl rfl)<|ab (bp rfl rfl)<|ag ?_
 refine aw rfl (fun hb1 => ?_) (fun hb1 => ?_)
 ·have hb1_ := bT hb1
  exact absurd (wl_len_zero.1 hb1_) h0
 have hb1_ := bF hb1
 refine aq<|ae hP<|aD hT rfl<|aY hT rfl rfl rfl rfl ?_
 refine aD hT rfl<|aY hT rfl rfl rfl rfl ?_
 refine ab (ah (D6 x.natAbs y.natAbs (sz (hx.mono (by decide))) (by omega))) ?_
 refine ab (az (rfl : _ = AV.t _))<|ab (aC rfl (v := .c _) rfl)<|ab (aC rfl (v := .c _) rfl)<|ak rfl<|ak rfl<|ag<|ae hP<|aD hT rfl<|aY hT rfl rfl rfl rfl ?_
 refine aD hT rfl<|aY hT rfl rfl rfl rfl ?_
 refine ab (iQ hT rfl rfl rfl rfl)<|aj rfl<|ab (ah (o3 _ _)) ?_
 refine aD hT rfl<|aY hT rfl rfl rfl rfl ?_
 refine aj rfl<|ab (ah (o3 _ _)) ?_
 refine an ai (ay hT rfl rfl)<|an ai (ay hT rfl rfl)<|aE hT rfl<|aE hT rfl<|ag<|ao<|ae hP<|aD hT rfl<|aY hT rfl rfl rfl rfl ?_
 refine ag ?_
 refine aw rfl (fun hb2 => ?_) (fun hb2 => ?_)
 ·have e1 := (jo h0 (dT0 hb2)).1
  have e2 := (jo h0 (dT0 hb2)).2
  refine ae hP<|au hT rfl<|au hT rfl<|ab (ah (mB _)) ?_
  refine ab (ah (dP _ _ (hr.mono (by decide)) (hy.abs.mono (by decide)))) ?_
  refine aE hT rfl<|ag<|av hP<|au hT rfl<|au hT rfl<|ab (ah (db _)) ?_
  refine ab (ah (ei (sgn y) (by unfold sgn; split <;> (try split) <;> decide))) ?_
  refine ab (ah (js _ _ (hq.mono (by decide)) ((Ck y).mono (by decide)))) ?_
  refine aE hT rfl<|ag<|ae hP<|au hT rfl<|au hT rfl<|aE hT rfl<|aE hT rfl<|ak rfl<|ag<|am ?_
  refine cZ rfl (.inr rfl) (aQ hT rfl rfl rfl rfl (cs := [_, _]) rfl rfl) (aQ hT rfl rfl rfl rfl (cs := [_, _]) rfl rfl) (bO rfl) ?_ bt
  exact aH (by rw [e1, e2])
 have e1 := (jm h0 (dF0 hb2)).1
 have e2 := (jm h0 (dF0 hb2)).2
 refine aq<|ae hP<|au hT rfl<|au hT rfl<|aE hT rfl<|aE hT rfl<|ak rfl<|ag<|am ?_
 refine cZ rfl (.inr rfl) (aQ hT rfl rfl rfl rfl (cs := [_, _]) rfl rfl) (aQ hT rfl rfl rfl rfl (cs := [_, _]) rfl rfl) (bO rfl) ?_ bt
 exact aH (by rw [e1, e2])
theorem Ew (x y : Int) (hx : L 44 x) (hy : L 44 y) (h0 : y ≠ 0) :
  aF Tryz.prog 61 [I x, I y] (I (x % y)) := by
 refine aL Tryz.func61 rfl rfl rfl rfl ?_
 refine ae hP<|an ai (aK rfl rfl)<|an ai (aK rfl rfl)<|an ai (ay hT rfl rfl)<|ag<|ae hP<|au hT rfl<|au hT rfl<|ab (ah (dJ x y hx hy h0)) ?_
 refine ab (az (rfl : _ = AV.t _))<|ab (aC rfl (v := .a _) rfl)<|ab (aC rfl (v := .a _) rfl)<|ab (aC rfl (v := .c _) rfl)<|an ai (ay hT rfl rfl)<|an ai (ay hT rfl rfl)<|aE hT rfl<|aE hT rfl<|ak rfl<|ag<|ae hP<|au hT rfl<|aE hT rfl<|ag<|am<|E2 hT rfl rfl rfl rfl rfl rfl rfl ?_
 exact .refl _
theorem mA (x y : Int) (hx : L 44 x) (hy : L 44 y) :
  aF Tryz.prog 15 [I x, I y] (I (Int.gcd x y)) := by
 refine aL Tryz.func15 rfl rfl rfl rfl ?_
 refine ae hP<|an ai (aK rfl rfl)<|an ai (aK rfl rfl)<|an ai (ay hT rfl rfl)<|ag<|ao<|aA<|bq (ι := Int × Int) (fun p => stL [(2, .loc 2 0), (3, .loc 3 0), (4, .loc 4 0)] [(2, ⟨false, 1, 29, [zn (p.1), zm (p.1)]⟩), (3, ⟨false, 1, 29, [zn (p.2), zm (p.2)]⟩), (4, ⟨false, 1, 29, [zn (0), zm (0)]⟩)]) (fun p => L 44 p.1 ∧ L 44 p.2 ∧ Int.gcd p.1 p.2 = Int.gcd x y) (fun p => p.2.natAbs) (x, y) ⟨hx, hy, rfl⟩ (aG ⟨.refl _, .refl _, .refl _, trivial⟩ ⟨rfl, rfl, rfl, trivial⟩) ?_
 rintro ⟨a, b⟩ ⟨ha, hb, hg⟩
 refine ao<|ae hP<|aD hT rfl<|aY hT rfl rfl rfl rfl ?_
 refine ab (aU hT rfl rfl rfl rfl)<|ab (bV rfl rfl)<|ag ?_
 refine aw rfl (fun hb1 => ?_) (fun hb1 => ?_)
 ·have hb1_ := dT0 hb1
  have h0 : b ≠ 0 := fun e => by
   have e2 : 0 < ((wl b.natAbs).length : Int) := hb1_
   rw [e] at e2; exact absurd e2 (by decide)
  refine aq<|aA<|av hP<|au hT rfl<|au hT rfl<|au hT rfl<|ab (ah (Ew a b ha hb h0)) ?_
  refine aE hT rfl<|aE hT rfl<|ag ?_
  refine ⟨(b, a % b), ⟨hb, (ha.emod hb).mono (by decide), ?_⟩, ?_, aG ⟨.refl _, .refl _, .refl _, trivial⟩ ⟨rfl, rfl, rfl, trivial⟩⟩
  ·rw [← hg]; exact sK a b
  have h1 := Int.emod_nonneg a h0
  have h2 := Int.emod_lt a h0
  show (a % b).natAbs < b.natAbs
  omega
 have hb1_ := dF0 hb1
 refine aZ<|ae hP<|au hT rfl<|ab (ah (mB _)) ?_
 refine aE hT rfl<|ag<|am<|E2 hT rfl rfl rfl rfl rfl rfl rfl ?_
 have h0 : b = 0 := by
  have e2 : ¬ 0 < ((wl b.natAbs).length : Int) := hb1_
  have : ((wl b.natAbs).length : Int) = 0 := by omega
  exact wl_len_zero.1 this
 exact Sub.I (by rw [← hg, h0]; simp)
theorem wn (x : Int) (hx : L 44 x) :
  aF Tryz.prog 243 [I x, Z 1] (I x) := by
 refine aL Tryz.func243 rfl rfl rfl rfl ?_
 refine ae hP<|an ai (aK rfl rfl)<|an ai (ay hT rfl rfl)<|ag<|ae hP<|ab (ah (ei 1 (by decide))) ?_
 refine an ai (ay hT rfl rfl)<|aE hT rfl<|ag<|ao<|aA<|dU 2 ?_
 refine ao<|ae hP<|aj rfl<|ab (bV rfl rfl)<|ag<|aX rfl (by decide) ?_
 refine aq<|ao<|aA<|ao<|ae hP<|aj rfl<|ab (b5 rfl rfl (by first | decide | omega) (by first | exact Int.tmod_eq_emod_of_nonneg (by omega) | rfl)) ?_
 refine ab (bp rfl rfl)<|ag<|aX rfl rfl<|av hP<|au hT rfl<|au hT rfl<|ab (ah (dG 1 x (L.mono (n := 0) (by decide) (by decide)) (hx.mono (by decide)))) ?_
 refine aE hT rfl<|ag<|ae hP<|aj rfl<|ab (bV rfl rfl)<|ag<|aT rfl rfl<|aq<|av hP<|aj rfl<|ab (dl rfl rfl (by first | decide | omega) (by first | exact iW0 _ (by omega) | rfl)) ?_
 refine ak rfl<|ag<|ao<|ae hP<|aj rfl<|ab (bV rfl rfl)<|ag<|aT rfl (by decide) ?_
 refine aZ<|ae hP<|au hT rfl<|aE hT rfl<|ag<|am<|E2 hT rfl rfl rfl rfl rfl rfl rfl ?_
 exact Sub.I (by rw [Int.one_mul])
end
section
open Go Go.AM
theorem xV (x : Int) (hx : L 40 x) :
  aF Tryz.prog 212 [I x, Z 2] (.t [PI (rootV x), PE (ji x)]) := by
 have hbl := yp hx
 refine aL Tryz.func212 rfl rfl rfl rfl ?_
 refine ae hP<|an ai (aK rfl rfl)<|an ai (ay hT rfl rfl)<|ak rfl<|ag<|ae hP<|au hT rfl<|ab (ah (sC x)) ?_
 refine ak rfl<|ag<|ao<|aA<|ae hP<|aD hT rfl<|aY hT rfl rfl rfl rfl ?_
 refine aj rfl ?_
 refine bd (t := 16) rfl (fun hg1 => ?_) (fun hg1 => ?_)
 ·have hx0 : x < 0 := dT0 hg1
  refine a7 hg1 ?_
  refine a7 hg1 ?_
  refine ab (aN rfl hg1 (rfl : _ = AV.p (.c _)))<|ak rfl<|ag<|aX rfl rfl<|ae hP<|ab (aV hT rfl rfl rfl (es := [_, _]) rfl)<|aE hT rfl<|ak rfl<|ag<|am ?_
  refine cp rfl (.inr rfl) (aQ hT rfl rfl rfl rfl (cs := [_, _]) rfl rfl) (bO rfl) ?_ bt
  exact aH (by rw [(gj hx0).1, (gj hx0).2])
 have hx0 : ¬ x < 0 := dF0 hg1
 refine aB hg1 (az (rfl : _ = AV.p (.c _))) ?_
 refine aB hg1 (bi rfl rfl) ?_
 refine ab (aP rfl hg1 (rfl : _ = AV.p (.c _)))<|ak rfl<|ag<|aT rfl rfl<|ae hP<|aj rfl<|ab (bp rfl rfl)<|aj rfl ?_
 refine bd (t := 24) rfl (fun hg2 => ?_) (fun hg2 => ?_)
 ·have hg2_ := bT hg2
  refine a7 hg2 ?_
  refine a7 hg2 ?_
  refine ab (aN rfl hg2 (rfl : _ = AV.p (.c _)))<|ak rfl<|ag<|aX rfl rfl<|ae hP<|au hT rfl<|aE hT rfl<|ak rfl<|ag<|am ?_
  refine cp rfl (.inr rfl) (aQ hT rfl rfl rfl rfl (cs := [_, _]) rfl rfl) (bO rfl) ?_ bt
  have e := xf hg2_
  exact aH (by rw [e]; rfl)
 have hg2_ := bF hg2
 refine aB hg2 (az (rfl : _ = AV.p (.c _))) ?_
 refine aB hg2 (bp rfl rfl) ?_
 refine ab (aP rfl hg2 (rfl : _ = AV.p (.c _)))<|ak rfl<|ag<|aT rfl rfl<|ae hP<|aj rfl<|aj rfl<|ab (dc rfl rfl)<|ak rfl<|ag ?_
 refine aw rfl (fun hb3 => ?_) (fun hb3 => ?_)
 ·have hb3_ := dT0 hb3
  refine ae hP<|ab (ah (ei _ (by decide))) ?_
  refine aE hT rfl<|ak rfl<|ag<|am ?_
  refine cp rfl (.inr rfl) (aQ hT rfl rfl rfl rfl (cs := [_, _]) rfl rfl) (bO rfl) ?_ bt
  exact aH (by rw [vA hx0 hg2_ hb3_, gk hx0])
 have hb3_ := dF0 hb3
 have hx1 : 0 < x := by
  rcases Int.lt_trichotomy x 0 with e | e | e
  ·exact absurd e hx0
  ·rw [e] at hg2_; exact absurd rfl hg2_
  exact e
 refine aq<|ae hP<|ab (bj hT rfl rfl rfl (es := [_]) rfl rfl rfl)<|aj rfl<|aj rfl<|bH rfl rfl ?_
 refine ab (bC rfl rfl (by first | exact iW0 _ (by omega) | rfl)) ?_
 refine aj rfl<|ab (dl rfl rfl (by decide) (Ko _ hbl)) ?_
 refine ab (ah (oU [1] ((a6 x.natAbs + 1) / 2) uK (by decide) (by omega))) ?_
 refine ab (ah (o3 _ _)) ?_
 refine an ai (ay hT rfl rfl)<|aE hT rfl<|ag<|aA<|bq (ι := Int) (fun s => stL [(1, Z 2), (2, .loc 2 0), (4, .loc 4 0), (7, .loc 7 0)] [(2, ⟨false, 1, 29, [zn (x), zm (x)]⟩), (4, ⟨false, 1, 29, [zn (0), zm (0)]⟩), (7, ⟨false, 1, 29, [zn (s), zm (s)]⟩)]) (fun s => 0 < s ∧ rootV x ≤ s ∧ s ≤ 2 * x) (fun s => s.toNat) (2 ^ ((a6 x.natAbs + 1) / 2) : Nat) ?_ (aG ⟨.refl _, .refl _, .refl _, .refl _, trivial⟩ ⟨rfl, rfl, ?_, trivial⟩) ?_
 ·exact nM hx1
 ·exact congrArg (fun z => some (⟨false, 1, 29, [zn z, zm z]⟩ : Blk)) (Gl _)
 intro s hs
 have ix : LB x 40 := ⟨hx⟩
 have is : LB s 41 := ⟨L.of_le (b := 2 * x) (lz (by rfl)) (by omega)⟩
 refine aA<|ae hP<|au hT rfl<|au hT rfl<|aj rfl<|ab (bC rfl rfl (by first | exact iW0 _ (by omega) | rfl)) ?_
 refine ab (ah (wn s lz)) ?_
 refine ab (ah (dJ x s lz lz (by omega))) ?_
 refine ab (az (rfl : _ = AV.t _))<|ab (aC rfl (v := .a _) rfl)<|ab (aC rfl (v := .a _) rfl)<|ab (aC rfl (v := .c _) rfl)<|an ai (ay hT rfl rfl)<|an ai (ay hT rfl rfl)<|aE hT rfl<|aE hT rfl<|ak rfl<|ag<|ae hP<|au hT rfl<|aj rfl<|ab (bC rfl rfl (by first | exact iW0 _ (by omega) | rfl)) ?_
 refine ab (ah (ei _ (by decide))) ?_
 refine ab (ah (dG _ _ lz lz)) ?_
 refine au hT rfl<|ab (ah (dP _ _ lz lz)) ?_
 refine aj rfl<|ab (ah (ei _ (by decide))) ?_
 refine ab (ah (dJ _ 2 lz lz (by decide))) ?_
 refine ab (az (rfl : _ = AV.t _))<|ab (aC rfl (v := .a _) rfl)<|ab (aC rfl (v := .a _) rfl)<|ab (aC rfl (v := .c _) rfl)<|aE hT rfl<|ag<|ao<|ae hP<|au hT rfl<|au hT rfl<|ab (ah (dy _ _)) ?_
 refine ab (dc rfl rfl)<|ag ?_
 refine aw rfl (fun hb4 => ?_) (fun hb4 => ?_)
 ·have hb4_ := dT0 hb4
  have hge := kg hb4_
  refine ae hP<|au hT rfl<|aE hT rfl<|ak rfl<|ag<|am ?_
  refine cp rfl (.inr rfl) (aQ hT rfl rfl rfl rfl (cs := [_, _]) rfl rfl) (bO rfl) ?_ bt
  have e := pG hx1 hs.1 hs.2.1 hge
  exact aH (by rw [e, gk hx0])
 have hb4_ := dF0 hb4
 have hge := jd hb4_
 refine aq<|av hP<|au hT rfl<|aE hT rfl<|ag ?_
 refine ⟨(s * 1 + x / s) / 2, ⟨(jR hx1 hs.1).2, (jR hx1 hs.1).1, Int.le_trans (Int.le_of_lt hge) hs.2.2⟩, ?_, aG ⟨.refl _, .refl _, .refl _, .refl _, trivial⟩ ⟨rfl, rfl, rfl, trivial⟩⟩
 have h3 := (jR hx1 hs.1).2
 show ((s * 1 + x / s) / 2).toNat < s.toNat
 omega
theorem Ap (x : Int) (hx : L 40 x) :
  aF Tryz.prog 178 [I x] (.t [PI (rootV x), PI (if x < 0 then 0 else x - rootV x * rootV x), PE (ji x)]) := by
 have ix : LB x 40 := ⟨hx⟩
 refine aL Tryz.func178 rfl rfl rfl rfl ?_
 refine ae hP<|an ai (aK rfl rfl)<|an ai (ay hT rfl rfl)<|an ai (ay hT rfl rfl)<|ak rfl<|ag<|ae hP<|au hT rfl<|ab (ah (xV x hx)) ?_
 refine ab (az (rfl : _ = AV.t _))<|ab (aC rfl (v := .a _) rfl)<|ab (aC rfl (v := .c _) rfl)<|an ai (ay hT rfl rfl)<|aE hT rfl<|ak rfl<|ag<|ao<|ae hP<|aj rfl<|ab (bw rfl rfl)<|ag ?_
 refine aw rfl (fun hb1 => ?_) (fun hb1 => ?_)
 ·have hb1_ := cw hb1
  refine ae hP<|ab (aV hT rfl rfl rfl (es := [_, _]) rfl)<|ab (aV hT rfl rfl rfl (es := [_, _]) rfl)<|aj rfl<|aE hT rfl<|aE hT rfl<|ak rfl<|ag<|am ?_
  refine cZ rfl (.inr rfl) (aQ hT rfl rfl rfl rfl (cs := [_, _]) rfl rfl) (aQ hT rfl rfl rfl rfl (cs := [_, _]) rfl rfl) (bO rfl) ?_ bt
  have h0 : x < 0 := by
   rcases Int.lt_or_le x 0 with h | h
   ·exact h
   exact absurd (gk (by omega)) hb1_
  exact aH (by rw [(gj h0).1, if_pos h0])
 have hb1_ := b9 hb1
 refine aq<|ae hP<|au hT rfl<|au hT rfl<|au hT rfl<|au hT rfl<|ab (ah (dG _ _ lz lz)) ?_
 refine ab (ah (js _ _ lz lz)) ?_
 refine aE hT rfl<|aE hT rfl<|ak rfl<|ag<|am ?_
 refine cZ rfl (.inr rfl) (aQ hT rfl rfl rfl rfl (cs := [_, _]) rfl rfl) (aQ hT rfl rfl rfl rfl (cs := [_, _]) rfl rfl) (bO rfl) ?_ bt
 have h0 : ¬ x < 0 := fun h => by rw [(gj h).2] at hb1_; cases hb1_
 exact aH (by rw [if_neg h0, gk h0])
end
section
open Go Go.AM
theorem ef (z : Int) (hz : bv z) :
  aF Tryz.prog 110 [.p (.c (.v (.int .i64 z)))] (I z) := by
 refine aL Tryz.func110 rfl rfl rfl rfl ?_
 refine ae hP<|an ai (ay hT rfl rfl)<|ag<|ae hP<|aj rfl<|ab (ah (ei z hz)) ?_
 refine aE hT rfl<|ag<|am<|E2 hT rfl rfl rfl rfl rfl rfl rfl ?_
 exact .refl _
theorem cX (x y : Int) (hx : L 40 x) (hy : L 40 y) :
  aF Tryz.prog 109 [.p (.c (.sl 2 [zn x, zm x, zn y, zm y]))] (I (x * y)) := by
 have ix : LB x 40 := ⟨hx⟩
 have iy : LB y 40 := ⟨hy⟩
 refine aL Tryz.func109 rfl rfl rfl rfl ?_
 refine ae hP<|an ai (ay hT rfl rfl)<|ag<|ae hP<|ab (ah (ef _ (by first | assumption | decide))) ?_
 refine an ai (ay hT rfl rfl)<|aE hT rfl<|ag<|ao<|ae hP<|aj rfl<|ab (aU hT rfl rfl rfl rfl)<|aj rfl<|ag<|aA<|dU 3 ?_
 refine ae hP<|ab (bi rfl rfl)<|ag<|ao<|aX rfl (by decide) ?_
 refine aq<|ao<|aA<|ae hP<|cI ?_
 refine ab (bo hT rfl rfl rfl (cs := [_, _]) rfl rfl)<|an ai (ay hT rfl rfl)<|aE hT rfl<|ag<|av hP<|au hT rfl<|au hT rfl<|ab (ah (dG _ _ lz lz)) ?_
 refine aE hT rfl<|ag<|av hP<|bH rfl rfl ?_
 refine aj rfl<|ag<|ae hP<|ab (bi rfl rfl)<|ag<|ao<|aX rfl (by decide) ?_
 refine aq<|ao<|aA<|ae hP<|cI ?_
 refine ab (bo hT rfl rfl rfl (cs := [_, _]) rfl rfl)<|an ai (ay hT rfl rfl)<|aE hT rfl<|ag<|av hP<|au hT rfl<|au hT rfl<|ab (ah (dG _ _ lz lz)) ?_
 refine aE hT rfl<|ag<|av hP<|bH rfl rfl ?_
 refine aj rfl<|ag<|ae hP<|ab (bi rfl rfl)<|ag<|ao<|aT rfl (by decide) ?_
 refine aZ<|ae hP<|au hT rfl<|aE hT rfl<|ag<|am<|E2 hT rfl rfl rfl rfl rfl rfl rfl ?_
 exact Sub.I (by rw [Int.one_mul])
theorem fI (x y z : Int) (hx : L 40 x) (hy : L 40 y) (hz : L 40 z) :
  aF Tryz.prog 109 [.p (.c (.sl 3 [zn x, zm x, zn y, zm y, zn z, zm z]))] (I (x * y * z)) := by
 have ix : LB x 40 := ⟨hx⟩
 have iy : LB y 40 := ⟨hy⟩
 have iz : LB z 40 := ⟨hz⟩
 refine aL Tryz.func109 rfl rfl rfl rfl ?_
 refine ae hP<|an ai (ay hT rfl rfl)<|ag<|ae hP<|ab (ah (ef _ (by first | assumption | decide))) ?_
 refine an ai (ay hT rfl rfl)<|aE hT rfl<|ag<|ao<|ae hP<|aj rfl<|ab (aU hT rfl rfl rfl rfl)<|aj rfl<|ag<|aA<|dU 4 ?_
 refine ae hP<|ab (bi rfl rfl)<|ag<|ao<|aX rfl (by decide) ?_
 refine aq<|ao<|aA<|ae hP<|cI ?_
 refine ab (bo hT rfl rfl rfl (cs := [_, _]) rfl rfl)<|an ai (ay hT rfl rfl)<|aE hT rfl<|ag<|av hP<|au hT rfl<|au hT rfl<|ab (ah (dG _ _ lz lz)) ?_
 refine aE hT rfl<|ag<|av hP<|bH rfl rfl ?_
 refine aj rfl<|ag<|ae hP<|ab (bi rfl rfl)<|ag<|ao<|aX rfl (by decide) ?_
 refine aq<|ao<|aA<|ae hP<|cI ?_
 refine ab (bo hT rfl rfl rfl (cs := [_, _]) rfl rfl)<|an ai (ay hT rfl rfl)<|aE hT rfl<|ag<|av hP<|au hT rfl<|au hT rfl<|ab (ah (dG _ _ lz lz)) ?_
 refine aE hT rfl<|ag<|av hP<|bH rfl rfl ?_
 refine aj rfl<|ag<|ae hP<|ab (bi rfl rfl)<|ag<|ao<|aX rfl (by decide) ?_
 refine aq<|ao<|aA<|ae hP<|cI ?_
 refine ab (bo hT rfl rfl rfl (cs := [_, _]) rfl rfl)<|an ai (ay hT rfl rfl)<|aE hT rfl<|ag<|av hP<|au hT rfl<|au hT rfl<|ab (ah (dG _ _ lz lz)) ?_
 refine aE hT rfl<|ag<|av hP<|bH rfl rfl ?_
 refine aj rfl<|ag<|ae hP<|ab (bi rfl rfl)<|ag<|ao<|aT rfl (by decide) ?_
 refine aZ<|ae hP<|au hT rfl<|aE hT rfl<|ag<|am<|E2 hT rfl rfl rfl rfl rfl rfl rfl ?_
 exact Sub.I (by rw [Int.one_mul])
theorem nY (x : Int) (hx : L 40 x) :
  aF Tryz.prog 126 [I x] (B (eE x)) := by
 have ix : LB x 40 := ⟨hx⟩
 refine aL Tryz.func126 rfl rfl rfl rfl ?_
 refine ae hP<|an ai (aK rfl rfl)<|ak rfl<|ag<|ae hP<|au hT rfl<|ab (ah (Ap _ lz)) ?_
 refine ab (az (rfl : _ = AV.t _))<|ab (aC rfl (v := .a _) rfl)<|ab (aC rfl (v := .a _) rfl)<|ab (aC rfl (v := .c _) rfl)<|an ai (ay hT rfl rfl)<|an ai (ay hT rfl rfl)<|aE hT rfl<|aE hT rfl<|ak rfl<|ag<|ae hP<|aj rfl<|ab (bp rfl rfl)<|aj rfl ?_
 refine bd (t := 14) rfl (fun hg1 => ?_) (fun hg1 => ?_)
 ·have hg1_ := bT hg1
  refine aB hg1 (aI hT rfl rfl rfl rfl (cs := [_, _]) rfl rfl) ?_
  refine aB hg1 (ah (db _)) ?_
  refine aB hg1 (bp rfl rfl) ?_
  refine ab (aN rfl hg1 (rfl : _ = AV.p (.c _)))<|ak rfl<|ag<|am<|E1 rfl rfl ?_
  exact aW (sx hg1)
 have hg1_ := bF hg1
 iterate 3 refine a7 hg1 ?_
 refine ab (aP rfl hg1 (rfl : _ = AV.p (.c _)))<|ak rfl<|ag<|am<|E1 rfl rfl ?_
 exact aW (Es hg1)
theorem fE (a b c : Int) (ha : L 36 a) (hb : L 36 b) (hc : L 36 c) :
  aF Tryz.prog 40 [FA a b c] (I (dsc a b c)) := by
 have ia : LB a 36 := ⟨ha⟩
 have ib : LB b 36 := ⟨hb⟩
 have ic : LB c 36 := ⟨hc⟩
 refine aL Tryz.func40 rfl rfl rfl rfl ?_
 refine ae hP<|an ai (aK rfl rfl)<|an ai (ay hT rfl rfl)<|ag<|ae hP<|aD hT rfl<|au hT rfl<|aD hT rfl<|au hT rfl<|ab (bj hT rfl rfl rfl (es := [_, _, _, _]) rfl rfl rfl)<|ab (ah (cX _ _ lz lz)) ?_
 refine ab (ah (ef _ (by first | assumption | decide))) ?_
 refine aD hT rfl<|au hT rfl<|aD hT rfl<|au hT rfl<|ab (bj hT rfl rfl rfl (es := [_, _, _, _, _, _]) rfl rfl rfl)<|ab (ah (fI _ _ _ lz lz lz)) ?_
 refine ab (ah (js _ _ lz lz)) ?_
 refine aE hT rfl<|ag<|am<|E2 hT rfl rfl rfl rfl rfl rfl rfl ?_
 exact .refl _
theorem mn (a b c : Int) (ha : L 34 a) (hb : L 34 b) (hc : L 34 c) :
  aF Tryz.prog 111 [FA a b c] (Z (ck a b c)) := by
 have ia : LB a 34 := ⟨ha⟩
 have ib : LB b 34 := ⟨hb⟩
 have ic : LB c 34 := ⟨hc⟩
 have cDs := fE a b c lz lz lz
 have ids : LB (dsc a b c) 40 := ⟨lz⟩
 generalize hδ : dsc a b c = δ at cDs ids
 refine aL Tryz.func111 rfl rfl rfl rfl ?_
 refine ae hP<|an ai (aK rfl rfl)<|ak rfl<|ag<|ao<|ae hP<|aD hT rfl<|au hT rfl<|aD hT rfl<|au hT rfl<|aD hT rfl<|au hT rfl<|ab (dm hT rfl rfl rfl (es := [_, _, _, _, _, _]) rfl)<|aj rfl<|ag<|aA<|dU 4 ?_
 refine ae hP<|ab (bi rfl rfl)<|ag<|ao<|aX rfl (by decide) ?_
 refine aq<|ao<|aA<|ae hP<|ab (iW hT rfl rfl rfl rfl rfl rfl (by decide) (es := [_, _]) rfl rfl) ?_
 refine an ai (ay hT rfl rfl)<|aE hT rfl<|ag<|ae hP<|au hT rfl<|ab (ah (lR _ lz)) ?_
 refine ab (bA rfl)<|ag<|aT rfl rfl<|aq<|av hP<|bH rfl rfl ?_
 refine aj rfl<|ag<|ae hP<|ab (bi rfl rfl)<|ag<|ao<|aX rfl (by decide) ?_
 refine aq<|ao<|aA<|ae hP<|ab (iW hT rfl rfl rfl rfl rfl rfl (by decide) (es := [_, _]) rfl rfl) ?_
 refine an ai (ay hT rfl rfl)<|aE hT rfl<|ag<|ae hP<|au hT rfl<|ab (ah (lR _ lz)) ?_
 refine ab (bA rfl)<|ag<|aT rfl rfl<|aq<|av hP<|bH rfl rfl ?_
 refine aj rfl<|ag<|ae hP<|ab (bi rfl rfl)<|ag<|ao<|aX rfl (by decide) ?_
 refine aq<|ao<|aA<|ae hP<|ab (iW hT rfl rfl rfl rfl rfl rfl (by decide) (es := [_, _]) rfl rfl) ?_
 refine an ai (ay hT rfl rfl)<|aE hT rfl<|ag<|ae hP<|au hT rfl<|ab (ah (lR _ lz)) ?_
 refine ab (bA rfl)<|ag<|aT rfl rfl<|aq<|av hP<|bH rfl rfl ?_
 refine aj rfl<|ag<|ae hP<|ab (bi rfl rfl)<|ag<|ao<|aT rfl (by decide) ?_
 refine aZ<|dF (t := stL [(1, .loc 1 0)] [(1, ⟨false, 1, 46, FL a b c⟩)]) (aG ⟨.refl _, trivial⟩ ⟨rfl, trivial⟩) ?_
 refine ae hP<|bD hT rfl rfl rfl rfl rfl rfl<|ab (ah cDs) ?_
 refine an ai (ay hT rfl rfl)<|aE hT rfl<|ag<|ao<|aA<|ae hP<|au hT rfl<|ab (ah (nY _ lz)) ?_
 refine ak rfl<|ag ?_
 refine aw rfl (fun hb1 => ?_) (fun hb1 => ?_)
 ·refine ae hP<|ak rfl<|ag<|am<|E1 rfl rfl ?_
  exact aO (Cc (by rw [hδ]; exact hb1))
 refine ae hP<|au hT rfl<|ab (ah (db _)) ?_
 refine ab (bi rfl rfl)<|aj rfl ?_
 refine bd (t := 29) rfl (fun hg2 => ?_) (fun hg2 => ?_)
 ·have hg2_ := dT0 hg2
  refine aB hg2 (aJ hT rfl rfl rfl rfl rfl rfl) ?_
  refine aB hg2 (aI hT rfl rfl rfl rfl (cs := [_, _]) rfl rfl) ?_
  refine aB hg2 (ah (db _)) ?_
  refine aB hg2 (fU rfl rfl) ?_
  refine ab (aN rfl hg2 (rfl : _ = AV.p (.c _)))<|ak rfl<|ag ?_
  refine aw rfl (fun hb3 => ?_) (fun hb3 => ?_)
  ·have hb3_ := dT0 hb3
   refine ae hP<|ak rfl<|ag<|am<|E1 rfl rfl ?_
   exact aO (ym (by rw [hδ]; exact hb1) (by rw [hδ]; exact hg2_) hb3_)
  have hb3_ := dF0 hb3
  refine aq<|ae hP<|ak rfl<|ag<|am<|E1 rfl rfl ?_
  exact aO (Cd (by rw [hδ]; exact hb1) (by rw [hδ]; exact hg2_) hb3_)
 have hg2_ := dF0 hg2
 iterate 4 refine a7 hg2 ?_
 refine ab (aP rfl hg2 (rfl : _ = AV.p (.c _)))<|ak rfl<|ag<|aT rfl rfl<|aq<|ae hP<|ak rfl<|ag<|am<|E1 rfl rfl ?_
 exact aO (yl (by rw [hδ]; exact hb1) (by rw [hδ]; exact hg2_))
theorem j7 (a b c : Int) (ha : L 44 a) (hb : L 44 b) (hc : L 44 c) :
  aF Tryz.prog 53 [FA a b c] (B (prim a b c)) := by
 have ia : LB a 44 := ⟨ha⟩
 have ib : LB b 44 := ⟨hb⟩
 have ic : LB c 44 := ⟨hc⟩
 have ig := yI hb hc
 refine aL Tryz.func53 rfl rfl rfl rfl ?_
 refine ae hP<|an ai (aK rfl rfl)<|ak rfl<|ag<|ae hP<|aD hT rfl<|au hT rfl<|aD hT rfl<|au hT rfl<|aD hT rfl<|au hT rfl<|ab (ah (mA _ _ lz lz)) ?_
 refine ab (ah (mA _ _ lz lz)) ?_
 refine ab (ah (ef _ (by first | assumption | decide))) ?_
 refine ab (ah (dy _ _)) ?_
 refine ab (bp rfl rfl)<|ak rfl<|ag<|am<|E1 rfl rfl ?_
 exact aW (zT _ _ _)
theorem oL (a b c x y : Int) (ha : L 36 a) (hb : L 36 b) (hc : L 36 c) (hx : L 36 x) (hy : L 36 y) :
  aF Tryz.prog 44 [FA a b c, I x, I y] (I (vl a b c x y)) := by
 have ia : LB a 36 := ⟨ha⟩
 have ib : LB b 36 := ⟨hb⟩
 have ic : LB c 36 := ⟨hc⟩
 have ix : LB x 36 := ⟨hx⟩
 have iy : LB y 36 := ⟨hy⟩
 refine aL Tryz.func44 rfl rfl rfl rfl ?_
 refine ae hP<|an ai (aK rfl rfl)<|an ai (aK rfl rfl)<|an ai (aK rfl rfl)<|an ai (ay hT rfl rfl)<|ag<|ae hP<|aD hT rfl<|au hT rfl<|au hT rfl<|au hT rfl<|ab (bj hT rfl rfl rfl (es := [_, _, _, _, _, _]) rfl rfl rfl)<|ab (ah (fI _ _ _ lz lz lz)) ?_
 refine aD hT rfl<|au hT rfl<|au hT rfl<|au hT rfl<|ab (bj hT rfl rfl rfl (es := [_, _, _, _, _, _]) rfl rfl rfl)<|ab (ah (fI _ _ _ lz lz lz)) ?_
 refine ab (ah (dP _ _ lz lz)) ?_
 refine aD hT rfl<|au hT rfl<|au hT rfl<|au hT rfl<|ab (bj hT rfl rfl rfl (es := [_, _, _, _, _, _]) rfl rfl rfl)<|ab (ah (fI _ _ _ lz lz lz)) ?_
 refine ab (ah (dP _ _ lz lz)) ?_
 refine aE hT rfl<|ag<|am<|E2 hT rfl rfl rfl rfl rfl rfl rfl ?_
 exact .refl _
theorem oO (a b c p q r s : Int) (ha : L 34 a) (hb : L 34 b) (hc : L 34 c) (hp : L 34 p) (hq : L 34 q) (hr : L 34 r) (hs : L 34 s) :
  aF Tryz.prog 46 [FA a b c, MA p q r s] (FA (vl a b c p r) (apB a b c p q r s) (vl a b c q s)) := by
 have ia : LB a 34 := ⟨ha⟩
 have ib : LB b 34 := ⟨hb⟩
 have ic : LB c 34 := ⟨hc⟩
 have ip : LB p 34 := ⟨hp⟩
 have iq : LB q 34 := ⟨hq⟩
 have ir : LB r 34 := ⟨hr⟩
 have is : LB s 34 := ⟨hs⟩
 refine aL Tryz.func46 rfl rfl rfl rfl ?_
 refine ae hP<|an ai (aK rfl rfl)<|an ai (aK rfl rfl)<|an ai (ay hT rfl rfl)<|ag<|ae hP<|aD hT rfl<|au hT rfl<|aD hT rfl<|au hT rfl<|ab (bj hT rfl rfl rfl (es := [_, _, _, _]) rfl rfl rfl)<|ab (ah (cX _ _ lz lz)) ?_
 refine aD hT rfl<|au hT rfl<|aD hT rfl<|au hT rfl<|ab (bj hT rfl rfl rfl (es := [_, _, _, _]) rfl rfl rfl)<|ab (ah (cX _ _ lz lz)) ?_
 refine ab (ah (dP _ _ lz lz)) ?_
 refine an ai (ay hT rfl rfl)<|aE hT rfl<|ag<|ae hP<|aD hT rfl<|au hT rfl<|aD hT rfl<|au hT rfl<|aD hT rfl<|au hT rfl<|ab (bj hT rfl rfl rfl (es := [_, _, _, _, _, _]) rfl rfl rfl)<|ab (ah (fI _ _ _ lz lz lz)) ?_
 refine aD hT rfl<|au hT rfl<|aD hT rfl<|au hT rfl<|aD hT rfl<|au hT rfl<|ab (bj hT rfl rfl rfl (es := [_, _, _, _, _, _]) rfl rfl rfl)<|ab (ah (fI _ _ _ lz lz lz)) ?_
 refine ab (ah (dP _ _ lz lz)) ?_
 refine an ai (ay hT rfl rfl)<|aE hT rfl<|ag<|ae hP<|bD hT rfl rfl rfl rfl rfl rfl<|aD hT rfl<|au hT rfl<|aD hT rfl<|au hT rfl<|ab (ah (oL _ _ _ _ _ lz lz lz lz lz)) ?_
 refine ab (ah (ef _ (by first | assumption | decide))) ?_
 refine au hT rfl<|ab (bj hT rfl rfl rfl (es := [_, _, _, _]) rfl rfl rfl)<|ab (ah (cX _ _ lz lz)) ?_
 refine aD hT rfl<|au hT rfl<|au hT rfl<|ab (bj hT rfl rfl rfl (es := [_, _, _, _]) rfl rfl rfl)<|ab (ah (cX _ _ lz lz)) ?_
 refine ab (ah (dP _ _ lz lz)) ?_
 refine bD hT rfl rfl rfl rfl rfl rfl<|aD hT rfl<|au hT rfl<|aD hT rfl<|au hT rfl<|ab (ah (oL _ _ _ _ _ lz lz lz lz lz)) ?_
 refine ab (aV hT rfl rfl rfl (es := [_, _, _, _, _, _]) rfl)<|aE hT rfl<|ag<|am ?_
 refine bS rfl (.inr rfl) (aQ hT rfl rfl rfl rfl (cs := [_, _, _, _, _, _]) rfl rfl) ?_ bt
 exact .refl _
theorem xu (p q r s : Int) :
  aF Tryz.prog 209 [MA p q r s] (MA p q r s) := by
 refine aL Tryz.func209 rfl rfl rfl rfl ?_
 refine ae hP<|an ai (aK rfl rfl)<|an ai (ay hT rfl rfl)<|ag<|ae hP<|aD hT rfl<|au hT rfl<|aD hT rfl<|au hT rfl<|ab (dm hT rfl rfl rfl (es := [_, _, _, _]) rfl)<|aD hT rfl<|au hT rfl<|aD hT rfl<|au hT rfl<|ab (dm hT rfl rfl rfl (es := [_, _, _, _]) rfl)<|ab (dm hT rfl rfl rfl (es := [_, _, _, _, _, _, _, _]) rfl)<|aE hT rfl<|ag<|am ?_
 refine bS rfl (.inr rfl) (aQ hT rfl rfl rfl rfl (cs := [_, _, _, _, _, _, _, _]) rfl rfl) ?_ bt
 exact .refl _
theorem uC (p q r s t u v w : Int) (hp : L 38 p) (hq : L 38 q) (hr : L 38 r) (hs : L 38 s) (ht : L 38 t) (hu : L 38 u) (hv : L 38 v) (hw : L 38 w) :
  aF Tryz.prog 172 [MA p q r s, MA t u v w] (MA (p * t + q * v) (p * u + q * w) (r * t + s * v) (r * u + s * w)) := by
 have ip : LB p 38 := ⟨hp⟩
 have iq : LB q 38 := ⟨hq⟩
 have ir : LB r 38 := ⟨hr⟩
 have is : LB s 38 := ⟨hs⟩
 have it : LB t 38 := ⟨ht⟩
 have iu : LB u 38 := ⟨hu⟩
 have iv : LB v 38 := ⟨hv⟩
 have iw : LB w 38 := ⟨hw⟩
 refine aL Tryz.func172 rfl rfl rfl rfl ?_
 refine ae hP<|an ai (aK rfl rfl)<|an ai (aK rfl rfl)<|an ai (ay hT rfl rfl)<|ag<|ae hP<|ab (aI hT rfl rfl rfl rfl (cs := [_, _, _, _, _, _, _, _]) rfl rfl)<|ab (ah (xu _ _ _ _)) ?_
 refine ab (aI hT rfl rfl rfl rfl (cs := [_, _, _, _, _, _, _, _]) rfl rfl)<|ab (ah (xu _ _ _ _)) ?_
 refine an ai (ay hT rfl rfl)<|an ai (ay hT rfl rfl)<|aE hT rfl<|aE hT rfl<|ag<|ae hP<|an ai (ay hT rfl rfl)<|ag<|ao<|ae hP<|aj rfl<|ag<|aA<|dU 3 ?_
 refine ae hP<|ab (bi rfl rfl)<|ag<|ao<|aX rfl (by decide) ?_
 refine aq<|ao<|aA<|ae hP<|aj rfl<|ak rfl<|ag<|ae hP<|aj rfl<|ag<|aA<|dU 3 ?_
 refine ae hP<|ab (bi rfl rfl)<|ag<|ao<|aX rfl (by decide) ?_
 refine aq<|ao<|aA<|ae hP<|aj rfl<|ak rfl<|ag<|av hP<|aj rfl<|aj rfl<|aj rfl<|ab (aR hT rfl rfl rfl rfl rfl (by first | decide | omega)) ?_
 refine ab (aR hT rfl rfl rfl rfl rfl (by first | decide | omega)) ?_
 refine au hT rfl<|aj rfl<|ab (aR hT rfl rfl rfl rfl rfl (by first | decide | omega)) ?_
 refine ab (aR hT rfl rfl rfl rfl rfl (by first | decide | omega)) ?_
 refine au hT rfl<|ab (bj hT rfl rfl rfl (es := [_, _, _, _]) rfl rfl rfl)<|ab (ah (cX _ _ lz lz)) ?_
 refine aj rfl<|ab (aR hT rfl rfl rfl rfl rfl (by first | decide | omega)) ?_
 refine ab (aR hT rfl rfl rfl rfl rfl (by first | decide | omega)) ?_
 refine au hT rfl<|aj rfl<|ab (aR hT rfl rfl rfl rfl rfl (by first | decide | omega)) ?_
 refine ab (aR hT rfl rfl rfl rfl rfl (by first | decide | omega)) ?_
 refine au hT rfl<|ab (bj hT rfl rfl rfl (es := [_, _, _, _]) rfl rfl rfl)<|ab (ah (cX _ _ lz lz)) ?_
 refine ab (ah (dP _ _ lz lz)) ?_
 refine ab (aR hT rfl rfl rfl rfl rfl (by first | decide | omega)) ?_
 refine ab (aR hT rfl rfl rfl rfl rfl (by first | decide | omega)) ?_
 refine aE hT rfl<|ag<|av hP<|bH rfl rfl ?_
 refine aj rfl<|ag<|ae hP<|ab (bi rfl rfl)<|ag<|ao<|aX rfl (by decide) ?_
 refine aq<|ao<|aA<|ae hP<|aj rfl<|ak rfl<|ag<|av hP<|aj rfl<|aj rfl<|aj rfl<|ab (aR hT rfl rfl rfl rfl rfl (by first | decide | omega)) ?_
 refine ab (aR hT rfl rfl rfl rfl rfl (by first | decide | omega)) ?_
 refine au hT rfl<|aj rfl<|ab (aR hT rfl rfl rfl rfl rfl (by first | decide | omega)) ?_
 refine ab (aR hT rfl rfl rfl rfl rfl (by first | decide | omega)) ?_
 refine au hT rfl<|ab (bj hT rfl rfl rfl (es := [_, _, _, _]) rfl rfl rfl)<|ab (ah (cX _ _ lz lz)) ?_
 refine aj rfl<|ab (aR hT rfl rfl rfl rfl rfl (by first | decide | omega)) ?_
 refine ab (aR hT rfl rfl rfl rfl rfl (by first | decide | omega)) ?_
 refine au hT rfl<|aj rfl<|ab (aR hT rfl rfl rfl rfl rfl (by first | decide | omega)) ?_
 refine ab (aR hT rfl rfl rfl rfl rfl (by first | decide | omega)) ?_
 refine au hT rfl<|ab (bj hT rfl rfl rfl (es := [_, _, _, _]) rfl rfl rfl)<|ab (ah (cX _ _ lz lz)) ?_
 refine ab (ah (dP _ _ lz lz)) ?_
 refine ab (aR hT rfl rfl rfl rfl rfl (by first | decide | omega)) ?_
 refine ab (aR hT rfl rfl rfl rfl rfl (by first | decide | omega)) ?_
 refine aE hT rfl<|ag<|av hP<|bH rfl rfl ?_
 refine aj rfl<|ag<|ae hP<|ab (bi rfl rfl)<|ag<|ao<|aT rfl (by decide) ?_
 refine aZ<|av hP<|bH rfl rfl ?_
 refine aj rfl<|ag<|ae hP<|ab (bi rfl rfl)<|ag<|ao<|aX rfl (by decide) ?_
 refine aq<|ao<|aA<|ae hP<|aj rfl<|ak rfl<|ag<|ae hP<|aj rfl<|ag<|aA<|dU 3 ?_
 refine ae hP<|ab (bi rfl rfl)<|ag<|ao<|aX rfl (by decide) ?_
 refine aq<|ao<|aA<|ae hP<|aj rfl<|ak rfl<|ag<|av hP<|aj rfl<|aj rfl<|aj rfl<|ab (aR hT rfl rfl rfl rfl rfl (by first | decide | omega)) ?_
 refine ab (aR hT rfl rfl rfl rfl rfl (by first | decide | omega)) ?_
 refine au hT rfl<|aj rfl<|ab (aR hT rfl rfl rfl rfl rfl (by first | decide | omega)) ?_
 refine ab (aR hT rfl rfl rfl rfl rfl (by first | decide | omega)) ?_
 refine au hT rfl<|ab (bj hT rfl rfl rfl (es := [_, _, _, _]) rfl rfl rfl)<|ab (ah (cX _ _ lz lz)) ?_
 refine aj rfl<|ab (aR hT rfl rfl rfl rfl rfl (by first | decide | omega)) ?_
 refine ab (aR hT rfl rfl rfl rfl rfl (by first | decide | omega)) ?_
 refine au hT rfl<|aj rfl<|ab (aR hT rfl rfl rfl rfl rfl (by first | decide | omega)) ?_
 refine ab (aR hT rfl rfl rfl rfl rfl (by first | decide | omega)) ?_
 refine au hT rfl<|ab (bj hT rfl rfl rfl (es := [_, _, _, _]) rfl rfl rfl)<|ab (ah (cX _ _ lz lz)) ?_
 refine ab (ah (dP _ _ lz lz)) ?_
 refine ab (aR hT rfl rfl rfl rfl rfl (by first | decide | omega)) ?_
 refine ab (aR hT rfl rfl rfl rfl rfl (by first | decide | omega)) ?_
 refine aE hT rfl<|ag<|av hP<|bH rfl rfl ?_
 refine aj rfl<|ag<|ae hP<|ab (bi rfl rfl)<|ag<|ao<|aX rfl (by decide) ?_
 refine aq<|ao<|aA<|ae hP<|aj rfl<|ak rfl<|ag<|av hP<|aj rfl<|aj rfl<|aj rfl<|ab (aR hT rfl rfl rfl rfl rfl (by first | decide | omega)) ?_
 refine ab (aR hT rfl rfl rfl rfl rfl (by first | decide | omega)) ?_
 refine au hT rfl<|aj rfl<|ab (aR hT rfl rfl rfl rfl rfl (by first | decide | omega)) ?_
 refine ab (aR hT rfl rfl rfl rfl rfl (by first | decide | omega)) ?_
 refine au hT rfl<|ab (bj hT rfl rfl rfl (es := [_, _, _, _]) rfl rfl rfl)<|ab (ah (cX _ _ lz lz)) ?_
 refine aj rfl<|ab (aR hT rfl rfl rfl rfl rfl (by first | decide | omega)) ?_
 refine ab (aR hT rfl rfl rfl rfl rfl (by first | decide | omega)) ?_
 refine au hT rfl<|aj rfl<|ab (aR hT rfl rfl rfl rfl rfl (by first | decide | omega)) ?_
 refine ab (aR hT rfl rfl rfl rfl rfl (by first | decide | omega)) ?_
 refine au hT rfl<|ab (bj hT rfl rfl rfl (es := [_, _, _, _]) rfl rfl rfl)<|ab (ah (cX _ _ lz lz)) ?_
 refine ab (ah (dP _ _ lz lz)) ?_
 refine ab (aR hT rfl rfl rfl rfl rfl (by first | decide | omega)) ?_
 refine ab (aR hT rfl rfl rfl rfl rfl (by first | decide | omega)) ?_
 refine aE hT rfl<|ag<|av hP<|bH rfl rfl ?_
 refine aj rfl<|ag<|ae hP<|ab (bi rfl rfl)<|ag<|ao<|aT rfl (by decide) ?_
 refine aZ<|av hP<|bH rfl rfl ?_
 refine aj rfl<|ag<|ae hP<|ab (bi rfl rfl)<|ag<|ao<|aT rfl (by decide) ?_
 refine aZ<|ae hP<|ab (aR hT rfl rfl rfl rfl rfl (by first | decide | omega)) ?_
 refine ab (aR hT rfl rfl rfl rfl rfl (by first | decide | omega)) ?_
 refine au hT rfl<|ab (aR hT rfl rfl rfl rfl rfl (by first | decide | omega)) ?_
 refine ab (aR hT rfl rfl rfl rfl rfl (by first | decide | omega)) ?_
 refine au hT rfl<|ab (aR hT rfl rfl rfl rfl rfl (by first | decide | omega)) ?_
 refine ab (aR hT rfl rfl rfl rfl rfl (by first | decide | omega)) ?_
 refine au hT rfl<|ab (aR hT rfl rfl rfl rfl rfl (by first | decide | omega)) ?_
 refine ab (aR hT rfl rfl rfl rfl rfl (by first | decide | omega)) ?_
 refine au hT rfl<|ab (aV hT rfl rfl rfl (es := [_, _, _, _, _, _, _, _]) rfl)<|aE hT rfl<|ag<|am ?_
 refine bS rfl (.inr rfl) (aQ hT rfl rfl rfl rfl (cs := [_, _, _, _, _, _, _, _]) rfl rfl) ?_ bt
 exact .refl _
theorem pK (a b c : Int) (ha : L 34 a) (hb : L 34 b) (hc : L 34 c) :
  aF Tryz.prog 112 [FA a b c] (B (rdd a b c)) := by
 have ia : LB a 34 := ⟨ha⟩
 have ib : LB b 34 := ⟨hb⟩
 have ic : LB c 34 := ⟨hc⟩
 refine aL Tryz.func112 rfl rfl rfl rfl ?_
 refine ae hP<|an ai (aK rfl rfl)<|ak rfl<|ag<|ao<|ae hP<|bD hT rfl rfl rfl rfl rfl rfl<|ab (ah (mn _ _ _ lz lz lz)) ?_
 refine ab (bw rfl rfl)<|aj rfl ?_
 refine bd (t := 8) rfl (fun hg1 => ?_) (fun hg1 => ?_)
 ·have hg1_ := cw hg1
  iterate 4 refine a7 hg1 ?_
  refine ab (aN rfl hg1 (rfl : _ = AV.p (.c _)))<|ag<|aX rfl rfl<|ae hP<|ak rfl<|ag<|am<|E1 rfl rfl ?_
  exact aW (I7 hg1_)
 have hg1_ := b9 hg1
 refine aB hg1 (aI hT rfl rfl rfl rfl (cs := [_, _, _, _, _, _]) rfl rfl) ?_
 refine aB hg1 (ah (fE _ _ _ lz lz lz)) ?_
 refine aB hg1 (ah (db _)) ?_
 refine aB hg1 (bV rfl rfl) ?_
 refine ab (aP rfl hg1 (rfl : _ = AV.p (.c _)))<|ag ?_
 refine aw rfl (fun hb2 => ?_) (fun hb2 => ?_)
 ·have hb2_ := dT0 hb2
  refine ae hP<|ak rfl<|ag<|am<|E1 rfl rfl ?_
  exact aW (I6 hb2_)
 have hb2_ := dF0 hb2
 refine aq<|ae hP<|aD hT rfl<|au hT rfl<|ab (ah (mB _)) ?_
 refine aD hT rfl<|au hT rfl<|ab (ah (dy _ _)) ?_
 refine aD hT rfl<|au hT rfl<|aD hT rfl<|au hT rfl<|ab (ah (dy _ _)) ?_
 refine ak rfl<|ak rfl<|ag<|ae hP<|aj rfl<|ab (fU rfl rfl)<|aj rfl ?_
 refine bd (t := 27) rfl (fun hg3 => ?_) (fun hg3 => ?_)
 ·have hg3_ := dT0 hg3
  refine aB hg3 (az (rfl : _ = AV.p (.c _))) ?_
  refine aB hg3 (fU rfl rfl) ?_
  refine ab (aN rfl hg3 (rfl : _ = AV.p (.c _)))<|aj rfl ?_
  refine bd (t := 31) rfl (fun hg4 => ?_) (fun hg4 => ?_)
  ·have hg4_ := dT0 hg4
   refine aB hg4 (az (rfl : _ = AV.p (.c _))) ?_
   refine aB hg4 (bi rfl rfl) ?_
   refine aB hg4 (az (rfl : _ = AV.p (.c _))) ?_
   refine bd (t := 34) rfl (fun hg5 => ?_) (fun hg5 => ?_)
   ·have hg5_ := dT0 hg5
    refine aB hg5 (az (rfl : _ = AV.p (.c _))) ?_
    refine aB hg5 (bi rfl rfl) ?_
    refine aB hg4 (aN rfl hg5 (rfl : _ = AV.p (.c _))) ?_
    refine aB hg4 (az (rfl : _ = AV.p (.c _))) ?_
    refine bd (t := 38) rfl (fun hg6 => ?_) (fun hg6 => ?_)
    ·have hg6_ := dT0 hg6
     iterate 4 refine a7 hg6 ?_
     refine aB hg4 (aN rfl hg6 (rfl : _ = AV.p (.c _))) ?_
     refine ab (aN rfl hg4 (rfl : _ = AV.p (.c _)))<|ak rfl<|ag<|am<|E1 rfl rfl ?_
     exact aW (I5 hg1_ hb2_ hg5_ hg6_)
    have hg6_ := dF0 hg6
    refine aB hg6 (aJ hT rfl rfl rfl rfl rfl rfl) ?_
    refine aB hg6 (aI hT rfl rfl rfl rfl (cs := [_, _]) rfl rfl) ?_
    refine aB hg6 (ah (db _)) ?_
    refine aB hg6 (dc rfl rfl) ?_
    refine aB hg4 (aP rfl hg6 (rfl : _ = AV.p (.c _))) ?_
    refine ab (aN rfl hg4 (rfl : _ = AV.p (.c _)))<|ak rfl<|ag<|am<|E1 rfl rfl ?_
    exact aW (BQ hg1_ hb2_ hg3_ hg4_ (fun h => hg6_ h.2))
   have hg5_ := dF0 hg5
   refine a7 hg5 ?_
   refine a7 hg5 ?_
   refine aB hg4 (aP rfl hg5 (rfl : _ = AV.p (.c _))) ?_
   refine aB hg4 (az (rfl : _ = AV.p (.c _))) ?_
   refine aB rfl (aJ hT rfl rfl rfl rfl rfl rfl) ?_
   refine aB rfl (aI hT rfl rfl rfl rfl (cs := [_, _]) rfl rfl) ?_
   refine aB rfl (ah (db _)) ?_
   refine aB rfl (dc rfl rfl) ?_
   refine aB hg4 (aP rfl rfl (rfl : _ = AV.p (.c _))) ?_
   refine ab (aN rfl hg4 (rfl : _ = AV.p (.c _)))<|ak rfl<|ag<|am<|E1 rfl rfl ?_
   exact aW (BQ hg1_ hb2_ hg3_ hg4_ (fun h => hg5_ h.1))
  have hg4_ := dF0 hg4
  iterate 3 refine a7 hg4 ?_
  refine fP ?_
  refine fP ?_
  refine a7 hg4 ?_
  refine a7 hg4 ?_
  iterate 4 refine fP ?_
  refine a7 hg4 ?_
  refine ab (aP rfl hg4 (rfl : _ = AV.p (.c _)))<|ak rfl<|ag<|am<|E1 rfl rfl ?_
  exact aW (I4 hg4_)
 have hg3_ := dF0 hg3
 refine a7 hg3 ?_
 refine a7 hg3 ?_
 refine ab (aP rfl hg3 (rfl : _ = AV.p (.c _)))<|aj rfl<|a7 rfl ?_
 refine a7 rfl ?_
 refine a7 rfl ?_
 refine fP ?_
 refine fP ?_
 refine a7 rfl ?_
 refine a7 rfl ?_
 iterate 4 refine fP ?_
 refine a7 rfl ?_
 refine ab (aP rfl rfl (rfl : _ = AV.p (.c _)))<|ak rfl<|ag<|am<|E1 rfl rfl ?_
 exact aW (I3 hg3_)
end
end Go.Proofs.YthaiejfjnllglaaGreatDoor

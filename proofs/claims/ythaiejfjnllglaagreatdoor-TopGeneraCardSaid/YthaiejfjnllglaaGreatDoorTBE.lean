import Derived.Test.YthaiejfjnllglaaGreatDoorTBA
import Derived.Test.YthaiejfjnllglaaGreatDoorTBB
import Derived.Test.YthaiejfjnllglaaGreatDoorProg
import Derived.KernelRfl
set_option maxRecDepth 100000
set_option maxHeartbeats 2000000
namespace Go.Proofs.YthaiejfjnllglaaGreatDoor
section
open Go Go.AM
def ty2 : TyI := ⟨.int .i64, 1, 8, [.v (.int .i64 0)]⟩
theorem Cn : TyOK Tryz.prog 2 ty2 := TyOK.mk' (z := .int .i64 0) (by kernel_rfl) Tryz.underlying2 rfl rfl ⟨z_v _ rfl, trivial⟩
def ty3 : TyI := ⟨.int .i64, 1, 8, [.v (.int .i64 0)]⟩
theorem Ch : TyOK Tryz.prog 3 ty3 := TyOK.mk' (z := .int .i64 0) (by kernel_rfl) Tryz.underlying3 rfl rfl ⟨z_v _ rfl, trivial⟩
def ty4 : TyI := ⟨.bool, 1, 1, [.v (.bool false)]⟩
theorem Cb : TyOK Tryz.prog 4 ty4 := TyOK.mk' (z := .bool false) (by kernel_rfl) Tryz.underlying4 trivial rfl ⟨z_v _ rfl, trivial⟩
def ty5 : TyI := ⟨.int .u8, 1, 1, [.v (.int .u8 0)]⟩
theorem B4 : TyOK Tryz.prog 5 ty5 := TyOK.mk' (z := .int .u8 0) (by kernel_rfl) Tryz.underlying5 rfl rfl ⟨z_v _ rfl, trivial⟩
def ty9 : TyI := ⟨.str, 1, 16, [.v (.string ⟨#[]⟩)]⟩
theorem BS : TyOK Tryz.prog 9 ty9 := TyOK.mk' (z := .string ⟨#[]⟩) (by kernel_rfl) Tryz.underlying9 trivial rfl ⟨z_v _ rfl, trivial⟩
def Cx : TyI := ⟨.int .u64, 1, 8, [.v (.int .u64 0)]⟩
theorem zS : TyOK Tryz.prog 12 Cx := TyOK.mk' (z := .int .u64 0) (by kernel_rfl) Tryz.underlying12 rfl rfl ⟨z_v _ rfl, trivial⟩
def Cw : TyI := ⟨.int .i32, 1, 4, [.v (.int .i32 0)]⟩
theorem zR : TyOK Tryz.prog 21 Cw := TyOK.mk' (z := .int .i32 0) (by kernel_rfl) Tryz.underlying21 rfl rfl ⟨z_v _ rfl, trivial⟩
def Cv : TyI := ⟨.int .u16, 1, 2, [.v (.int .u16 0)]⟩
theorem zQ : TyOK Tryz.prog 22 Cv := TyOK.mk' (z := .int .u16 0) (by kernel_rfl) Tryz.underlying22 rfl rfl ⟨z_v _ rfl, trivial⟩
def Cu : TyI := ⟨.ar 4 22, 4, 8, [.v (.int .u16 0), .v (.int .u16 0), .v (.int .u16 0), .v (.int .u16 0)]⟩
theorem zP : TyOK Tryz.prog 23 Cu := TyOK.mk' (z := .agg #[.int .u16 0, .int .u16 0, .int .u16 0, .int .u16 0]) (by kernel_rfl) Tryz.underlying23 ⟨rfl, rfl⟩ rfl ⟨z_v _ rfl, z_v _ rfl, z_v _ rfl, z_v _ rfl, trivial⟩
def Ct : TyI := ⟨.ar 4 5, 4, 4, [.v (.int .u8 0), .v (.int .u8 0), .v (.int .u8 0), .v (.int .u8 0)]⟩
theorem zO : TyOK Tryz.prog 24 Ct := TyOK.mk' (z := .agg #[.int .u8 0, .int .u8 0, .int .u8 0, .int .u8 0]) (by kernel_rfl) Tryz.underlying24 ⟨rfl, rfl⟩ rfl ⟨z_v _ rfl, z_v _ rfl, z_v _ rfl, z_v _ rfl, trivial⟩
def Cs : TyI := ⟨.st [(0, 22), (1, 23), (5, 24)], 9, 14, [.v (.int .u16 0), .v (.int .u16 0), .v (.int .u16 0), .v (.int .u16 0), .v (.int .u16 0), .v (.int .u8 0), .v (.int .u8 0), .v (.int .u8 0), .v (.int .u8 0)]⟩
theorem zN : TyOK Tryz.prog 25 Cs := TyOK.mk' (z := .agg #[.int .u16 0, .int .u16 0, .int .u16 0, .int .u16 0, .int .u16 0, .int .u8 0, .int .u8 0, .int .u8 0, .int .u8 0]) (by kernel_rfl) Tryz.underlying25 rfl rfl ⟨z_v _ rfl, z_v _ rfl, z_v _ rfl, z_v _ rfl, z_v _ rfl, z_v _ rfl, z_v _ rfl, z_v _ rfl, z_v _ rfl, trivial⟩
def Cr : TyI := ⟨.st [(0, 22), (1, 23), (5, 24)], 9, 14, [.v (.int .u16 0), .v (.int .u16 0), .v (.int .u16 0), .v (.int .u16 0), .v (.int .u16 0), .v (.int .u8 0), .v (.int .u8 0), .v (.int .u8 0), .v (.int .u8 0)]⟩
theorem zM : TyOK Tryz.prog 26 Cr := TyOK.mk' (z := .agg #[.int .u16 0, .int .u16 0, .int .u16 0, .int .u16 0, .int .u16 0, .int .u8 0, .int .u8 0, .int .u8 0, .int .u8 0]) (by kernel_rfl) Tryz.underlying26 rfl rfl ⟨z_v _ rfl, z_v _ rfl, z_v _ rfl, z_v _ rfl, z_v _ rfl, z_v _ rfl, z_v _ rfl, z_v _ rfl, z_v _ rfl, trivial⟩
def Cq : TyI := ⟨.sl 105, 1, 24, [.sl 0 []]⟩
theorem zL : TyOK Tryz.prog 27 Cq := TyOK.mk' (z := .slice none 0 0) (by kernel_rfl) Tryz.underlying27 rfl rfl ⟨bL, trivial⟩
def Cp : TyI := ⟨.st [(0, 4), (1, 27)], 2, 32, [.v (.bool false), .sl 0 []]⟩
theorem zK : TyOK Tryz.prog 28 Cp := TyOK.mk' (z := .agg #[.bool false, .slice none 0 0]) (by kernel_rfl) Tryz.underlying28 rfl rfl ⟨z_v _ rfl, bL, trivial⟩
def Co : TyI := ⟨.st [(0, 4), (1, 27)], 2, 32, [zn 0, zm 0]⟩
theorem zJ : TyOK Tryz.prog 29 Co := TyOK.mk' (z := .agg #[.bool false, .slice none 0 0]) (by kernel_rfl) Tryz.underlying29 rfl rfl ⟨bD, bE, trivial⟩
def Ck : TyI := ⟨.sl 46, 1, 24, [.sl 0 []]⟩
theorem zI : TyOK Tryz.prog 32 Ck := TyOK.mk' (z := .slice none 0 0) (by kernel_rfl) Tryz.underlying32 rfl rfl ⟨bL, trivial⟩
def Cj : TyI := ⟨.int .i64, 1, 8, [.v (.int .i64 0)]⟩
theorem zH : TyOK Tryz.prog 33 Cj := TyOK.mk' (z := .int .i64 0) (by kernel_rfl) Tryz.underlying33 rfl rfl ⟨z_v _ rfl, trivial⟩
def Ci : TyI := ⟨.sl 29, 1, 24, [.sl 0 []]⟩
theorem zG : TyOK Tryz.prog 36 Ci := TyOK.mk' (z := .slice none 0 0) (by kernel_rfl) Tryz.underlying36 rfl rfl ⟨bL, trivial⟩
def Cg : TyI := ⟨.st [(0, 3), (1, 29), (3, 29), (5, 29), (7, 36), (8, 32)], 9, 152, [.v (.int .i64 0), zn 0, zm 0, zn 0, zm 0, zn 0, zm 0, .sl 0 [], .sl 0 []]⟩
theorem zF : TyOK Tryz.prog 41 Cg := TyOK.mk' (z := .agg #[.int .i64 0, .bool false, .slice none 0 0, .bool false, .slice none 0 0, .bool false, .slice none 0 0, .slice none 0 0, .slice none 0 0]) (by kernel_rfl) Tryz.underlying41 rfl rfl ⟨z_v _ rfl, bD, bE, bD, bE, bD, bE, bL, bL, trivial⟩
def Cf : TyI := ⟨.st [(0, 3), (1, 29), (3, 29), (5, 29), (7, 36), (8, 32)], 9, 152, [.v (.int .i64 0), zn 0, zm 0, zn 0, zm 0, zn 0, zm 0, .sl 0 [], .sl 0 []]⟩
theorem zE : TyOK Tryz.prog 42 Cf := TyOK.mk' (z := .agg #[.int .i64 0, .bool false, .slice none 0 0, .bool false, .slice none 0 0, .bool false, .slice none 0 0, .slice none 0 0, .slice none 0 0]) (by kernel_rfl) Tryz.underlying42 rfl rfl ⟨z_v _ rfl, bD, bE, bD, bE, bD, bE, bL, bL, trivial⟩
def Ce : TyI := ⟨.st [(0, 29), (2, 29), (4, 29)], 6, 96, [zn 0, zm 0, zn 0, zm 0, zn 0, zm 0]⟩
theorem zD : TyOK Tryz.prog 45 Ce := TyOK.mk' (z := .agg #[.bool false, .slice none 0 0, .bool false, .slice none 0 0, .bool false, .slice none 0 0]) (by kernel_rfl) Tryz.underlying45 rfl rfl ⟨bD, bE, bD, bE, bD, bE, trivial⟩
def Cd : TyI := ⟨.st [(0, 29), (2, 29), (4, 29)], 6, 96, [zn 0, zm 0, zn 0, zm 0, zn 0, zm 0]⟩
theorem zC : TyOK Tryz.prog 46 Cd := TyOK.mk' (z := .agg #[.bool false, .slice none 0 0, .bool false, .slice none 0 0, .bool false, .slice none 0 0]) (by kernel_rfl) Tryz.underlying46 rfl rfl ⟨bD, bE, bD, bE, bD, bE, trivial⟩
def Cc : TyI := ⟨.sl 3, 1, 24, [.sl 0 []]⟩
theorem zB : TyOK Tryz.prog 48 Cc := TyOK.mk' (z := .slice none 0 0) (by kernel_rfl) Tryz.underlying48 rfl rfl ⟨bL, trivial⟩
def Ca : TyI := ⟨.st [(0, 4), (1, 27)], 2, 32, [.v (.bool false), .sl 0 []]⟩
theorem zA : TyOK Tryz.prog 53 Ca := TyOK.mk' (z := .agg #[.bool false, .slice none 0 0]) (by kernel_rfl) Tryz.underlying53 rfl rfl ⟨z_v _ rfl, bL, trivial⟩
def B9 : TyI := ⟨.st [(0, 4), (1, 27)], 2, 32, [.v (.bool false), .sl 0 []]⟩
theorem zz : TyOK Tryz.prog 54 B9 := TyOK.mk' (z := .agg #[.bool false, .slice none 0 0]) (by kernel_rfl) Tryz.underlying54 rfl rfl ⟨z_v _ rfl, bL, trivial⟩
def B8 : TyI := ⟨.ar 3 54, 6, 96, [.v (.bool false), .sl 0 [], .v (.bool false), .sl 0 [], .v (.bool false), .sl 0 []]⟩
theorem zy : TyOK Tryz.prog 55 B8 := TyOK.mk' (z := .agg #[.bool false, .slice none 0 0, .bool false, .slice none 0 0, .bool false, .slice none 0 0]) (by kernel_rfl) Tryz.underlying55 ⟨rfl, rfl⟩ rfl ⟨z_v _ rfl, bL, z_v _ rfl, bL, z_v _ rfl, bL, trivial⟩
def B7 : TyI := ⟨.ar 4 54, 8, 128, [.v (.bool false), .sl 0 [], .v (.bool false), .sl 0 [], .v (.bool false), .sl 0 [], .v (.bool false), .sl 0 []]⟩
theorem zx : TyOK Tryz.prog 56 B7 := TyOK.mk' (z := .agg #[.bool false, .slice none 0 0, .bool false, .slice none 0 0, .bool false, .slice none 0 0, .bool false, .slice none 0 0]) (by kernel_rfl) Tryz.underlying56 ⟨rfl, rfl⟩ rfl ⟨z_v _ rfl, bL, z_v _ rfl, bL, z_v _ rfl, bL, z_v _ rfl, bL, trivial⟩
def B6 : TyI := ⟨.st [(0, 55), (6, 56)], 14, 224, [.v (.bool false), .sl 0 [], .v (.bool false), .sl 0 [], .v (.bool false), .sl 0 [], .v (.bool false), .sl 0 [], .v (.bool false), .sl 0 [], .v (.bool false), .sl 0 [], .v (.bool false), .sl 0 []]⟩
theorem zw : TyOK Tryz.prog 57 B6 := TyOK.mk' (z := .agg #[.bool false, .slice none 0 0, .bool false, .slice none 0 0, .bool false, .slice none 0 0, .bool false, .slice none 0 0, .bool false, .slice none 0 0, .bool false, .slice none 0 0, .bool false, .slice none 0 0]) (by kernel_rfl) Tryz.underlying57 rfl rfl ⟨z_v _ rfl, bL, z_v _ rfl, bL, z_v _ rfl, bL, z_v _ rfl, bL, z_v _ rfl, bL, z_v _ rfl, bL, z_v _ rfl, bL, trivial⟩
def B5 : TyI := ⟨.st [(0, 55), (6, 56)], 14, 224, [.v (.bool false), .sl 0 [], .v (.bool false), .sl 0 [], .v (.bool false), .sl 0 [], .v (.bool false), .sl 0 [], .v (.bool false), .sl 0 [], .v (.bool false), .sl 0 [], .v (.bool false), .sl 0 []]⟩
theorem zu : TyOK Tryz.prog 58 B5 := TyOK.mk' (z := .agg #[.bool false, .slice none 0 0, .bool false, .slice none 0 0, .bool false, .slice none 0 0, .bool false, .slice none 0 0, .bool false, .slice none 0 0, .bool false, .slice none 0 0, .bool false, .slice none 0 0]) (by kernel_rfl) Tryz.underlying58 rfl rfl ⟨z_v _ rfl, bL, z_v _ rfl, bL, z_v _ rfl, bL, z_v _ rfl, bL, z_v _ rfl, bL, z_v _ rfl, bL, z_v _ rfl, bL, trivial⟩
def B3 : TyI := ⟨.st [(0, 36), (1, 33)], 2, 32, [.sl 0 [], .v (.int .i64 0)]⟩
theorem zt : TyOK Tryz.prog 62 B3 := TyOK.mk' (z := .agg #[.slice none 0 0, .int .i64 0]) (by kernel_rfl) Tryz.underlying62 rfl rfl ⟨bL, z_v _ rfl, trivial⟩
def B2 : TyI := ⟨.st [(0, 36), (1, 33)], 2, 32, [.sl 0 [], .v (.int .i64 0)]⟩
theorem zr : TyOK Tryz.prog 63 B2 := TyOK.mk' (z := .agg #[.slice none 0 0, .int .i64 0]) (by kernel_rfl) Tryz.underlying63 rfl rfl ⟨bL, z_v _ rfl, trivial⟩
def B1 : TyI := ⟨.sl 93, 1, 24, [.sl 0 []]⟩
theorem zq : TyOK Tryz.prog 65 B1 := TyOK.mk' (z := .slice none 0 0) (by kernel_rfl) Tryz.underlying65 rfl rfl ⟨bL, trivial⟩
def B0 : TyI := ⟨.st [(0, 42), (9, 33)], 10, 160, [.v (.int .i64 0), zn 0, zm 0, zn 0, zm 0, zn 0, zm 0, .sl 0 [], .sl 0 [], .v (.int .i64 0)]⟩
theorem zp : TyOK Tryz.prog 71 B0 := TyOK.mk' (z := .agg #[.int .i64 0, .bool false, .slice none 0 0, .bool false, .slice none 0 0, .bool false, .slice none 0 0, .slice none 0 0, .slice none 0 0, .int .i64 0]) (by kernel_rfl) Tryz.underlying71 rfl rfl ⟨z_v _ rfl, bD, bE, bD, bE, bD, bE, bL, bL, z_v _ rfl, trivial⟩
def BZ : TyI := ⟨.st [(0, 42), (9, 33)], 10, 160, [.v (.int .i64 0), zn 0, zm 0, zn 0, zm 0, zn 0, zm 0, .sl 0 [], .sl 0 [], .v (.int .i64 0)]⟩
theorem zo : TyOK Tryz.prog 72 BZ := TyOK.mk' (z := .agg #[.int .i64 0, .bool false, .slice none 0 0, .bool false, .slice none 0 0, .bool false, .slice none 0 0, .slice none 0 0, .slice none 0 0, .int .i64 0]) (by kernel_rfl) Tryz.underlying72 rfl rfl ⟨z_v _ rfl, bD, bE, bD, bE, bD, bE, bL, bL, z_v _ rfl, trivial⟩
def BY : TyI := ⟨.st [(0, 42), (9, 33)], 10, 160, [.v (.int .i64 0), zn 0, zm 0, zn 0, zm 0, zn 0, zm 0, .sl 0 [], .sl 0 [], .v (.int .i64 0)]⟩
theorem zl : TyOK Tryz.prog 74 BY := TyOK.mk' (z := .agg #[.int .i64 0, .bool false, .slice none 0 0, .bool false, .slice none 0 0, .bool false, .slice none 0 0, .slice none 0 0, .slice none 0 0, .int .i64 0]) (by kernel_rfl) Tryz.underlying74 rfl rfl ⟨z_v _ rfl, bD, bE, bD, bE, bD, bE, bL, bL, z_v _ rfl, trivial⟩
def BX : TyI := ⟨.sl 42, 1, 24, [.sl 0 []]⟩
theorem zk : TyOK Tryz.prog 84 BX := TyOK.mk' (z := .slice none 0 0) (by kernel_rfl) Tryz.underlying84 rfl rfl ⟨bL, trivial⟩
def BW : TyI := ⟨.st [(0, 29), (2, 29), (4, 29), (6, 29)], 8, 128, [zn 0, zm 0, zn 0, zm 0, zn 0, zm 0, zn 0, zm 0]⟩
theorem zj : TyOK Tryz.prog 86 BW := TyOK.mk' (z := .agg #[.bool false, .slice none 0 0, .bool false, .slice none 0 0, .bool false, .slice none 0 0, .bool false, .slice none 0 0]) (by kernel_rfl) Tryz.underlying86 rfl rfl ⟨bD, bE, bD, bE, bD, bE, bD, bE, trivial⟩
def BV : TyI := ⟨.st [(0, 29), (2, 29), (4, 29), (6, 29)], 8, 128, [zn 0, zm 0, zn 0, zm 0, zn 0, zm 0, zn 0, zm 0]⟩
theorem zi : TyOK Tryz.prog 87 BV := TyOK.mk' (z := .agg #[.bool false, .slice none 0 0, .bool false, .slice none 0 0, .bool false, .slice none 0 0, .bool false, .slice none 0 0]) (by kernel_rfl) Tryz.underlying87 rfl rfl ⟨bD, bE, bD, bE, bD, bE, bD, bE, trivial⟩
def BU : TyI := ⟨.ar 2 29, 4, 64, [zn 0, zm 0, zn 0, zm 0]⟩
theorem zh : TyOK Tryz.prog 93 BU := TyOK.mk' (z := .agg #[.bool false, .slice none 0 0, .bool false, .slice none 0 0]) (by kernel_rfl) Tryz.underlying93 ⟨rfl, rfl⟩ rfl ⟨bD, bE, bD, bE, trivial⟩
def BT : TyI := ⟨.ar 2 5, 2, 2, [.v (.int .u8 0), .v (.int .u8 0)]⟩
theorem zg : TyOK Tryz.prog 96 BT := TyOK.mk' (z := .agg #[.int .u8 0, .int .u8 0]) (by kernel_rfl) Tryz.underlying96 ⟨rfl, rfl⟩ rfl ⟨z_v _ rfl, z_v _ rfl, trivial⟩
def yC : TyI := ⟨.int .u64, 1, 8, [.v (.int .u64 0)]⟩
theorem wx : TyOK Tryz.prog 103 yC := TyOK.mk' (z := .int .u64 0) (by kernel_rfl) Tryz.underlying103 rfl rfl ⟨z_v _ rfl, trivial⟩
def yB : TyI := ⟨.int .u32, 1, 4, [.v (.int .u32 0)]⟩
theorem ww : TyOK Tryz.prog 105 yB := TyOK.mk' (z := .int .u32 0) (by kernel_rfl) Tryz.underlying105 rfl rfl ⟨z_v _ rfl, trivial⟩
def yA : TyI := ⟨.int .u64, 1, 8, [.v (.int .u64 0)]⟩
theorem wu : TyOK Tryz.prog 106 yA := TyOK.mk' (z := .int .u64 0) (by kernel_rfl) Tryz.underlying106 rfl rfl ⟨z_v _ rfl, trivial⟩
def yy : TyI := ⟨.sl 105, 1, 24, [.sl 0 []]⟩
theorem wq : TyOK Tryz.prog 114 yy := TyOK.mk' (z := .slice none 0 0) (by kernel_rfl) Tryz.underlying114 rfl rfl ⟨bL, trivial⟩
def yx : TyI := ⟨.sl 142, 1, 24, [.sl 0 []]⟩
theorem wo : TyOK Tryz.prog 138 yx := TyOK.mk' (z := .slice none 0 0) (by kernel_rfl) Tryz.underlying138 rfl rfl ⟨bL, trivial⟩
def yv : TyI := ⟨.st [(0, 3), (1, 140)], 2, 16, [.v (.int .i64 0), .v (.nilFunc)]⟩
theorem wm : TyOK Tryz.prog 141 yv := TyOK.mk' (z := .agg #[.int .i64 0, .nilFunc]) (by kernel_rfl) Tryz.underlying141 rfl rfl ⟨z_v _ rfl, z_v _ rfl, trivial⟩
def yu : TyI := ⟨.st [(0, 3), (1, 140)], 2, 16, [.v (.int .i64 0), .v (.nilFunc)]⟩
theorem wj : TyOK Tryz.prog 142 yu := TyOK.mk' (z := .agg #[.int .i64 0, .nilFunc]) (by kernel_rfl) Tryz.underlying142 rfl rfl ⟨z_v _ rfl, z_v _ rfl, trivial⟩
def yt : TyI := ⟨.pt 163, 1, 8, [.v (.pointer none)]⟩
theorem wi : TyOK Tryz.prog 161 yt := TyOK.mk' (z := .pointer none) (by kernel_rfl) Tryz.underlying161 rfl rfl ⟨z_v _ rfl, trivial⟩
def yr : TyI := ⟨.st [(0, 46), (6, 87)], 14, 224, [zn 0, zm 0, zn 0, zm 0, zn 0, zm 0, zn 0, zm 0, zn 0, zm 0, zn 0, zm 0, zn 0, zm 0]⟩
theorem wg : TyOK Tryz.prog 162 yr := TyOK.mk' (z := .agg #[.bool false, .slice none 0 0, .bool false, .slice none 0 0, .bool false, .slice none 0 0, .bool false, .slice none 0 0, .bool false, .slice none 0 0, .bool false, .slice none 0 0, .bool false, .slice none 0 0]) (by kernel_rfl) Tryz.underlying162 rfl rfl ⟨bD, bE, bD, bE, bD, bE, bD, bE, bD, bE, bD, bE, bD, bE, trivial⟩
def yq : TyI := ⟨.st [(0, 46), (6, 87)], 14, 224, [zn 0, zm 0, zn 0, zm 0, zn 0, zm 0, zn 0, zm 0, zn 0, zm 0, zn 0, zm 0, zn 0, zm 0]⟩
theorem we : TyOK Tryz.prog 163 yq := TyOK.mk' (z := .agg #[.bool false, .slice none 0 0, .bool false, .slice none 0 0, .bool false, .slice none 0 0, .bool false, .slice none 0 0, .bool false, .slice none 0 0, .bool false, .slice none 0 0, .bool false, .slice none 0 0]) (by kernel_rfl) Tryz.underlying163 rfl rfl ⟨bD, bE, bD, bE, bD, bE, bD, bE, bD, bE, bD, bE, bD, bE, trivial⟩
def yp : TyI := ⟨.st [(0, 2), (1, 2), (2, 2)], 3, 24, [.v (.int .i64 0), .v (.int .i64 0), .v (.int .i64 0)]⟩
theorem wc : TyOK Tryz.prog 175 yp := TyOK.mk' (z := .agg #[.int .i64 0, .int .i64 0, .int .i64 0]) (by kernel_rfl) Tryz.underlying175 rfl rfl ⟨z_v _ rfl, z_v _ rfl, z_v _ rfl, trivial⟩
def yo : TyI := ⟨.st [(0, 2), (1, 2), (2, 2)], 3, 24, [.v (.int .i64 0), .v (.int .i64 0), .v (.int .i64 0)]⟩
theorem wb : TyOK Tryz.prog 176 yo := TyOK.mk' (z := .agg #[.int .i64 0, .int .i64 0, .int .i64 0]) (by kernel_rfl) Tryz.underlying176 rfl rfl ⟨z_v _ rfl, z_v _ rfl, z_v _ rfl, trivial⟩
def yl : TyI := ⟨.sl 192, 1, 24, [.sl 0 []]⟩
theorem v7 : TyOK Tryz.prog 190 yl := TyOK.mk' (z := .slice none 0 0) (by kernel_rfl) Tryz.underlying190 rfl rfl ⟨bL, trivial⟩
def yk : TyI := ⟨.ar 2 3, 2, 16, [.v (.int .i64 0), .v (.int .i64 0)]⟩
theorem v6 : TyOK Tryz.prog 192 yk := TyOK.mk' (z := .agg #[.int .i64 0, .int .i64 0]) (by kernel_rfl) Tryz.underlying192 ⟨rfl, rfl⟩ rfl ⟨z_v _ rfl, z_v _ rfl, trivial⟩
def yj : TyI := ⟨.ar 3 29, 6, 96, [zn 0, zm 0, zn 0, zm 0, zn 0, zm 0]⟩
theorem vZ : TyOK Tryz.prog 206 yj := TyOK.mk' (z := .agg #[.bool false, .slice none 0 0, .bool false, .slice none 0 0, .bool false, .slice none 0 0]) (by kernel_rfl) Tryz.underlying206 ⟨rfl, rfl⟩ rfl ⟨bD, bE, bD, bE, bD, bE, trivial⟩
def yi : TyI := ⟨.sl 2, 1, 24, [.sl 0 []]⟩
theorem vY : TyOK Tryz.prog 219 yi := TyOK.mk' (z := .slice none 0 0) (by kernel_rfl) Tryz.underlying219 rfl rfl ⟨bL, trivial⟩
def yg : TyI := ⟨.ar 2 93, 8, 128, [zn 0, zm 0, zn 0, zm 0, zn 0, zm 0, zn 0, zm 0]⟩
theorem vX : TyOK Tryz.prog 233 yg := TyOK.mk' (z := .agg #[.bool false, .slice none 0 0, .bool false, .slice none 0 0, .bool false, .slice none 0 0, .bool false, .slice none 0 0]) (by kernel_rfl) Tryz.underlying233 ⟨rfl, rfl⟩ rfl ⟨bD, bE, bD, bE, bD, bE, bD, bE, trivial⟩
def yf : TyI := ⟨.st [(0, 27), (1, 27)], 2, 48, [.sl 0 [], .sl 0 []]⟩
theorem vW : TyOK Tryz.prog 235 yf := TyOK.mk' (z := .agg #[.slice none 0 0, .slice none 0 0]) (by kernel_rfl) Tryz.underlying235 rfl rfl ⟨bL, bL, trivial⟩
def ye : TyI := ⟨.st [(0, 27), (1, 27)], 2, 48, [.sl 0 [], .sl 0 []]⟩
theorem vV : TyOK Tryz.prog 236 ye := TyOK.mk' (z := .agg #[.slice none 0 0, .slice none 0 0]) (by kernel_rfl) Tryz.underlying236 rfl rfl ⟨bL, bL, trivial⟩
def yd : TyI := ⟨.ar 8 3, 8, 64, [.v (.int .i64 0), .v (.int .i64 0), .v (.int .i64 0), .v (.int .i64 0), .v (.int .i64 0), .v (.int .i64 0), .v (.int .i64 0), .v (.int .i64 0)]⟩
theorem vU : TyOK Tryz.prog 244 yd := TyOK.mk' (z := .agg #[.int .i64 0, .int .i64 0, .int .i64 0, .int .i64 0, .int .i64 0, .int .i64 0, .int .i64 0, .int .i64 0]) (by kernel_rfl) Tryz.underlying244 ⟨rfl, rfl⟩ rfl ⟨z_v _ rfl, z_v _ rfl, z_v _ rfl, z_v _ rfl, z_v _ rfl, z_v _ rfl, z_v _ rfl, z_v _ rfl, trivial⟩
def yc : TyI := ⟨.int .i64, 1, 8, [.v (.int .i64 0)]⟩
theorem vT : TyOK Tryz.prog 249 yc := TyOK.mk' (z := .int .i64 0) (by kernel_rfl) Tryz.underlying249 rfl rfl ⟨z_v _ rfl, trivial⟩
def yb : TyI := ⟨.int .u64, 1, 8, [.v (.int .u64 0)]⟩
theorem vS : TyOK Tryz.prog 262 yb := TyOK.mk' (z := .int .u64 0) (by kernel_rfl) Tryz.underlying262 rfl rfl ⟨z_v _ rfl, trivial⟩
def ya : TyI := ⟨.pt 3, 1, 8, [.v (.pointer none)]⟩
theorem vR : TyOK Tryz.prog 266 ya := TyOK.mk' (z := .pointer none) (by kernel_rfl) Tryz.underlying266 rfl rfl ⟨z_v _ rfl, trivial⟩
def x9 : TyI := ⟨.pt 262, 1, 8, [.v (.pointer none)]⟩
theorem vQ : TyOK Tryz.prog 273 x9 := TyOK.mk' (z := .pointer none) (by kernel_rfl) Tryz.underlying273 rfl rfl ⟨z_v _ rfl, trivial⟩
def x8 : TyI := ⟨.pt 5, 1, 8, [.v (.pointer none)]⟩
theorem vP : TyOK Tryz.prog 286 x8 := TyOK.mk' (z := .pointer none) (by kernel_rfl) Tryz.underlying286 rfl rfl ⟨z_v _ rfl, trivial⟩
def x7 : TyI := ⟨.st [(0, 9)], 1, 16, [.v (.string ⟨#[]⟩)]⟩
theorem vO : TyOK Tryz.prog 291 x7 := TyOK.mk' (z := .agg #[.string ⟨#[]⟩]) (by kernel_rfl) Tryz.underlying291 rfl rfl ⟨z_v _ rfl, trivial⟩
def yz : TyI := ⟨.ot, 1, 8, [.v (.nilFunc)]⟩
theorem wt : TyOK Tryz.prog 108 yz := TyOK.mk' (z := .nilFunc) (by kernel_rfl) Tryz.underlying108 trivial rfl ⟨z_v _ rfl, trivial⟩
def yw : TyI := ⟨.ot, 1, 8, [.v (.nilFunc)]⟩
theorem wn : TyOK Tryz.prog 140 yw := TyOK.mk' (z := .nilFunc) (by kernel_rfl) Tryz.underlying140 trivial rfl ⟨z_v _ rfl, trivial⟩
def yn : TyI := ⟨.ot, 1, 8, [.v (.nilFunc)]⟩
theorem wa : TyOK Tryz.prog 183 yn := TyOK.mk' (z := .nilFunc) (by kernel_rfl) Tryz.underlying183 trivial rfl ⟨z_v _ rfl, trivial⟩
def ym : TyI := ⟨.ot, 1, 8, [.v (.nilFunc)]⟩
theorem v8 : TyOK Tryz.prog 187 ym := TyOK.mk' (z := .nilFunc) (by kernel_rfl) Tryz.underlying187 trivial rfl ⟨z_v _ rfl, trivial⟩
def tt : TT := oJ [(2, ty2), (3, ty3), (4, ty4), (5, ty5), (9, ty9), (12, Cx), (21, Cw), (22, Cv), (23, Cu), (24, Ct), (25, Cs), (26, Cr), (27, Cq), (28, Cp), (29, Co), (32, Ck), (33, Cj), (36, Ci), (41, Cg), (42, Cf), (45, Ce), (46, Cd), (48, Cc), (53, Ca), (54, B9), (55, B8), (56, B7), (57, B6), (58, B5), (62, B3), (63, B2), (65, B1), (71, B0), (72, BZ), (74, BY), (84, BX), (86, BW), (87, BV), (93, BU), (96, BT), (103, yC), (105, yB), (106, yA), (114, yy), (138, yx), (141, yv), (142, yu), (161, yt), (162, yr), (163, yq), (175, yp), (176, yo), (190, yl), (192, yk), (206, yj), (219, yi), (233, yg), (235, yf), (236, ye), (244, yd), (249, yc), (262, yb), (266, ya), (273, x9), (286, x8), (291, x7), (108, yz), (140, yw), (183, yn), (187, ym)]
theorem hT : dx Tryz.prog tt := AllT.ok ⟨Cn, Ch, Cb, B4, BS, zS, zR, zQ, zP, zO, zN, zM, zL, zK, zJ, zI, zH, zG, zF, zE, zD, zC, zB, zA, zz, zy, zx, zw, zu, zt, zr, zq, zp, zo, zl, zk, zj, zi, zh, zg, wx, ww, wu, wq, wo, wm, wj, wi, wg, we, wc, wb, v7, v6, vZ, vY, vX, vW, vV, vU, vT, vS, vR, vQ, vP, vO, wt, wn, wa, v8, trivial⟩
theorem hP : Tryz.prog.follows .mixedOrders = true := by kernel_rfl
end
section
open Go Go.AM
theorem dQ (ws : List Nat) (hok : okW ws) :
  aG Tryz.prog 130 [.p (.c (W ws))] (.p (.c (nt (wv ws)))) := by
 refine aH Tryz.func130 rfl rfl rfl rfl ?_
 refine jx (t := 0) rfl rfl (fun hlen => ?_)
 refine ab hP<|ai rfl<|ae<|ak<|ay<|bj (ι := List Nat) (fun l => stL [(0, .p (.c (W l)))] []) (fun l => okW l ∧ wv l = wv ws ∧ l.length ≤ 140737488355328) (fun l => l.length) ws ⟨hok, rfl, hlen⟩ (aC ⟨.refl _, trivial⟩ trivial) ?_
 rintro l ⟨hl, hv, hn⟩
 refine ak<|ab hP<|aj rfl<|aa (aZ hT rfl rfl rfl rfl)<|aa (bK rfl rfl)<|aj rfl ?_
 refine a8 (t := 6) rfl (fun hg1 => ?_) (fun hg1 => ?_)
 ·have hg1_ := dT0 hg1
  refine aD hg1 (aw (rfl : _ = AV.p (.c _))) ?_
  refine aD hg1 (aw (rfl : _ = AV.p (.c _))) ?_
  refine aD hg1 (aZ hT rfl rfl rfl rfl) ?_
  refine aD hg1 (bA rfl rfl (by first | exact iW0 _ (by omega) | rfl)) ?_
  refine aD hg1 (by first | exact eW hT rfl rfl rfl rfl rfl rfl (by omega) | exact ce hT rfl rfl rfl rfl rfl rfl (by omega) (by first | exact jW (by omega) | simp)) ?_
  refine aD hg1 (bJ hT rfl rfl rfl (by first | rfl | exact lL (by omega))) ?_
  refine aD hg1 (bd rfl rfl) ?_
  refine aa (aQ rfl hg1 (rfl : _ = AV.p (.c _)))<|ae ?_
  refine aA rfl (fun hb2 => ?_) (fun hb2 => ?_)
  ·have hb2_ := bT hb2
   refine ao<|ay<|au hP<|aj rfl<|aj rfl<|aa (aZ hT rfl rfl rfl rfl)<|aa (bA rfl rfl (by first | exact iW0 _ (by omega) | rfl)) ?_
   refine aa (iY hT rfl rfl rfl rfl rfl rfl (by omega)) ?_
   refine ai rfl<|ae ?_
   have e : ((l.length : Int) - 1).toNat = l.length - 1 := by omega
   refine ⟨l.take (l.length - 1), ⟨hl.take _, ?_, ?_⟩, ?_, aC ⟨aB ?_, trivial⟩ trivial⟩
   ·rw [oQ (by omega) (by rw [← e]; omega), hv]
   ·rw [List.length_take]; omega
   ·rw [List.length_take]; omega
   show AV.p (.c (W (l.take ((l.length : Int) - 1).toNat))) = _
   rw [e]
  have hb2_ := bF hb2
  refine aV<|ab hP<|aj rfl<|ai rfl<|ae<|am<|E1 rfl rfl ?_
  have e : ((l.length : Int) - 1).toNat = l.length - 1 := by omega
  refine aB ?_
  rw [← hv, oD hl (.inr (by rw [← e]; omega))]
 have hg1_ := dF0 hg1
 iterate 7 refine a6 hg1 ?_
 refine aa (aP rfl hg1 (rfl : _ = AV.p (.c _)))<|ae<|aI rfl rfl<|aV<|ab hP<|aj rfl<|ai rfl<|ae<|am<|E1 rfl rfl ?_
 refine aB ?_
 rw [← hv, oD hl (.inl (by omega))]
end
section
open Go Go.AM
theorem oi (a : Int) :
  aG Tryz.prog 128 [Z a] (B false) := by
 refine aH Tryz.func128 rfl rfl rfl rfl ?_
 refine ab hP<|ai rfl<|ae<|ab hP<|aj rfl<|aj rfl<|aa (bh rfl rfl)<|ai rfl<|ae<|am<|E1 rfl rfl ?_
 exact aB (by simp)
theorem og (a : Int) :
  aG Tryz.prog 181 [.p (.c (.v (.int .u32 a)))] (B false) := by
 refine aH Tryz.func181 rfl rfl rfl rfl ?_
 refine ab hP<|ai rfl<|ae<|ab hP<|aj rfl<|aj rfl<|aa (bh rfl rfl)<|ai rfl<|ae<|am<|E1 rfl rfl ?_
 exact aB (by simp)
theorem lG (a b : Int) :
  aG Tryz.prog 57 [.p (.c (.v (.int .i64 a))), .p (.c (.v (.int .i64 b)))] (Z (bq a b)) := by
 refine aH Tryz.func57 rfl rfl rfl rfl ?_
 refine ab hP<|ai rfl<|ae<|ab hP<|aj rfl<|aa (ah (oi _)) ?_
 refine ai rfl<|ae<|ab hP<|aj rfl<|aa (ah (oi _)) ?_
 refine ai rfl<|ae<|ak<|ab hP<|aj rfl<|ae<|aI rfl rfl<|ao<|ak<|ab hP<|aj rfl<|ae<|aI rfl rfl<|ao<|ak<|ab hP<|aj rfl<|aj rfl<|aa (aU rfl rfl)<|ae ?_
 refine aA rfl (fun hb1 => ?_) (fun hb1 => ?_)
 ·have hb1_ := dT0 hb1
  refine ab hP<|ai rfl<|ae<|am<|E1 rfl rfl ?_
  exact aB (by unfold bq; rw [if_pos (by omega)])
 have hb1_ := dF0 hb1
 refine ao<|ak<|ab hP<|aj rfl<|aj rfl<|aa (bK rfl rfl)<|ae ?_
 refine aA rfl (fun hb2 => ?_) (fun hb2 => ?_)
 ·have hb2_ := dT0 hb2
  refine ab hP<|ai rfl<|ae<|am<|E1 rfl rfl ?_
  exact aB (by unfold bq; rw [if_neg (by omega), if_pos (by omega)])
 have hb2_ := dF0 hb2
 refine ao<|ab hP<|ai rfl<|ae<|am<|E1 rfl rfl ?_
 exact aB (by unfold bq; rw [if_neg (by omega), if_neg (by omega)])
theorem qX (a b : Int) :
  aG Tryz.prog 129 [.p (.c (.v (.int .u32 a))), .p (.c (.v (.int .u32 b)))] (Z (bq a b)) := by
 refine aH Tryz.func129 rfl rfl rfl rfl ?_
 refine ab hP<|ai rfl<|ae<|ab hP<|aj rfl<|aa (ah (og _)) ?_
 refine ai rfl<|ae<|ab hP<|aj rfl<|aa (ah (og _)) ?_
 refine ai rfl<|ae<|ak<|ab hP<|aj rfl<|ae<|aI rfl rfl<|ao<|ak<|ab hP<|aj rfl<|ae<|aI rfl rfl<|ao<|ak<|ab hP<|aj rfl<|aj rfl<|aa (aU rfl rfl)<|ae ?_
 refine aA rfl (fun hb1 => ?_) (fun hb1 => ?_)
 ·have hb1_ := dT0 hb1
  refine ab hP<|ai rfl<|ae<|am<|E1 rfl rfl ?_
  exact aB (by unfold bq; rw [if_pos (by omega)])
 have hb1_ := dF0 hb1
 refine ao<|ak<|ab hP<|aj rfl<|aj rfl<|aa (bK rfl rfl)<|ae ?_
 refine aA rfl (fun hb2 => ?_) (fun hb2 => ?_)
 ·have hb2_ := dT0 hb2
  refine ab hP<|ai rfl<|ae<|am<|E1 rfl rfl ?_
  exact aB (by unfold bq; rw [if_neg (by omega), if_pos (by omega)])
 have hb2_ := dF0 hb2
 refine ao<|ab hP<|ai rfl<|ae<|am<|E1 rfl rfl ?_
 exact aB (by unfold bq; rw [if_neg (by omega), if_neg (by omega)])
theorem Df (a b : Int) :
  aG Tryz.prog 60 [.p (.c (.sl 2 [.v (.int .i64 a), .v (.int .i64 b)]))] (Z (if a = 0 then b else a)) := by
 refine aH Tryz.func60 rfl rfl rfl rfl ?_
 refine ab hP<|ai rfl<|ae<|ab hP<|ai rfl<|ae<|ak<|ab hP<|aj rfl<|aa (aZ hT rfl rfl rfl rfl)<|aj rfl<|ae<|ay<|dy 3 ?_
 refine ab hP<|aa (aU rfl rfl)<|ae<|ak<|aN rfl (by decide) ?_
 refine ao<|ak<|ay<|ab hP<|cI ?_
 refine cz hT rfl rfl rfl ?_
 refine ai rfl<|ae<|ab hP<|aj rfl<|aj rfl<|aa (bh rfl rfl)<|ae ?_
 refine aA rfl (fun hb1 => ?_) (fun hb1 => ?_)
 ·have hb1_ := b9 hb1
  refine ab hP<|aj rfl<|ai rfl<|ae<|am<|E1 rfl rfl ?_
  exact aB (by rw [if_neg hb1_])
 have hb1_ := bY hb1
 refine ao<|au hP<|bp rfl rfl ?_
 refine aj rfl<|ae<|ab hP<|aa (aU rfl rfl)<|ae<|ak<|aN rfl (by decide) ?_
 refine ao<|ak<|ay<|ab hP<|cI ?_
 refine cz hT rfl rfl rfl ?_
 refine ai rfl<|ae<|ab hP<|aj rfl<|aj rfl<|aa (bh rfl rfl)<|ae ?_
 refine aA rfl (fun hb2 => ?_) (fun hb2 => ?_)
 ·have hb2_ := b9 hb2
  refine ab hP<|aj rfl<|ai rfl<|ae<|am<|E1 rfl rfl ?_
  exact aB (by rw [if_pos hb1_])
 have hb2_ := bY hb2
 refine ao<|au hP<|bp rfl rfl ?_
 refine aj rfl<|ae<|ab hP<|aa (aU rfl rfl)<|ae<|ak<|aI rfl (by decide) ?_
 refine aV<|ab hP<|aj rfl<|ai rfl<|ae<|am<|E1 rfl rfl ?_
 exact aB (by rw [if_pos hb1_, hb2_])
theorem y4 (x y c : Nat) (hx : x < 4294967296) (hy : y < 4294967296) (hc : c < 4294967296) :
  aG Tryz.prog 169 [.p (.c (w32 x)), .p (.c (w32 y)), .p (.c (w32 c))] (.t [.c (w32 ((x + y + c) % 4294967296)), .c (w32 ((x + y + c) / 4294967296))]) := by
 refine aH Tryz.func169 rfl rfl rfl rfl ?_
 refine ab hP<|ai rfl<|ai rfl<|ae<|ab hP<|aj rfl<|aa (aY hT rfl rfl rfl rfl (by first | exact IntWalk.u64_in _ (by omega) | rfl)) ?_
 refine aj rfl<|aa (aY hT rfl rfl rfl rfl (by first | exact IntWalk.u64_in _ (by omega) | rfl)) ?_
 refine aa (bI rfl rfl (c := ((x + y : Nat) : Int)) (by rw [IntWalk.u64_in _ (by omega)]; omega)) ?_
 refine aj rfl<|aa (aY hT rfl rfl rfl rfl (by first | exact IntWalk.u64_in _ (by omega) | rfl)) ?_
 refine aa (bI rfl rfl (c := ((x + y + c : Nat) : Int)) (by rw [IntWalk.u64_in _ (by omega)]; omega)) ?_
 refine ai rfl<|ae<|ab hP<|aj rfl<|aa (aY hT rfl rfl rfl rfl (c := (((x + y + c) % 4294967296 : Nat) : Int)) (by rw [IntKind.wrap_u32]; omega)) ?_
 refine ai rfl<|ae<|ab hP<|aj rfl<|aa (dJ (j := 32) rfl rfl (by first | decide | omega)) ?_
 refine aa (aY hT rfl rfl rfl rfl (c := (((x + y + c) / 4294967296 : Nat) : Int)) (by rw [IntWalk.u32_in _ (by omega)])) ?_
 refine ai rfl<|ae<|am<|E11 rfl rfl rfl ?_
 exact .refl _
theorem sP (x y c : Nat) (hx : x < 4294967296) (hy : y < 4294967296) (hc : c < 2) :
  aG Tryz.prog 170 [.p (.c (w32 x)), .p (.c (w32 y)), .p (.c (w32 c))] (.t [.c (w32 ((x + 8589934592 - y - c) % 4294967296)), .c (w32 (if x < y + c then 1 else 0))]) := by
 have hxy : (x ^^^ y) < 4294967296 := Nat.xor_lt_two_pow (n := 32) hx hy
 have hd : (x + 8589934592 - y - c) % 4294967296 < 4294967296 := Nat.mod_lt _ (by omega)
 have h1 : ((4294967295 - x) &&& y) < 4294967296 := Nat.lt_of_le_of_lt Nat.and_le_right hy
 have h2 : ((4294967295 - (x ^^^ y)) &&& ((x + 8589934592 - y - c) % 4294967296)) < 4294967296 := Nat.lt_of_le_of_lt Nat.and_le_right hd
 refine aH Tryz.func170 rfl rfl rfl rfl ?_
 refine ab hP<|ai rfl<|ai rfl<|ae<|ab hP<|aj rfl<|aj rfl<|aa (bA rfl rfl rfl)<|aj rfl<|aa (bA rfl rfl (c := (((x + 8589934592 - y - c) % 4294967296 : Nat) : Int)) (by simp only [IntKind.wrap_u32]; omega)) ?_
 refine ai rfl<|ae<|ab hP<|aj rfl<|aa (nX rfl (by first | assumption | omega)) ?_
 refine aj rfl<|aa (mS rfl rfl rfl (by first | exact gA (by omega) | exact fN (by omega)) (by first | exact gA (by omega) | exact fN (by omega))) ?_
 refine aj rfl<|aj rfl<|aa (AB rfl rfl rfl (by first | exact gA (by omega) | exact fN (by omega)) (by first | exact gA (by omega) | exact fN (by omega))) ?_
 refine aa (nX rfl (by first | assumption | omega)) ?_
 refine aj rfl<|aa (mS rfl rfl rfl (by first | exact gA (by omega) | exact fN (by omega)) (by first | exact gA (by omega) | exact fN (by omega))) ?_
 refine aa (uG rfl rfl rfl (by first | exact gA (by omega) | exact fN (by omega)) (by first | exact gA (by omega) | exact fN (by omega))) ?_
 refine aa (dJ (j := 31) rfl rfl (by first | decide | omega)) ?_
 refine ai rfl<|ae<|am<|E11 rfl rfl rfl ?_
 exact aB (by rw [tL x y c hx hy hc]; rfl)
theorem A1 : ∀ m, m < 256 → (⟨#[0, 1, 2, 2, 3, 3, 3, 3, 4, 4, 4, 4, 4, 4, 4, 4, 5, 5, 5, 5, 5, 5, 5, 5, 5, 5, 5, 5, 5, 5, 5, 5, 6, 6, 6, 6, 6, 6, 6, 6, 6, 6, 6, 6, 6, 6, 6, 6, 6, 6, 6, 6, 6, 6, 6, 6, 6, 6, 6, 6, 6, 6, 6, 6, 7, 7, 7, 7, 7, 7, 7, 7, 7, 7, 7, 7, 7, 7, 7, 7, 7, 7, 7, 7, 7, 7, 7, 7, 7, 7, 7, 7, 7, 7, 7, 7, 7, 7, 7, 7, 7, 7, 7, 7, 7, 7, 7, 7, 7, 7, 7, 7, 7, 7, 7, 7, 7, 7, 7, 7, 7, 7, 7, 7, 7, 7, 7, 7, 8, 8, 8, 8, 8, 8, 8, 8, 8, 8, 8, 8, 8, 8, 8, 8, 8, 8, 8, 8, 8, 8, 8, 8, 8, 8, 8, 8, 8, 8, 8, 8, 8, 8, 8, 8, 8, 8, 8, 8, 8, 8, 8, 8, 8, 8, 8, 8, 8, 8, 8, 8, 8, 8, 8, 8, 8, 8, 8, 8, 8, 8, 8, 8, 8, 8, 8, 8, 8, 8, 8, 8, 8, 8, 8, 8, 8, 8, 8, 8, 8, 8, 8, 8, 8, 8, 8, 8, 8, 8, 8, 8, 8, 8, 8, 8, 8, 8, 8, 8, 8, 8, 8, 8, 8, 8, 8, 8, 8, 8, 8, 8, 8, 8, 8, 8, 8, 8, 8, 8, 8, 8, 8, 8, 8, 8, 8, 8]⟩ : ByteArray)[m]? = some (UInt8.ofNat (bi m)) := by decide +kernel
theorem Gf : ∀ m, m < 256 → (UInt8.ofNat (bi m)).toNat = bi m := by decide +kernel
theorem lc {dst : Option Nat} {ty : TypeId} {pos : String} {af : Array Edge} {gd : Option (Nat × Bool)} {d : Nat} {ρ : Operand → AV} {own : Own} {x y : Operand} {m : Nat}
  (hx : ρ x = .p (.c (.v (.string ⟨#[0, 1, 2, 2, 3, 3, 3, 3, 4, 4, 4, 4, 4, 4, 4, 4, 5, 5, 5, 5, 5, 5, 5, 5, 5, 5, 5, 5, 5, 5, 5, 5, 6, 6, 6, 6, 6, 6, 6, 6, 6, 6, 6, 6, 6, 6, 6, 6, 6, 6, 6, 6, 6, 6, 6, 6, 6, 6, 6, 6, 6, 6, 6, 6, 7, 7, 7, 7, 7, 7, 7, 7, 7, 7, 7, 7, 7, 7, 7, 7, 7, 7, 7, 7, 7, 7, 7, 7, 7, 7, 7, 7, 7, 7, 7, 7, 7, 7, 7, 7, 7, 7, 7, 7, 7, 7, 7, 7, 7, 7, 7, 7, 7, 7, 7, 7, 7, 7, 7, 7, 7, 7, 7, 7, 7, 7, 7, 7, 8, 8, 8, 8, 8, 8, 8, 8, 8, 8, 8, 8, 8, 8, 8, 8, 8, 8, 8, 8, 8, 8, 8, 8, 8, 8, 8, 8, 8, 8, 8, 8, 8, 8, 8, 8, 8, 8, 8, 8, 8, 8, 8, 8, 8, 8, 8, 8, 8, 8, 8, 8, 8, 8, 8, 8, 8, 8, 8, 8, 8, 8, 8, 8, 8, 8, 8, 8, 8, 8, 8, 8, 8, 8, 8, 8, 8, 8, 8, 8, 8, 8, 8, 8, 8, 8, 8, 8, 8, 8, 8, 8, 8, 8, 8, 8, 8, 8, 8, 8, 8, 8, 8, 8, 8, 8, 8, 8, 8, 8, 8, 8, 8, 8, 8, 8, 8, 8, 8, 8, 8, 8, 8, 8, 8, 8, 8, 8]⟩)))) (hy : ρ y = .p (.c (.v (.int .u8 m)))) (hm : m < 256) : Eff Tryz.prog ⟨dst, .index 9 x y, ty, pos, af, gd⟩ d ρ own (.p (.c (.v (.int .u8 (bi m : Nat))))) [] none [] := by
 have h := pO (P := Tryz.prog) (dst := dst) (ty := ty) (pos := pos) (af := af) (gd := gd) (d := d) (own := own) hT (T := 9) rfl rfl hx hy (by omega) (by rw [Int.toNat_natCast]; exact A1 m hm)
 rw [Gf m hm] at h
 exact h
theorem yQ (x : Nat) (hx : x < 4294967296) :
  aG Tryz.prog 233 [.p (.c (w32 x))] (Z (bi x)) := by
 refine aH Tryz.func233 rfl rfl rfl rfl ?_
 refine ab hP<|ai rfl<|ae<|ak<|ab hP<|aj rfl<|aa (dL rfl rfl)<|ae ?_
 refine aA rfl (fun hb1 => ?_) (fun hb1 => ?_)
 ·have hb1_ := dT0 hb1
  refine ab hP<|aj rfl<|aa (dJ (j := 16) rfl rfl (by first | decide | omega)) ?_
  refine ai rfl<|ae<|au hP<|ai rfl<|ae<|ak<|ab hP<|aj rfl<|aa (dL rfl rfl)<|ae ?_
  refine aA rfl (fun hb2 => ?_) (fun hb2 => ?_)
  ·have hb2_ := dT0 hb2
   refine ab hP<|aj rfl<|aa (dJ (j := 8) rfl rfl (by first | decide | omega)) ?_
   refine ai rfl<|ae<|au hP<|aj rfl<|bp rfl rfl ?_
   refine ai rfl<|ae<|ab hP<|aj rfl<|aj rfl<|aa (aY hT rfl rfl rfl rfl (IntWalk.u8_in _ (by omega))) ?_
   refine aa (lc rfl rfl (by omega)) ?_
   refine aa (aY hT rfl rfl rfl rfl (iW0 _ (by first | (have h8 := bu (m := x / 2 ^ 16 / 2 ^ 8) (by omega); omega) | (have h8 := bu (m := x / 2 ^ 16) (by omega); omega) | (have h8 := bu (m := x / 2 ^ 8) (by omega); omega) | (have h8 := bu (m := x) (by omega); omega)))) ?_
   refine aa (bI rfl rfl (iW0 _ (by first | (have h8 := bu (m := x / 2 ^ 16 / 2 ^ 8) (by omega); omega) | (have h8 := bu (m := x / 2 ^ 16) (by omega); omega) | (have h8 := bu (m := x / 2 ^ 8) (by omega); omega) | (have h8 := bu (m := x) (by omega); omega)))) ?_
   refine ai rfl<|ae<|am<|E1 rfl rfl ?_
   have e : bi x = 16 + (8 + bi (x / 2 ^ 16 / 2 ^ 8)) := by rw [iL (k := 16) (by omega), iL (n := x / 2 ^ 16) (k := 8) (by omega)]
   exact aL (by omega)
  have hb2_ := dF0 hb2
  refine ao<|ab hP<|aj rfl<|aj rfl<|aa (aY hT rfl rfl rfl rfl (IntWalk.u8_in _ (by omega))) ?_
  refine aa (lc rfl rfl (by omega)) ?_
  refine aa (aY hT rfl rfl rfl rfl (iW0 _ (by first | (have h8 := bu (m := x / 2 ^ 16 / 2 ^ 8) (by omega); omega) | (have h8 := bu (m := x / 2 ^ 16) (by omega); omega) | (have h8 := bu (m := x / 2 ^ 8) (by omega); omega) | (have h8 := bu (m := x) (by omega); omega)))) ?_
  refine aa (bI rfl rfl (iW0 _ (by first | (have h8 := bu (m := x / 2 ^ 16 / 2 ^ 8) (by omega); omega) | (have h8 := bu (m := x / 2 ^ 16) (by omega); omega) | (have h8 := bu (m := x / 2 ^ 8) (by omega); omega) | (have h8 := bu (m := x) (by omega); omega)))) ?_
  refine ai rfl<|ae<|am<|E1 rfl rfl ?_
  have e : bi x = 16 + bi (x / 2 ^ 16) := by rw [iL (k := 16) (by omega)]
  exact aL (by omega)
 have hb1_ := dF0 hb1
 refine ao<|ak<|ab hP<|aj rfl<|aa (dL rfl rfl)<|ae ?_
 refine aA rfl (fun hb3 => ?_) (fun hb3 => ?_)
 ·have hb3_ := dT0 hb3
  refine ab hP<|aj rfl<|aa (dJ (j := 8) rfl rfl (by first | decide | omega)) ?_
  refine ai rfl<|ae<|au hP<|aj rfl<|bp rfl rfl ?_
  refine ai rfl<|ae<|ab hP<|aj rfl<|aj rfl<|aa (aY hT rfl rfl rfl rfl (IntWalk.u8_in _ (by omega))) ?_
  refine aa (lc rfl rfl (by omega)) ?_
  refine aa (aY hT rfl rfl rfl rfl (iW0 _ (by first | (have h8 := bu (m := x / 2 ^ 16 / 2 ^ 8) (by omega); omega) | (have h8 := bu (m := x / 2 ^ 16) (by omega); omega) | (have h8 := bu (m := x / 2 ^ 8) (by omega); omega) | (have h8 := bu (m := x) (by omega); omega)))) ?_
  refine aa (bI rfl rfl (iW0 _ (by first | (have h8 := bu (m := x / 2 ^ 16 / 2 ^ 8) (by omega); omega) | (have h8 := bu (m := x / 2 ^ 16) (by omega); omega) | (have h8 := bu (m := x / 2 ^ 8) (by omega); omega) | (have h8 := bu (m := x) (by omega); omega)))) ?_
  refine ai rfl<|ae<|am<|E1 rfl rfl ?_
  have e : bi x = 8 + bi (x / 2 ^ 8) := by rw [iL (k := 8) (by omega)]
  exact aL (by omega)
 have hb3_ := dF0 hb3
 refine ao<|ab hP<|aj rfl<|aj rfl<|aa (aY hT rfl rfl rfl rfl (IntWalk.u8_in _ (by omega))) ?_
 refine aa (lc rfl rfl (by omega)) ?_
 refine aa (aY hT rfl rfl rfl rfl (iW0 _ (by first | (have h8 := bu (m := x / 2 ^ 16 / 2 ^ 8) (by omega); omega) | (have h8 := bu (m := x / 2 ^ 16) (by omega); omega) | (have h8 := bu (m := x / 2 ^ 8) (by omega); omega) | (have h8 := bu (m := x) (by omega); omega)))) ?_
 refine aa (bI rfl rfl (iW0 _ (by first | (have h8 := bu (m := x / 2 ^ 16 / 2 ^ 8) (by omega); omega) | (have h8 := bu (m := x / 2 ^ 16) (by omega); omega) | (have h8 := bu (m := x / 2 ^ 8) (by omega); omega) | (have h8 := bu (m := x) (by omega); omega)))) ?_
 refine ai rfl<|ae<|am<|E1 rfl rfl ?_
 exact aL (by omega)
theorem GO (x : Nat) (hx : x < 4294967296) :
  aG Tryz.prog 206 [.p (.c (w32 x))] (Z (32 - (bi x : Nat))) := by
 have hb := fT (k := 32) hx
 refine aH Tryz.func206 rfl rfl rfl rfl ?_
 refine ab hP<|ai rfl<|ae<|ab hP<|aj rfl<|aa (ah (yQ _ (by assumption))) ?_
 refine aa (bA rfl rfl (by first | exact iW0 _ (by omega) | rfl)) ?_
 refine ai rfl<|ae<|am<|E1 rfl rfl ?_
 exact .refl _
theorem F6 (hi lo y : Nat) (hy : y < 4294967296) (hh : hi < y) (hl : lo < 4294967296) :
  aG Tryz.prog 238 [.p (.c (w32 hi)), .p (.c (w32 lo)), .p (.c (w32 y))] (.t [.c (w32 ((hi * 4294967296 + lo) / y)), .c (w32 ((hi * 4294967296 + lo) % y))]) := by
 have hq : (hi * 4294967296 + lo) / y < 4294967296 := (Nat.div_lt_iff_lt_mul (by omega)).2 (by have : (hi + 1) * 4294967296 ≤ y * 4294967296 := Nat.mul_le_mul_right _ hh; omega)
 have hr : (hi * 4294967296 + lo) % y < y := Nat.mod_lt _ (by omega)
 refine aH Tryz.func238 rfl rfl rfl rfl ?_
 refine ab hP<|ai rfl<|ai rfl<|ae<|ak<|ab hP<|aj rfl<|aa (bh rfl rfl)<|aj rfl<|da (bX rfl rfl (bne_iff_ne.2 (by omega))) (aw (rfl : _ = AV.p (.c _))) ?_
 refine da (bX rfl rfl (bne_iff_ne.2 (by omega))) (aw (rfl : _ = AV.p (.c _))) ?_
 refine da (bX rfl rfl (bne_iff_ne.2 (by omega))) (ie rfl rfl) ?_
 refine aa (aQ rfl (bne_iff_ne.2 (by omega)) (rfl : _ = AV.p (.c _))) ?_
 refine ae<|aI rfl (decide_eq_false (by omega)) ?_
 refine ao<|ab hP<|aj rfl<|aa (aY hT rfl rfl rfl rfl (IntWalk.u64_in _ (by omega))) ?_
 refine aa (kZ (j := 32) rfl rfl (by first | decide | omega) rfl) ?_
 refine aj rfl<|aa (aY hT rfl rfl rfl rfl (IntWalk.u64_in _ (by omega))) ?_
 refine aa (k9 rfl rfl (kG (by omega) hl)) ?_
 refine ai rfl<|ae<|ab hP<|aj rfl<|aj rfl<|aa (aY hT rfl rfl rfl rfl (IntWalk.u64_in _ (by omega))) ?_
 refine aa (dU rfl rfl (by omega) (c := (((hi * 4294967296 + lo) / y : Nat) : Int)) (by rw [Int.tdiv_eq_ediv_of_nonneg (by omega), ← Int.natCast_ediv, dq (by omega)])) ?_
 refine aa (aY hT rfl rfl rfl rfl (mJ (by omega))) ?_
 refine aj rfl<|aj rfl<|aa (aY hT rfl rfl rfl rfl (IntWalk.u64_in _ (by omega))) ?_
 refine aa (cr rfl rfl (by omega) (c := (((hi * 4294967296 + lo) % y : Nat) : Int)) (by rw [Int.tmod_eq_emod_of_nonneg (by omega), ← Int.natCast_emod])) ?_
 refine aa (aY hT rfl rfl rfl rfl (mJ (by omega))) ?_
 refine ai rfl<|ai rfl<|ae<|am<|E11 rfl rfl rfl ?_
 exact .refl _
end
section
open Go Go.AM
theorem mV (m n : Nat) :
  aG Tryz.prog 59 [.p (.c (nt m)), .p (.c (nt n))] (Z (bq m n)) := by
 refine aH Tryz.func59 rfl rfl rfl rfl ?_
 refine jx (t := 0) rfl rfl (fun hlen => ?_)
 refine jx (t := 1) rfl rfl (fun hlen2 => ?_)
 refine ab hP<|ai rfl<|ae<|ak<|ab hP<|aj rfl<|aa (aZ hT rfl rfl rfl rfl)<|aj rfl<|aa (aZ hT rfl rfl rfl rfl)<|aa (ah (lG _ _)) ?_
 refine ai rfl<|ae<|ab hP<|aj rfl<|aa (bh rfl rfl)<|ae ?_
 refine aA rfl (fun hb1 => ?_) (fun hb1 => ?_)
 ·have hb1_ := b9 hb1
  refine ab hP<|aj rfl<|ai rfl<|ae<|am<|E1 rfl rfl ?_
  exact aL (Bs hb1_)
 have hb1_ := bY hb1
 refine ao<|ak<|ab hP<|aj rfl<|aa (aZ hT rfl rfl rfl rfl)<|aa (bA rfl rfl (by first | exact iW0 _ (by omega) | rfl)) ?_
 refine ai rfl<|ae<|ay ?_
 have hll : (wl m).length = (wl n).length := by have := gP hb1_; omega
 refine bj (ι := Nat) (fun k => stL [(0, .p (.c (nt m))), (1, .p (.c (nt n))), (6, Z ((k : Int) - 1))] []) (fun k => k ≤ (wl m).length ∧ (wl m).drop k = (wl n).drop k) (fun k => k) (wl m).length ⟨Nat.le_refl _, by rw [List.drop_length, hll, List.drop_length]⟩ (aC ⟨.refl _, .refl _, .refl _, trivial⟩ trivial) ?_
 rintro k ⟨hk, he⟩
 refine ak<|ab hP<|aj rfl<|aa (dL rfl rfl)<|ae ?_
 refine aA rfl (fun hb2 => ?_) (fun hb2 => ?_)
 ·have hb2_ := dT0 hb2
  refine ao<|ak<|ay<|ab hP<|aj rfl<|aj rfl<|aa (ce hT rfl rfl rfl rfl rfl rfl (l := (wl m).length) (xs := (wl m).map w32) (by omega) (jW (by omega))) ?_
  refine cz hT rfl rfl rfl ?_
  refine aj rfl<|aj rfl<|aa (ce hT rfl rfl rfl rfl rfl rfl (l := (wl n).length) (xs := (wl n).map w32) (by omega) (jW (by omega))) ?_
  refine cz hT rfl rfl rfl ?_
  refine aa (ah (qX _ _)) ?_
  refine ai rfl<|ae<|ab hP<|aj rfl<|aa (bh rfl rfl)<|ae ?_
  refine aA rfl (fun hb3 => ?_) (fun hb3 => ?_)
  ·have hb3_ := b9 hb3
   refine ab hP<|aj rfl<|ai rfl<|ae<|am<|E1 rfl rfl ?_
   have hkk : ((k : Int) - 1).toNat = k - 1 := by omega
   rw [hkk] at hb3_ ⊢
   have h2 := xH (bR m) (bR n) hll (k := k - 1) (by omega) (by rw [show k - 1 + 1 = k by omega]; exact he) hb3_
   rw [bN, bN] at h2
   exact aL h2
  have hb3_ := bY hb3
  refine ao<|au hP<|aj rfl<|aa (bA rfl rfl (by first | exact iW0 _ (by omega) | rfl)) ?_
  refine ai rfl<|ae ?_
  have hkk : ((k : Int) - 1).toNat = k - 1 := by omega
  have he2 := gP hb3_
  rw [hkk] at he2
  refine ⟨k - 1, ⟨by omega, ?_⟩, by omega, aC ⟨.refl _, .refl _, aL (by omega), trivial⟩ trivial⟩
  have e1 := dV (ws := wl m) (k := k - 1) (by omega)
  have e2 := dV (ws := wl n) (k := k - 1) (by omega)
  rw [e1, e2, show k - 1 + 1 = k by omega, he]
  congr 1
  omega
 have hb2_ := dF0 hb2
 refine aV<|ab hP<|ai rfl<|ae<|am<|E1 rfl rfl ?_
 have hk0 : k = 0 := by omega
 rw [hk0, List.drop_zero, List.drop_zero] at he
 have : m = n := by rw [← bN m, he, bN]
 exact aL (by rw [this, gw])
theorem AO (a b : List Nat) (ha : okW a) (hb : okW b) (hla : a.length ≤ 1099511627776) (hlb : b.length ≤ 1099511627776) :
  aG Tryz.prog 106 [.p (.c (W a)), .p (.c (W b))] (.p (.c (nt (wv a + wv b)))) := by
 refine aH Tryz.func106 rfl rfl rfl rfl ?_
 refine ab hP<|ai rfl<|ae<|cf (ι := List Nat × List Nat) (fun ⟨p, q⟩ => stL [(0, .p (.c (W p))), (1, .p (.c (W q)))] []) (fun ⟨p, q⟩ => okW p ∧ okW q ∧ q.length ≤ p.length ∧ p.length ≤ 1099511627776 ∧ wv p + wv q = wv a + wv b) ?_ ?_
 ·refine ab hP<|aj rfl<|aa (aZ hT rfl rfl rfl rfl)<|aj rfl<|aa (aZ hT rfl rfl rfl rfl)<|aa (aU rfl rfl)<|ae ?_
  refine aA rfl (fun hb1 => ?_) (fun hb1 => ?_)
  ·have hb1_ := dT0 hb1
   refine au hP<|aj rfl<|aj rfl<|ai rfl<|ai rfl<|ae ?_
   exact ⟨(b, a), ⟨hb, ha, by omega, hlb, Nat.add_comm _ _⟩, aC ⟨.refl _, .refl _, trivial⟩ trivial⟩
  have hb1_ := dF0 hb1
  refine ao ?_
  exact ⟨(a, b), ⟨ha, hb, by omega, hla, rfl⟩, aC ⟨.refl _, .refl _, trivial⟩ trivial⟩
 clear hla hlb
 generalize hS : wv a + wv b = S
 clear ha hb
 rintro ⟨a, b⟩ ⟨ha, hb, hl, hla, hs⟩
 refine ab hP<|aj rfl<|aa (aZ hT rfl rfl rfl rfl)<|bp rfl rfl ?_
 refine an ag (eE hT rfl rfl rfl rfl rfl rfl rfl rfl (by omega)) ?_
 refine aa (bf (rfl : _ = AV.vec _))<|ae<|ab hP<|aa (aw (rfl : _ = AV.vec _))<|aj rfl<|RK.mut ag (kv hT rfl rfl rfl rfl rfl rfl rfl (by simp) (ws' := a ++ [0]) (by rw [wG])) ?_
 refine ae<|ab hP<|ai rfl<|ae<|ak<|ab hP<|aa (aw (rfl : _ = AV.vec _))<|aa (eT hT rfl rfl rfl rfl)<|aj rfl<|ae<|ay ?_
 have hA : okW (a ++ [0]) := ha.snoc (by omega)
 refine bj (ι := List Nat × Nat) (fun ⟨l, c⟩ => stL [(1, .p (.c (W b))), (5, .vec 19), (6, .p (.c (w32 c))), (24, Z (((a ++ [0]).length : Nat) : Int)), (25, Z ((l.length : Nat) : Int))] [(19, WB 105 (l ++ (a ++ [0]).drop l.length))]) (fun ⟨l, c⟩ => l.length ≤ (a ++ [0]).length ∧ okW l ∧ c < 2 ∧ wv l + 4294967296 ^ l.length * c = wv ((a ++ [0]).take l.length) + wv (b.take l.length)) (fun ⟨l, _⟩ => (a ++ [0]).length - l.length) ([], 0) ⟨Nat.zero_le _, okW.nil, by omega, by simp [wv]⟩ (aC ⟨.refl _, .refl _, .refl _, .refl _, .refl _, trivial⟩ ⟨rfl, trivial⟩) ?_
 rintro ⟨l, c⟩ ⟨hll, hol, hc, hv⟩
 have hmid := r7 hll
 have hAlen : (a ++ [0]).length = a.length + 1 := by simp
 refine ab hP<|aa (aU rfl rfl)<|ae<|ak ?_
 refine aA rfl (fun hb2 => ?_) (fun hb2 => ?_)
 ·have hb2_ := dT0 hb2
  have hlt : l.length < (a ++ [0]).length := by omega
  refine ao<|ak<|ay<|ab hP<|aj rfl<|ai rfl<|ae<|ab hP<|ai rfl<|ae<|cf (ι := Unit) (fun _ => stL [(1, .p (.c (W b))), (5, .vec 19), (6, .p (.c (w32 c))), (24, Z (((a ++ [0]).length : Nat) : Int)), (25, Z ((l.length : Nat) : Int)), (7, Z ((l.length : Nat) : Int)), (8, .p (.c (w32 (b.getD l.length 0))))] [(19, WB 105 (l ++ (a ++ [0]).drop l.length))]) (fun _ => True) ?_ ?_
  ·refine ab hP<|aj rfl<|aj rfl<|aa (aZ hT rfl rfl rfl rfl)<|aa (aU rfl rfl)<|ae ?_
   refine aA rfl (fun hb3 => ?_) (fun hb3 => ?_)
   ·have hb3_ := dT0 hb3
    refine au hP<|aj rfl<|aj rfl<|cI ?_
    refine cz hT rfl rfl rfl ?_
    refine ai rfl<|ae ?_
    exact ⟨(), trivial, aC ⟨.refl _, .refl _, .refl _, .refl _, .refl _, .refl _, .refl _, trivial⟩ ⟨rfl, trivial⟩⟩
   have hb3_ := dF0 hb3
   refine ao ?_
   exact ⟨(), trivial, aC ⟨.refl _, .refl _, .refl _, .refl _, .refl _, .refl _, aB (by rw [nc (by omega)]; rfl), trivial⟩ ⟨rfl, trivial⟩⟩
  rintro _ -
  refine au hP<|aa (aw (rfl : _ = AV.vec _))<|aj rfl<|aa (aw (rfl : _ = AV.vec _))<|aj rfl<|cW ?_
  refine aa (di hT rfl rfl rfl rfl (by first | omega | (simp; omega)) (r8 hlt)) ?_
  refine aj rfl<|aj rfl<|aa (ah (y4 _ _ _ (hA.getD _) (hb.getD _) (by omega))) ?_
  refine aa (aw (rfl : _ = AV.t _))<|aa (aq rfl (v := .c _) rfl)<|aa (aq rfl (v := .c _) rfl)<|cW ?_
  refine dj ag (cG hT rfl rfl rfl rfl rfl (by first | omega | (simp; omega)) (r6 hlt)) ?_
  refine ai rfl<|ae<|au hP<|bp rfl rfl ?_
  refine aj rfl<|ae ?_
  have hs1 := hA.getD l.length
  have hs2 := hb.getD l.length
  have hr := vA (A := (a ++ [0])) (b := b) (_r := []) hlt rfl hv _ rfl
  refine ⟨(l ++ [((a ++ [0]).getD l.length 0 + b.getD l.length 0 + c) % 4294967296], ((a ++ [0]).getD l.length 0 + b.getD l.length 0 + c) / 4294967296), ⟨by simp; omega, hol.snoc (Nat.mod_lt _ (by omega)), by omega, by simpa using hr⟩, by simp; omega, aC ⟨.refl _, .refl _, .refl _, .refl _, aL (by simp), trivial⟩ ⟨rfl, trivial⟩⟩
 have hb2_ := dF0 hb2
 have hge : l.length = (a ++ [0]).length := by omega
 have hfin := hol.app (hA.drop l.length)
 have hval := vB hge hl ha hb hol hv
 refine aV<|dA (t := 5) rfl rfl ?_
 refine ab hP<|aj rfl<|aa (ah (dQ _ hfin)) ?_
 refine ai rfl<|ae<|am<|E1 rfl rfl ?_
 exact aB (by rw [hval, hs])
end
section
open Go Go.AM
theorem r5 (a b : List Nat) (ha : okW a) (hb : okW b) (hla : a.length ≤ 1099511627776) (hab : b.length ≤ a.length) (hle : wv b ≤ wv a) :
  aG Tryz.prog 107 [.p (.c (W a)), .p (.c (W b))] (.p (.c (nt (wv a - wv b)))) := by
 refine aH Tryz.func107 rfl rfl rfl rfl ?_
 have h0l : (0 : Nat) ≤ a.length := Nat.zero_le _
 refine ab hP<|ai rfl<|ae<|ab hP<|aj rfl<|aa (aZ hT rfl rfl rfl rfl)<|an ag (eE hT rfl rfl rfl rfl rfl rfl rfl rfl (by omega)) ?_
 refine aa (bf (rfl : _ = AV.vec _))<|ae<|ab hP<|aa (aw (rfl : _ = AV.vec _))<|aj rfl<|RK.mut ag (kv hT rfl rfl rfl rfl rfl rfl rfl (by simp) (ws' := a) (by rw [wI, List.append_nil])) ?_
 refine ae<|ab hP<|ai rfl<|ae<|ak<|ab hP<|aa (aw (rfl : _ = AV.vec _))<|aa (eT hT rfl rfl rfl rfl)<|aj rfl<|ae<|ay<|bj (ι := List Nat × Nat) (fun ⟨l, c⟩ => stL [(1, .p (.c (W b))), (5, .vec 11), (6, .p (.c (w32 c))), (16, Z ((a.length : Nat) : Int)), (17, Z ((l.length : Nat) : Int))] [(11, WB 105 (l ++ a.drop l.length))]) (fun ⟨l, c⟩ => l.length ≤ a.length ∧ okW l ∧ c < 2 ∧ wv l + wv (b.take l.length) = wv (a.take l.length) + 4294967296 ^ l.length * c) (fun ⟨l, _⟩ => a.length - l.length) ([], 0) ⟨Nat.zero_le _, okW.nil, by omega, by simp [wv]⟩ (aC ⟨.refl _, .refl _, .refl _, .refl _, .refl _, trivial⟩ ⟨rfl, trivial⟩) ?_
 rintro ⟨l, c⟩ ⟨hll, hol, hc, hv⟩
 have hmid := r7 hll
 refine ab hP<|aa (aU rfl rfl)<|ae<|ak ?_
 refine aA rfl (fun hb1 => ?_) (fun hb1 => ?_)
 ·have hb1_ := dT0 hb1
  have hlt : l.length < a.length := by omega
  refine ao<|ak<|ay<|ab hP<|aj rfl<|ai rfl<|ae<|ab hP<|ai rfl<|ae<|cf (ι := Unit) (fun _ => stL [(1, .p (.c (W b))), (5, .vec 11), (6, .p (.c (w32 c))), (16, Z ((a.length : Nat) : Int)), (17, Z ((l.length : Nat) : Int)), (7, Z ((l.length : Nat) : Int)), (8, .p (.c (w32 (b.getD l.length 0))))] [(11, WB 105 (l ++ a.drop l.length))]) (fun _ => True) ?_ ?_
  ·refine ab hP<|aj rfl<|aj rfl<|aa (aZ hT rfl rfl rfl rfl)<|aa (aU rfl rfl)<|ae ?_
   refine aA rfl (fun hb2 => ?_) (fun hb2 => ?_)
   ·have hb2_ := dT0 hb2
    refine au hP<|aj rfl<|aj rfl<|cI ?_
    refine cz hT rfl rfl rfl ?_
    refine ai rfl<|ae ?_
    exact ⟨(), trivial, aC ⟨.refl _, .refl _, .refl _, .refl _, .refl _, .refl _, .refl _, trivial⟩ ⟨rfl, trivial⟩⟩
   have hb2_ := dF0 hb2
   refine ao ?_
   exact ⟨(), trivial, aC ⟨.refl _, .refl _, .refl _, .refl _, .refl _, .refl _, aB (by rw [nc (by omega)]; rfl), trivial⟩ ⟨rfl, trivial⟩⟩
  rintro _ -
  refine au hP<|aa (aw (rfl : _ = AV.vec _))<|aj rfl<|aa (aw (rfl : _ = AV.vec _))<|aj rfl<|cW ?_
  refine aa (di hT rfl rfl rfl rfl (by first | omega | (simp; omega)) (r8 hlt)) ?_
  refine aj rfl<|aj rfl<|aa (ah (sP _ _ _ (ha.getD _) (hb.getD _) hc)) ?_
  refine aa (aw (rfl : _ = AV.t _))<|aa (aq rfl (v := .c _) rfl)<|aa (aq rfl (v := .c _) rfl)<|cW ?_
  refine dj ag (cG hT rfl rfl rfl rfl rfl (by first | omega | (simp; omega)) (r6 hlt)) ?_
  refine ai rfl<|ae<|au hP<|bp rfl rfl ?_
  refine aj rfl<|ae ?_
  have hr := ue rfl hc ha hb hv
  refine ⟨(l ++ [(a.getD l.length 0 + 8589934592 - b.getD l.length 0 - c) % 4294967296], if a.getD l.length 0 < b.getD l.length 0 + c then 1 else 0), ⟨by simp; omega, hol.snoc (Nat.mod_lt _ (by omega)), by split <;> omega, by simpa using hr⟩, by simp; omega, aC ⟨.refl _, .refl _, .refl _, .refl _, aL (by simp), trivial⟩ ⟨rfl, trivial⟩⟩
 have hb1_ := dF0 hb1
 have hge : l.length = a.length := by omega
 have hfin := hol.app (ha.drop l.length)
 have hval := uf hge hab hle hol hv
 refine aV<|dA (t := 5) rfl rfl ?_
 refine ab hP<|aj rfl<|aa (ah (dQ _ hfin)) ?_
 refine ai rfl<|ae<|am<|E1 rfl rfl ?_
 exact aB (by rw [hval])
theorem AL (a b : List Nat) (ha : okW a) (hb : okW b) (hla : a.length ≤ 1099511627776) (hlb : b.length ≤ 1099511627776) :
  aG Tryz.prog 64 [.p (.c (W a)), .p (.c (W b))] (.p (.c (nt (wv a * wv b)))) := by
 refine aH Tryz.func64 rfl rfl rfl rfl ?_
 refine ab hP<|ai rfl<|ae<|ab hP<|aj rfl<|aa (aZ hT rfl rfl rfl rfl)<|aj rfl<|aa (aZ hT rfl rfl rfl rfl)<|bp rfl rfl ?_
 refine an ag (eE hT rfl rfl rfl rfl rfl rfl rfl rfl (by omega)) ?_
 refine aa (bf (rfl : _ = AV.vec _))<|ae<|ak<|ab hP<|aj rfl<|aa (aZ hT rfl rfl rfl rfl)<|aj rfl<|ae<|ay<|bj (ι := List Nat × Nat) (fun ⟨o, i⟩ => stL [(1, .p (.c (W b))), (5, .vec 17), (18, .p (.c (W a))), (19, Z ((a.length : Nat) : Int)), (20, Z (i : Int))] [(17, WB 105 o)]) (fun ⟨o, i⟩ => i ≤ a.length ∧ o.length = a.length + b.length ∧ okW o ∧ wv o = wv (a.take i) * wv b ∧ ∀ j, i + b.length ≤ j → o.getD j 0 = 0) (fun ⟨_, i⟩ => a.length - i) (List.replicate ((a.length : Int) + (b.length : Int)).toNat 0, 0) ⟨Nat.zero_le _, by simp; omega, okW.rep _, by rw [l5]; simp [wv], fun j _ => lS _ _⟩ (aC ⟨.refl _, .refl _, .refl _, .refl _, .refl _, trivial⟩ ⟨rfl, trivial⟩) ?_
 rintro ⟨o, i⟩ ⟨hi, hlo, ho, hv, hz⟩
 refine ab hP<|aa (aU rfl rfl)<|ae<|ak ?_
 refine aA rfl (fun hb1 => ?_) (fun hb1 => ?_)
 ·have hb1_ := dT0 hb1
  have hlt0 : i < a.length := by omega
  refine ao<|ak<|ay<|ab hP<|aj rfl<|cI ?_
  refine cz hT rfl rfl rfl ?_
  refine ai rfl<|ai rfl<|ae<|ab hP<|ai rfl<|ae<|ak<|ab hP<|aj rfl<|aa (aZ hT rfl rfl rfl rfl)<|aj rfl<|ae<|ay ?_
  obtain ⟨o0, ho0⟩ : ∃ o0, o0 = o := ⟨_, rfl⟩
  have hv0 := hv
  rw [← ho0] at hv
  refine bj (ι := List Nat × Nat × Nat) (fun ⟨o, k, c⟩ => stL [(1, .p (.c (W b))), (5, .vec 17), (18, .p (.c (W a))), (19, Z ((a.length : Nat) : Int)), (20, Z (i : Int)), (6, Z (i : Int)), (7, .p (.c (w32 (a.getD i 0)))), (8, .p (.c (.v (.int .u64 (c : Nat))))), (25, .p (.c (W b))), (26, Z ((b.length : Nat) : Int)), (27, Z (k : Int))] [(17, WB 105 o)]) (fun ⟨o, k, c⟩ => k ≤ b.length ∧ o.length = a.length + b.length ∧ okW o ∧ c < 4294967296 ∧ wv o + 4294967296 ^ (i + k) * c = wv o0 + 4294967296 ^ i * (a.getD i 0 * wv (b.take k)) ∧ ∀ j, i + b.length ≤ j → o.getD j 0 = 0) (fun ⟨_, k, _⟩ => b.length - k) (o, 0, 0) ⟨Nat.zero_le _, hlo, ho, by omega, by rw [ho0]; simp [wv], hz⟩ (aC ⟨.refl _, .refl _, .refl _, .refl _, .refl _, .refl _, .refl _, .refl _, .refl _, .refl _, .refl _, trivial⟩ ⟨rfl, trivial⟩) ?_
  clear hlo ho hz hv0 ho0
  rintro ⟨o, k, c⟩ ⟨hk, hlo, ho, hc, hkv, hz⟩
  refine ab hP<|aa (aU rfl rfl)<|ae<|ak ?_
  refine aA rfl (fun hb2 => ?_) (fun hb2 => ?_)
  ·have hb2_ := dT0 hb2
   have hlt : k < b.length := by omega
   have ha1 := ha.getD i
   have hb1v := hb.getD k
   have hp1 := Nat.mul_le_mul (Nat.le_sub_one_of_lt (ha.getD i)) (Nat.le_sub_one_of_lt (hb.getD k))
   have ho1 := ho.getD (i + k)
   refine ao<|ak<|ay<|ab hP<|aj rfl<|cI ?_
   refine cz hT rfl rfl rfl ?_
   refine ai rfl<|ai rfl<|ae<|ab hP<|aj rfl<|aa (aY hT rfl rfl rfl rfl (dq (by omega))) ?_
   refine aj rfl<|aa (aY hT rfl rfl rfl rfl (dq (by omega))) ?_
   refine aa (bH rfl rfl (c := ((a.getD i 0 * b.getD k 0 : Nat) : Int)) (by rw [← Int.natCast_mul, dq (by omega)])) ?_
   refine aa (aw (rfl : _ = AV.vec _))<|aj rfl<|aj rfl<|aa (bI rfl rfl (c := ((i + k : Nat) : Int)) (by rw [iW0 _ (by omega)]; omega)) ?_
   refine cW ?_
   refine aa (di hT rfl rfl rfl rfl (by first | omega | (simp; omega)) rfl) ?_
   refine aa (aY hT rfl rfl rfl rfl (dq (by omega))) ?_
   refine aa (bI rfl rfl (c := ((a.getD i 0 * b.getD k 0 + o.getD (i + k) 0 : Nat) : Int)) (by rw [← Int.natCast_add, dq (by omega)])) ?_
   refine aj rfl<|aa (bI rfl rfl (c := ((a.getD i 0 * b.getD k 0 + o.getD (i + k) 0 + c : Nat) : Int)) (by rw [← Int.natCast_add, dq (by omega)])) ?_
   refine ai rfl<|ae<|au hP<|aa (aw (rfl : _ = AV.vec _))<|aj rfl<|aj rfl<|aa (bI rfl rfl (c := ((i + k : Nat) : Int)) (by rw [iW0 _ (by omega)]; omega)) ?_
   refine aj rfl<|aa (aY hT rfl rfl rfl rfl (c := (((a.getD i 0 * b.getD k 0 + o.getD (i + k) 0 + c) % 4294967296 : Nat) : Int)) (by rw [IntKind.wrap_u32]; omega)) ?_
   refine aj rfl<|aa (dJ (j := 32) rfl rfl (by first | decide | omega)) ?_
   refine cW ?_
   refine dj ag (cG hT rfl rfl rfl rfl rfl (by first | omega | (simp; omega)) rfl) ?_
   refine ai rfl<|ae<|au hP<|bp rfl rfl ?_
   refine aj rfl<|ae ?_
   have hr := uK (b := b) (x := a.getD i 0) (i := i) (k := k) (t := a.getD i 0 * b.getD k 0 + o.getD (i + k) 0 + c) (by omega) rfl hkv
   refine ⟨(o.set (i + k) ((a.getD i 0 * b.getD k 0 + o.getD (i + k) 0 + c) % 4294967296), k + 1, (a.getD i 0 * b.getD k 0 + o.getD (i + k) 0 + c) / 4294967296), ⟨by omega, by simpa using hlo, ho.set (Nat.mod_lt _ (by omega)), (Nat.div_lt_iff_lt_mul (by omega)).2 (by omega), hr, fun j hj => ?_⟩, by show b.length - (k + 1) < b.length - k; omega, aC ⟨.refl _, .refl _, .refl _, .refl _, .refl _, .refl _, .refl _, .refl _, .refl _, .refl _, .refl _, trivial⟩ ⟨rfl, trivial⟩⟩
   rw [fg _ _ _ _ (by omega), if_neg (by omega)]
   exact hz j (by omega)
  have hb2_ := dF0 hb2
  have hke : k = b.length := by omega
  subst hke
  refine aV<|au hP<|aa (aw (rfl : _ = AV.vec _))<|aj rfl<|aj rfl<|aa (aZ hT rfl rfl rfl rfl)<|aa (bI rfl rfl (c := ((i + b.length : Nat) : Int)) (by rw [iW0 _ (by omega)]; omega)) ?_
  refine aj rfl<|aa (aY hT rfl rfl rfl rfl (mJ (by omega))) ?_
  refine cW ?_
  refine dj ag (cG hT rfl rfl rfl rfl rfl (by first | omega | (simp; omega)) rfl) ?_
  refine ae<|au hP<|bp rfl rfl ?_
  refine aj rfl<|ae ?_
  have hov := uL (o := o0) (a := a) (by omega) (hz _ (Nat.le_refl _)) rfl hv hkv
  refine ⟨(o.set (i + b.length) c, i + 1), ⟨by omega, by simpa using hlo, ho.set (by omega), hov, fun j hj => ?_⟩, by show a.length - (i + 1) < a.length - i; omega, aC ⟨.refl _, .refl _, .refl _, .refl _, .refl _, trivial⟩ ⟨rfl, trivial⟩⟩
  rw [fg _ _ _ _ (by omega), if_neg (by omega)]
  exact hz j (by omega)
 have hb1_ := dF0 hb1
 have hie : i = a.length := by omega
 refine aV<|dA (t := 5) rfl rfl ?_
 refine ab hP<|aj rfl<|aa (ah (dQ _ ho)) ?_
 refine ai rfl<|ae<|am<|E1 rfl rfl ?_
 exact aB (by rw [hv, hie, List.take_length])
end
section
open Go Go.AM
theorem mU (a : List Nat) (k : Nat) (ha : okW a) (hla : a.length ≤ 1099511627776) (hk : k ≤ 1099511627776) :
  aG Tryz.prog 207 [.p (.c (W a)), Z (k : Int)] (.p (.c (nt (wv a * 2 ^ k)))) := by
 refine aH Tryz.func207 rfl rfl rfl rfl ?_
 obtain ⟨q, hq⟩ : ∃ q, q = k / 32 := ⟨_, rfl⟩
 obtain ⟨s, hs⟩ : ∃ s, s = k % 32 := ⟨_, rfl⟩
 have hks : k = 32 * q + s := by omega
 have hs32 : s < 32 := by omega
 refine ab hP<|ai rfl<|ae<|ab hP<|aj rfl<|aa (aZ hT rfl rfl rfl rfl)<|aj rfl<|aa (dU rfl rfl (by decide) (c := ((q : Nat) : Int)) (by rw [Int.tdiv_eq_ediv_of_nonneg (by omega), iW0 _ (by omega)]; omega)) ?_
 refine aa (bI rfl rfl (c := ((a.length + q : Nat) : Int)) (by rw [iW0 _ (by omega)]; omega)) ?_
 refine aa (bI rfl rfl (c := ((a.length + q + 1 : Nat) : Int)) (by rw [iW0 _ (by omega)]; omega)) ?_
 refine an ag (eE hT rfl rfl rfl rfl rfl rfl rfl rfl (by omega)) ?_
 refine aa (bf (rfl : _ = AV.vec _))<|ae<|ak<|ab hP<|aj rfl<|aa (aZ hT rfl rfl rfl rfl)<|aj rfl<|ae<|ay<|bj (ι := List Nat × Nat) (fun ⟨o, i⟩ => stL [(1, Z (k : Int)), (5, .vec 15), (16, .p (.c (W a))), (17, Z ((a.length : Nat) : Int)), (18, Z (i : Int))] [(15, WB 105 o)]) (fun ⟨o, i⟩ => i ≤ a.length ∧ o.length = a.length + q + 1 ∧ okW o ∧ wv o = wv (a.take i) * 2 ^ k ∧ o.getD (i + q) 0 < 2 ^ s ∧ ∀ j, i + q < j → o.getD j 0 = 0) (fun ⟨_, i⟩ => a.length - i) (List.replicate ((a.length + q + 1 : Nat) : Int).toNat 0, 0) ⟨Nat.zero_le _, by simp; omega, okW.rep _, by rw [l5]; simp [wv], by rw [lS]; exact Nat.two_pow_pos s, fun j _ => lS _ _⟩ (aC ⟨.refl _, .refl _, .refl _, .refl _, .refl _, trivial⟩ ⟨rfl, trivial⟩) ?_
 rintro ⟨o, i⟩ ⟨hi, hlo, ho, hv, hlow, hz⟩
 refine ab hP<|aa (aU rfl rfl)<|ae<|ak ?_
 refine aA rfl (fun hb1 => ?_) (fun hb1 => ?_)
 ·have hb1_ := dT0 hb1
  have hlt : i < a.length := by omega
  have hai := ha.getD i
  have hoi := ho.getD (i + q)
  have hti : a.getD i 0 * 2 ^ s / 4294967296 < 4294967296 := ul hai hs32
  refine ao<|ak<|ay<|ab hP<|aj rfl<|cI ?_
  refine cz hT rfl rfl rfl ?_
  refine ai rfl<|ai rfl<|ae<|ab hP<|aj rfl<|aa (aY hT rfl rfl rfl rfl (dq (by omega))) ?_
  refine aj rfl<|aa (cr rfl rfl (by decide) (c := ((s : Nat) : Int)) (by rw [Int.tmod_eq_emod_of_nonneg (by omega)]; omega)) ?_
  refine aa (pK rfl rfl (by omega) (c := ((a.getD i 0 * 2 ^ s : Nat) : Int)) (ES hai hs32)) ?_
  refine ai rfl<|ae<|ab hP<|aa (aw (rfl : _ = AV.vec _))<|aj rfl<|aj rfl<|aa (dU rfl rfl (by decide) (c := ((q : Nat) : Int)) (by rw [Int.tdiv_eq_ediv_of_nonneg (by omega), iW0 _ (by omega)]; omega)) ?_
  refine aa (bI rfl rfl (c := ((i + q : Nat) : Int)) (by rw [iW0 _ (by omega)]; omega)) ?_
  refine cW ?_
  refine aa (di hT rfl rfl rfl rfl (by first | omega | (simp; omega)) rfl) ?_
  refine aj rfl<|aa (aY hT rfl rfl rfl rfl (c := ((a.getD i 0 * 2 ^ s % 4294967296 : Nat) : Int)) (by rw [IntKind.wrap_u32]; omega)) ?_
  refine aa (uG rfl rfl rfl (gA hoi) (gA (Nat.mod_lt _ (by omega)))) ?_
  refine cW ?_
  refine dj ag (cG hT rfl rfl rfl rfl rfl (by first | omega | (simp; omega)) rfl) ?_
  refine ae<|au hP<|aa (aw (rfl : _ = AV.vec _))<|aj rfl<|aj rfl<|aa (dU rfl rfl (by decide) (c := ((q : Nat) : Int)) (by rw [Int.tdiv_eq_ediv_of_nonneg (by omega), iW0 _ (by omega)]; omega)) ?_
  refine aa (bI rfl rfl (c := ((i + q : Nat) : Int)) (by rw [iW0 _ (by omega)]; omega)) ?_
  refine aa (bI rfl rfl (c := ((i + q + 1 : Nat) : Int)) (by rw [iW0 _ (by omega)]; omega)) ?_
  refine aj rfl<|aa (dJ (j := 32) rfl rfl (by decide)) ?_
  refine aa (aY hT rfl rfl rfl rfl (c := ((a.getD i 0 * 2 ^ s / 4294967296 : Nat) : Int)) (mJ hti)) ?_
  refine cW ?_
  refine dj ag (cG hT rfl rfl rfl rfl rfl (by first | omega | (simp; omega)) rfl) ?_
  refine ae<|au hP<|bp rfl rfl ?_
  refine aj rfl<|ae ?_
  have hr := uk (a := a) (x := a.getD i 0) hks hs32 (by omega) rfl hlow (hz _ (by omega)) hv
  have hts : a.getD i 0 * 2 ^ s / 4294967296 < 2 ^ s := by
   rw [Nat.div_lt_iff_lt_mul (by omega), Nat.mul_comm]; exact Nat.mul_lt_mul_of_pos_left hai (Nat.two_pow_pos s)
  refine ⟨((o.set (i + q) (o.getD (i + q) 0 ||| a.getD i 0 * 2 ^ s % 4294967296)).set (i + q + 1) (a.getD i 0 * 2 ^ s / 4294967296), i + 1), ⟨by omega, by simpa using hlo, (ho.set (Nat.or_lt_two_pow (n := 32) hoi (Nat.mod_lt _ (by omega)))).set hti, hr, ?_, fun j hj => ?_⟩, by show a.length - (i + 1) < a.length - i; omega, aC ⟨.refl _, .refl _, .refl _, .refl _, .refl _, trivial⟩ ⟨rfl, trivial⟩⟩
  ·rw [show i + 1 + q = i + q + 1 by omega, fg _ _ _ _ (by simp; omega), if_pos rfl]; exact hts
  rw [fg _ _ _ _ (by simp; omega), if_neg (by omega), fg _ _ _ _ (by omega), if_neg (by omega)]
  exact hz j (by omega)
 have hb1_ := dF0 hb1
 have hie : i = a.length := by omega
 refine aV<|dA (t := 5) rfl rfl ?_
 refine ab hP<|aj rfl<|aa (ah (dQ _ ho)) ?_
 refine ai rfl<|ae<|am<|E1 rfl rfl ?_
 exact aB (by rw [hv, hie, List.take_length])
theorem AI (a : List Nat) (k : Nat) (ha : okW a) (hla : a.length ≤ 1099511627776) (hk : k < 32) :
  aG Tryz.prog 208 [.p (.c (W a)), Z (k : Int)] (.p (.c (nt (wv a / 2 ^ k)))) := by
 refine aH Tryz.func208 rfl rfl rfl rfl ?_
 have h0l : (0 : Nat) ≤ a.length := Nat.zero_le _
 refine ab hP<|ai rfl<|ae<|ab hP<|aj rfl<|aa (aZ hT rfl rfl rfl rfl)<|an ag (eE hT rfl rfl rfl rfl rfl rfl rfl rfl (by omega)) ?_
 refine aa (bf (rfl : _ = AV.vec _))<|ae<|ak<|ab hP<|aa (aw (rfl : _ = AV.vec _))<|aa (eT hT rfl rfl rfl rfl)<|aj rfl<|ae<|ay<|bj (ι := List Nat × Nat) (fun ⟨o, i⟩ => stL [(0, .p (.c (W a))), (1, Z (k : Int)), (5, .vec 10), (12, Z ((a.length : Nat) : Int)), (13, Z (i : Int))] [(10, WB 105 o)]) (fun ⟨o, i⟩ => i ≤ a.length ∧ o.length = a.length ∧ ∀ j, j < i → o.getD j 0 = fJ a k j) (fun ⟨_, i⟩ => a.length - i) (List.replicate ((a.length : Nat) : Int).toNat 0, 0) ⟨Nat.zero_le _, by simp, fun j hj => by omega⟩ (aC ⟨.refl _, .refl _, .refl _, aL (by simp), .refl _, trivial⟩ ⟨rfl, trivial⟩) ?_
 rintro ⟨o, i⟩ ⟨hi, hlo, hv⟩
 refine ab hP<|aa (aU rfl rfl)<|ae<|ak ?_
 refine aA rfl (fun hb1 => ?_) (fun hb1 => ?_)
 ·have hb1_ := dT0 hb1
  have hlt : i < a.length := by omega
  have hai := ha.getD i
  refine ao<|ak<|ay<|ab hP<|aj rfl<|ai rfl<|ae<|ab hP<|aj rfl<|aj rfl<|cI ?_
  refine cz hT rfl rfl rfl ?_
  refine aa (aY hT rfl rfl rfl rfl (dq (by omega))) ?_
  refine ai rfl<|ae<|cf (ι := Unit) (fun _ => stL [(0, .p (.c (W a))), (1, Z (k : Int)), (5, .vec 10), (12, Z ((a.length : Nat) : Int)), (13, Z (i : Int)), (6, Z (i : Int)), (7, .p (.c (.v (.int .u64 ((a.getD i 0 + 4294967296 * a.getD (i + 1) 0 : Nat) : Int)))))] [(10, WB 105 o)]) (fun _ => True) ?_ ?_
  ·refine ab hP<|aj rfl<|aa (bI rfl rfl (c := ((i + 1 : Nat) : Int)) (by rw [iW0 _ (by omega)]; omega)) ?_
   refine aj rfl<|aa (aZ hT rfl rfl rfl rfl)<|aa (aU rfl rfl)<|ae ?_
   refine aA rfl (fun hb2 => ?_) (fun hb2 => ?_)
   ·have hb2_ := dT0 hb2
    refine au hP<|aj rfl<|aj rfl<|aj rfl<|aa (bI rfl rfl (c := ((i + 1 : Nat) : Int)) (by rw [iW0 _ (by omega)]; omega)) ?_
    refine cI ?_
    refine cz hT rfl rfl rfl ?_
    refine aa (aY hT rfl rfl rfl rfl (dq (by have := ha.getD (i + 1); omega))) ?_
    refine aa (kZ (j := 32) rfl rfl (by decide) rfl) ?_
    refine aa (k9 rfl rfl (c := ((a.getD i 0 + 4294967296 * a.getD (i + 1) 0 : Nat) : Int)) (by rw [vv hai (ha.getD (i + 1))])) ?_
    refine ai rfl<|ae ?_
    exact ⟨(), trivial, aC ⟨.refl _, .refl _, .refl _, .refl _, .refl _, .refl _, .refl _, trivial⟩ ⟨rfl, trivial⟩⟩
   have hb2_ := dF0 hb2
   refine ao ?_
   exact ⟨(), trivial, aC ⟨.refl _, .refl _, .refl _, .refl _, .refl _, .refl _, aL (by rw [nc (k := i + 1) (by omega)]; omega), trivial⟩ ⟨rfl, trivial⟩⟩
  rintro _ -
  have hai2 := ha.getD (i + 1)
  refine au hP<|aa (aw (rfl : _ = AV.vec _))<|aj rfl<|aj rfl<|aj rfl<|aa (dJ (j := k) rfl rfl (by show k ≤ 64; omega)) ?_
  refine aa (aY hT rfl rfl rfl rfl (c := ((fJ a k i : Nat) : Int)) (by rw [IntKind.wrap_u32]; unfold fJ; omega)) ?_
  refine cW ?_
  refine dj ag (cG hT rfl rfl rfl rfl rfl (by first | omega | (simp; omega)) rfl) ?_
  refine ae<|au hP<|bp rfl rfl ?_
  refine aj rfl<|ae ?_
  refine ⟨(o.set i (fJ a k i), i + 1), ⟨by omega, by simpa using hlo, fun j hj => ?_⟩, by show a.length - (i + 1) < a.length - i; omega, aC ⟨.refl _, .refl _, .refl _, .refl _, .refl _, trivial⟩ ⟨rfl, trivial⟩⟩
  rw [fg _ _ _ _ (by omega)]
  split
  ·subst_vars; rfl
  exact hv j (by omega)
 have hb1_ := dF0 hb1
 have hie : i = a.length := by omega
 have hoe := z1 (hie ▸ hv) hlo
 have hook := CM a k
 refine aV<|dA (t := 5) rfl rfl ?_
 refine ab hP<|aj rfl<|aa (ah (dQ _ (hoe ▸ hook))) ?_
 refine ai rfl<|ae<|am<|E1 rfl rfl ?_
 exact aB (by rw [hoe, rD k hk a ha])
theorem qS (a : List Nat) (d : Nat) (ha : okW a) (hla : a.length ≤ 1099511627776) (hd : 0 < d) (hd2 : d < 4294967296) :
  aG Tryz.prog 205 [.p (.c (W a)), .p (.c (w32 d))] (.t [.c (nt (wv a / d)), .c (w32 (wv a % d))]) := by
 refine aH Tryz.func205 rfl rfl rfl rfl ?_
 have h0l : (0 : Nat) ≤ a.length := Nat.zero_le _
 refine ab hP<|ai rfl<|ai rfl<|ae<|ab hP<|aj rfl<|aa (aZ hT rfl rfl rfl rfl)<|an ag (eE hT rfl rfl rfl rfl rfl rfl rfl rfl (by omega)) ?_
 refine aa (bf (rfl : _ = AV.vec _))<|ae<|ab hP<|ai rfl<|ae<|ak<|ab hP<|aj rfl<|aa (aZ hT rfl rfl rfl rfl)<|aa (bA rfl rfl (by first | exact iW0 _ (by omega) | rfl)) ?_
 refine ai rfl<|ae<|ay<|bj (ι := List Nat × Nat × Nat) (fun ⟨o, i, r⟩ => stL [(0, .p (.c (W a))), (1, .p (.c (w32 d))), (6, .vec 11), (7, .p (.c (w32 r))), (8, Z ((i : Int) - 1))] [(11, WB 105 o)]) (fun ⟨o, i, r⟩ => i ≤ a.length ∧ o.length = a.length ∧ okW o ∧ r < d ∧ wv (a.drop i) = d * wv (o.drop i) + r) (fun ⟨_, i, _⟩ => i) (List.replicate ((a.length : Nat) : Int).toNat 0, a.length, 0) ⟨Nat.le_refl _, by simp, okW.rep _, hd, by simp [wv]⟩ (aC ⟨.refl _, .refl _, .refl _, .refl _, .refl _, trivial⟩ ⟨rfl, trivial⟩) ?_
 rintro ⟨o, i, r⟩ ⟨hi, hlo, ho, hr, hv⟩
 refine ak<|ab hP<|aj rfl<|aa (dL rfl rfl)<|ae ?_
 refine aA rfl (fun hb1 => ?_) (fun hb1 => ?_)
 ·have hb1_ := dT0 hb1
  obtain ⟨i, rfl⟩ : ∃ k, i = k + 1 := ⟨i - 1, by omega⟩
  have hc : ((i + 1 : Nat) : Int) - 1 = (i : Int) := by omega
  have hai := ha.getD i
  have hq : (r * 4294967296 + a.getD i 0) / d < 4294967296 := (Nat.div_lt_iff_lt_mul hd).2 (by have : (r + 1) * 4294967296 ≤ d * 4294967296 := Nat.mul_le_mul_right _ hr; omega)
  refine dH (t := stL [(0, .p (.c (W a))), (1, .p (.c (w32 d))), (6, .vec 11), (7, .p (.c (w32 r))), (8, Z (i : Int))] [(11, WB 105 o)]) (aC ⟨.refl _, .refl _, .refl _, .refl _, aL hc, trivial⟩ ⟨rfl, trivial⟩) ?_
  refine ao<|ak<|ay<|au hP<|aa (aw (rfl : _ = AV.vec _))<|aj rfl<|aj rfl<|aj rfl<|aj rfl<|cI ?_
  refine cz hT rfl rfl rfl ?_
  refine aj rfl<|aa (ah (F6 _ _ _ hd2 hr hai)) ?_
  refine aa (aw (rfl : _ = AV.t _))<|aa (aq rfl (v := .c _) rfl)<|aa (aq rfl (v := .c _) rfl)<|cW ?_
  refine dj ag (cG hT rfl rfl rfl rfl rfl (by first | omega | (simp; omega)) rfl) ?_
  refine ai rfl<|ae<|au hP<|aj rfl<|aa (bA rfl rfl (by first | exact iW0 _ (by omega) | rfl)) ?_
  refine ai rfl<|ae ?_
  refine ⟨(o.set i ((r * 4294967296 + a.getD i 0) / d), i, (r * 4294967296 + a.getD i 0) % d), ⟨by omega, by simpa using hlo, ho.set hq, Nat.mod_lt _ hd, tF (by omega) hlo hv hd⟩, by show i < i + 1; omega, aC ⟨.refl _, .refl _, .refl _, .refl _, aL (by omega), trivial⟩ ⟨rfl, trivial⟩⟩
 have hb1_ := dF0 hb1
 have hie : i = 0 := by omega
 subst hie
 refine aV<|dA (t := 6) rfl rfl ?_
 refine ab hP<|aj rfl<|aa (ah (dQ _ ho)) ?_
 refine aj rfl<|ai rfl<|ai rfl<|ae<|am<|E11 rfl rfl rfl ?_
 rw [List.drop_zero, List.drop_zero] at hv
 have e1 : wv a / d = wv o := by rw [hv, Nat.mul_add_div hd, Nat.div_eq_of_lt hr, Nat.add_zero]
 have e2 : wv a % d = r := by rw [hv, Nat.mul_add_mod, Nat.mod_eq_of_lt hr]
 exact aB (by rw [e1, e2])
end
section
open Go Go.AM
theorem AN (a b : Nat) (hla : (wl a).length ≤ 1099511627776) (hb : 0 < b) :
  aG Tryz.prog 171 [.p (.c (nt a)), .p (.c (nt b))] (.t [.c (nt (a / b)), .c (nt (a % b))]) := by
 refine aH Tryz.func171 rfl rfl rfl rfl ?_
 have h0l : (0 : Nat) ≤ (wl a).length := Nat.zero_le _
 have hbl := fj b
 refine ab hP<|ai rfl<|ai rfl<|ae<|ak<|ab hP<|aj rfl<|aj rfl<|aa (ah (mV a b)) ?_
 refine aa (aU rfl rfl)<|ae ?_
 refine aA rfl (fun hb1 => ?_) (fun hb1 => ?_)
 ·have hb1_ := dT0 hb1
  have hlt : a < b := by
   unfold bq at *; split at * <;> first | omega | (split at * <;> omega)
  refine ab hP<|aj rfl<|ai rfl<|ai rfl<|ae<|am<|E11 rfl rfl rfl ?_
  exact Sub.tup ⟨fun _ _ h => DSub.of_eq (by rw [Nat.div_eq_of_lt hlt]; rfl) _ _ (DSub.nil_sl _ _ h), DSub.of_eq (by rw [Nat.mod_eq_of_lt hlt]), trivial⟩
 have hb1_ := dF0 hb1
 have hab : b ≤ a := by
  unfold bq at *; split at * <;> first | omega | (split at * <;> omega)
 have hll := fW hab
 refine ao<|ak<|ab hP<|aj rfl<|aa (aZ hT rfl rfl rfl rfl)<|aa (bd rfl rfl)<|ae ?_
 refine aA rfl (fun hb2 => ?_) (fun hb2 => ?_)
 ·have hb2_ := bT hb2
  have h1 : (wl b).length = 1 := by omega
  have hd2 := (bR b).getD 0
  have hbe : b = (wl b).getD 0 0 := by
   have := kW (n := 0) h1
   rw [bN] at this; simpa [wv] using this
  have hmod : wv (wl a) % (wl b).getD 0 0 < 4294967296 := Nat.lt_trans (Nat.mod_lt _ (by omega)) hd2
  have hr1 : okW [wv (wl a) % (wl b).getD 0 0] := by intro x hx; rw [List.mem_singleton.1 hx]; exact hmod
  have hd1 : 0 < (wl b).getD 0 0 := by omega
  have hdiv : a / (wl b).getD 0 0 = a / b ∧ a % (wl b).getD 0 0 = a % b := by rw [← hbe]; exact ⟨rfl, rfl⟩
  refine ab hP<|aj rfl<|aj rfl<|cI ?_
  refine cz hT rfl rfl rfl ?_
  refine aa (ah (qS (wl a) ((wl b).getD 0 0) (bR a) hla hd1 hd2)) ?_
  refine aa (aw (rfl : _ = AV.t _))<|aa (aq rfl (v := .c _) rfl)<|aa (aq rfl (v := .c _) rfl)<|ai rfl<|ai rfl<|ae<|ab hP<|aj rfl<|aj rfl<|aa (aW hT rfl rfl rfl (es := [_]) rfl rfl rfl)<|aa (ah (dQ [_] hr1)) ?_
  refine ai rfl<|ai rfl<|ae<|am<|E11 rfl rfl rfl ?_
  exact aB (by rw [bN, hdiv.1, hdiv.2]; simp [wv])
 have hb2_ := bF hb2
 obtain ⟨k, hk⟩ : ∃ k, (wl b).length = k + 1 + 1 := by
  refine ⟨(wl b).length - 2, ?_⟩
  have : (wl b).length ≠ 0 := by intro h; rw [h] at hbl; omega
  omega
 obtain ⟨s, hs⟩ : ∃ s, s = 32 - bi ((wl b).getD (k + 1) 0) := ⟨_, rfl⟩
 obtain ⟨hn1, hn2, hs32, hbp⟩ := tm hk hs
 have hb3 : bi ((wl b).getD (k + 1) 0) ≤ 32 := fT (k := 32) (by simpa using (bR b).getD (k + 1))
 have hsl := z6 (m := a) hs32
 have hva := bN a
 have hvb := bN b
 obtain ⟨v, hv⟩ : ∃ v, v = wl (b * 2 ^ s) := ⟨_, rfl⟩
 obtain ⟨x, hx⟩ : ∃ x, x = wl (a * 2 ^ s) := ⟨_, rfl⟩
 have okv : okW v := hv ▸ bR _
 have okx : okW x := hx ▸ bR _
 have hwv : wv v = b * 2 ^ s := by rw [hv, bN]
 have hwx : wv x = a * 2 ^ s := by rw [hx, bN]
 have cb : aG Tryz.prog 207 [.p (.c (nt b)), Z (s : Int)] (.p (.c (W v))) := by
  have := mU (wl b) s (bR b) (by omega) (by omega)
  rw [hvb] at this; rw [hv]; exact this
 have ca : aG Tryz.prog 207 [.p (.c (nt a)), Z (s : Int)] (.p (.c (W x))) := by
  have := mU (wl a) s (bR a) (by omega) (by omega)
  rw [hva] at this; rw [hx]; exact this
 rw [← hv] at hn1 hn2
 rw [← hx] at hsl
 obtain ⟨u0, hu0⟩ : ∃ u0, u0 = x ++ (List.replicate ((((wl a).length : Nat) : Int) + 1).toNat 0).drop x.length := ⟨_, rfl⟩
 have hu0l : u0.length = (wl a).length + 1 := by rw [hu0]; simp; omega
 have oku0 : okW u0 := by rw [hu0]; exact okx.app ((okW.rep _).drop _)
 have hwu0 : wv u0 = a * 2 ^ s := by
  rw [hu0, eC, List.drop_replicate, l5, Nat.mul_zero, Nat.add_zero, hwx]
 refine ao<|ab hP<|aj rfl<|aj rfl<|aa (aZ hT rfl rfl rfl rfl)<|aa (bA rfl rfl (c := ((k + 1 : Nat) : Int)) (by rw [iW0 _ (by omega)]; omega)) ?_
 refine cI ?_
 refine cz hT rfl rfl rfl ?_
 refine aa (ah (GO _ ((bR b).getD _))) ?_
 refine ai rfl<|ae<|dH (t := stL [(0, .p (.c (nt a))), (1, .p (.c (nt b))), (8, Z (s : Int))] []) (aC ⟨.refl _, .refl _, aL (by omega), trivial⟩ trivial) ?_
 refine ab hP<|aj rfl<|aj rfl<|aa (ah cb) ?_
 refine ai rfl<|ae<|ab hP<|aj rfl<|aa (aZ hT rfl rfl rfl rfl)<|ai rfl<|ae<|ab hP<|aj rfl<|aa (aZ hT rfl rfl rfl rfl)<|bp rfl rfl ?_
 refine an ag (eE hT rfl rfl rfl rfl rfl rfl rfl rfl (by omega)) ?_
 refine aa (bf (rfl : _ = AV.vec _))<|ae<|ab hP<|aa (aw (rfl : _ = AV.vec _))<|aj rfl<|aj rfl<|aa (ah ca) ?_
 refine RK.mut ag (kv hT rfl rfl rfl rfl rfl rfl rfl (by simp; omega) (ws' := u0) hu0.symm) ?_
 refine ae<|ab hP<|aa (aw (rfl : _ = AV.vec _))<|aa (eT hT rfl rfl rfl rfl)<|aj rfl<|aa (bA rfl rfl (c := (((wl a).length + 1 - (k + 2) : Nat) : Int)) (by rw [iW0 _ (by rw [hu0l]; omega), hu0l]; omega)) ?_
 refine an ag (eE hT rfl rfl rfl rfl rfl rfl rfl rfl (by omega)) ?_
 refine aa (bf (rfl : _ = AV.vec _))<|ae<|ak<|ab hP<|aa (aw (rfl : _ = AV.vec _))<|aa (eT hT rfl rfl rfl rfl)<|aa (bA rfl rfl (c := (((wl a).length + 1 - (k + 2) : Nat) : Int) - 1) (by simp only [List.length_replicate, Int.toNat_natCast]; exact iW0 _ (by omega))) ?_
 refine ai rfl<|ae<|ay<|bj (ι := List Nat × List Nat × Nat) (fun ⟨u, q, i⟩ => stL [(8, Z (s : Int)), (9, .p (.c (W v))), (10, Z ((k + 2 : Nat) : Int)), (11, .vec 60), (12, .vec 70), (13, Z ((i : Int) - 1))] [(60, WB 105 u), (70, WB 105 q)]) (fun ⟨u, q, i⟩ => u.length = (wl a).length + 1 ∧ okW u ∧ q.length = (wl a).length + 1 - (k + 2) ∧ okW q ∧ i ≤ q.length ∧ wv (u.drop i) < wv v ∧ a * 2 ^ s = wv v * (4294967296 ^ i * wv (q.drop i)) + wv u) (fun ⟨_, _, i⟩ => i) (u0, List.replicate (((wl a).length + 1 - (k + 2) : Nat) : Int).toNat 0, (wl a).length + 1 - (k + 2)) ⟨hu0l, oku0, by simp, okW.rep _, by simp, by rw [hwv]; exact vh hwu0 hu0l hbp (by omega), by rw [hwu0, List.drop_replicate, l5]; simp⟩ (aC ⟨.refl _, .refl _, aL (by omega), .refl _, .refl _, .refl _, trivial⟩ ⟨rfl, rfl, trivial⟩) ?_
 rintro ⟨u, q, i⟩ ⟨hlu, hok, hlq, hqok, hi, hlow, hM⟩
 have hiq := hi
 refine ak<|ab hP<|aj rfl<|aa (dL rfl rfl)<|ae ?_
 refine aA rfl (fun hb3 => ?_) (fun hb3 => ?_)
 ·have hb3_ := dT0 hb3
  obtain ⟨j, rfl⟩ : ∃ k, i = k + 1 := ⟨i - 1, by omega⟩
  have hc : ((j + 1 : Nat) : Int) - 1 = (j : Int) := by omega
  have dg : Dig v u k j := ⟨hn1, okv, hn2, hok, by omega, hlow⟩
  have hq1 := hok.getD (j + k + 2)
  have hq2 := hok.getD (j + k + 1)
  have hq3 := hok.getD (j + k)
  have hv1 := okv.getD (k + 1)
  have hv2 := okv.getD k
  have hN64 : (u.getD (j + k + 2) 0 * 4294967296 + u.getD (j + k + 1) 0) < 18446744073709551616 := by omega
  have hdl : (u.getD (j + k + 2) 0 * 4294967296 + u.getD (j + k + 1) 0) / v.getD (k + 1) 0 ≤ (u.getD (j + k + 2) 0 * 4294967296 + u.getD (j + k + 1) 0) := Nat.div_le_self _ _
  have hml : (u.getD (j + k + 2) 0 * 4294967296 + u.getD (j + k + 1) 0) % v.getD (k + 1) 0 < v.getD (k + 1) 0 := Nat.mod_lt _ (by omega)
  refine dH (t := stL [(8, Z (s : Int)), (9, .p (.c (W v))), (10, Z ((k + 2 : Nat) : Int)), (11, .vec 60), (12, .vec 70), (13, Z ((j : Nat) : Int))] [(60, WB 105 u), (70, WB 105 q)]) (aC ⟨.refl _, .refl _, .refl _, .refl _, .refl _, aL hc, trivial⟩ ⟨rfl, rfl, trivial⟩) ?_
  refine ao<|ak<|ay<|ab hP<|aa (aw (rfl : _ = AV.vec _))<|aj rfl<|aj rfl<|aa (bI rfl rfl (c := ((j + k + 2 : Nat) : Int)) (by rw [iW0 _ (by omega)]; omega)) ?_
  refine cW ?_
  refine aa (di hT rfl rfl rfl rfl (by first | omega | (simp; omega)) rfl) ?_
  refine aa (aY hT rfl rfl rfl rfl (dq (by omega))) ?_
  refine aa (kZ (j := 32) rfl rfl (by first | decide | omega) rfl) ?_
  refine aa (aw (rfl : _ = AV.vec _))<|aj rfl<|aj rfl<|aa (bI rfl rfl (c := ((j + k + 2 : Nat) : Int)) (by rw [iW0 _ (by omega)]; omega)) ?_
  refine aa (bA rfl rfl (c := ((j + k + 1 : Nat) : Int)) (by rw [iW0 _ (by omega)]; omega)) ?_
  refine cW ?_
  refine aa (di hT rfl rfl rfl rfl (by first | omega | (simp; omega)) rfl) ?_
  refine aa (aY hT rfl rfl rfl rfl (dq (by omega))) ?_
  refine aa (k9 rfl rfl (kG hq1 hq2)) ?_
  refine ai rfl<|ae<|ab hP<|aj rfl<|aj rfl<|aj rfl<|aa (bA rfl rfl (c := ((k + 1 : Nat) : Int)) (by rw [iW0 _ (by omega)]; omega)) ?_
  refine cI ?_
  refine cz hT rfl rfl rfl ?_
  refine aa (aY hT rfl rfl rfl rfl (dq (by omega))) ?_
  refine aa (dU rfl rfl (by omega) (c := (((u.getD (j + k + 2) 0 * 4294967296 + u.getD (j + k + 1) 0) / v.getD (k + 1) 0 : Nat) : Int)) (by rw [Int.tdiv_eq_ediv_of_nonneg (by omega), ← Int.natCast_ediv, dq (by omega)])) ?_
  refine aj rfl<|aj rfl<|aj rfl<|aa (bA rfl rfl (c := ((k + 1 : Nat) : Int)) (by rw [iW0 _ (by omega)]; omega)) ?_
  refine cI ?_
  refine cz hT rfl rfl rfl ?_
  refine aa (aY hT rfl rfl rfl rfl (dq (by omega))) ?_
  refine aa (cr rfl rfl (by omega) (c := (((u.getD (j + k + 2) 0 * 4294967296 + u.getD (j + k + 1) 0) % v.getD (k + 1) 0 : Nat) : Int)) (by rw [Int.tmod_eq_emod_of_nonneg (by omega), ← Int.natCast_emod])) ?_
  refine ai rfl<|ai rfl<|ae<|cf (ι := Nat) (fun g => stL [(8, Z (s : Int)), (9, .p (.c (W v))), (10, Z ((k + 2 : Nat) : Int)), (11, .vec 60), (12, .vec 70), (13, Z ((j : Nat) : Int)), (15, .p (.c (.v (.int .u64 ((g : Nat) : Int)))))] [(60, WB 105 u), (70, WB 105 q)]) (fun g => g < 4294967296 ∧ cQ v u j ≤ g ∧ g ≤ cQ v u j + 1) ?_ ?_
  ·refine ay<|bj (ι := Nat × Nat) (fun ⟨g, r⟩ => stL [(8, Z (s : Int)), (9, .p (.c (W v))), (10, Z ((k + 2 : Nat) : Int)), (11, .vec 60), (12, .vec 70), (13, Z ((j : Nat) : Int)), (15, .p (.c (.v (.int .u64 ((g : Nat) : Int))))), (16, .p (.c (.v (.int .u64 ((r : Nat) : Int)))))] [(60, WB 105 u), (70, WB 105 q)]) (fun ⟨g, r⟩ => g * v.getD (k + 1) 0 + r = (u.getD (j + k + 2) 0 * 4294967296 + u.getD (j + k + 1) 0) ∧ r < 4294967296 ∧ g < 18446744073709551616 ∧ cQ v u j ≤ g) (fun ⟨g, _⟩ => g) ((u.getD (j + k + 2) 0 * 4294967296 + u.getD (j + k + 1) 0) / v.getD (k + 1) 0, (u.getD (j + k + 2) 0 * 4294967296 + u.getD (j + k + 1) 0) % v.getD (k + 1) 0) ⟨by rw [Nat.mul_comm]; exact Nat.div_add_mod _ _, by omega, by omega, dg.init⟩ (aC ⟨.refl _, .refl _, .refl _, .refl _, .refl _, .refl _, .refl _, .refl _, trivial⟩ ⟨rfl, rfl, trivial⟩) ?_
   rintro ⟨g, r⟩ ⟨hg, hr, hg64, hdq⟩
   refine ak<|ab hP<|aj rfl<|aa (bK rfl rfl)<|aj rfl ?_
   refine a8 (t := 113) rfl (fun hg4 => ?_) (fun hg4 => ?_)
   ·have hg4_ := dT0 hg4
    have hdec : cQ v u j < g := dg.dec hg (Or.inl (by omega))
    have hstep : (g - 1) * v.getD (k + 1) 0 + (r + v.getD (k + 1) 0) = (u.getD (j + k + 2) 0 * 4294967296 + u.getD (j + k + 1) 0) := by
     rw [← hg, ← Nat.add_assoc, Nat.add_right_comm, ← Nat.succ_mul, show (g - 1).succ = g by omega]
    iterate 20 refine a6 hg4 ?_
    refine aa (aQ rfl hg4 (rfl : _ = AV.p (.c _)))<|ae<|aN rfl rfl<|ao<|ay<|ab hP<|aj rfl<|aa (bA rfl rfl (c := ((g - 1 : Nat) : Int)) (by rw [IntWalk.u64_in _ (by omega)]; omega)) ?_
    refine ai rfl<|ae<|ab hP<|aj rfl<|aj rfl<|aj rfl<|aa (bA rfl rfl (c := ((k + 1 : Nat) : Int)) (by rw [iW0 _ (by omega)]; omega)) ?_
    refine cI ?_
    refine cz hT rfl rfl rfl ?_
    refine aa (aY hT rfl rfl rfl rfl (dq (by omega))) ?_
    refine aa (bI rfl rfl (c := ((r + v.getD (k + 1) 0 : Nat) : Int)) (by rw [IntWalk.u64_in _ (by omega)]; omega)) ?_
    refine ai rfl<|ae<|ab hP<|aj rfl<|aa (bK rfl rfl)<|ae ?_
    refine aA rfl (fun hb5 => ?_) (fun hb5 => ?_)
    ·have hb5_ := dT0 hb5
     have hex := dg.exit hstep (Or.inr (by omega))
     refine aV ?_
     exact ⟨g - 1, ⟨hex.1, by omega, hex.2⟩, (aC ⟨.refl _, .refl _, .refl _, .refl _, .refl _, .refl _, .refl _, trivial⟩ ⟨rfl, rfl, trivial⟩)⟩
    have hb5_ := dF0 hb5
    refine ao ?_
    exact ⟨(g - 1, r + v.getD (k + 1) 0), ⟨hstep, by omega, by omega, by omega⟩, by show g - 1 < g; omega, (aC ⟨.refl _, .refl _, .refl _, .refl _, .refl _, .refl _, .refl _, .refl _, trivial⟩ ⟨rfl, rfl, trivial⟩)⟩
   have hg4_ := dF0 hg4
   have hgB : g < 4294967296 := by omega
   have hp2 := Nat.mul_le_mul (Nat.le_sub_one_of_lt hgB) (Nat.le_sub_one_of_lt hv2)
   iterate 3 refine aD hg4 (aw (rfl : _ = AV.p (.c _))) ?_
   refine aD hg4 (bA rfl rfl (c := ((k : Nat) : Int)) (by rw [iW0 _ (by omega)]; omega)) ?_
   refine aD hg4 (by first | exact eW hT rfl rfl rfl rfl rfl rfl (by omega) | exact ce hT rfl rfl rfl rfl rfl rfl (by omega) (by first | exact jW (by omega) | simp)) ?_
   refine aD hg4 (bJ hT rfl rfl rfl (by first | rfl | exact lL (by omega))) ?_
   refine aD hg4 (aY hT rfl rfl rfl rfl (dq (by omega))) ?_
   refine aD hg4 (bH rfl rfl (c := ((g * v.getD k 0 : Nat) : Int)) (by rw [← Int.natCast_mul, dq (by omega)])) ?_
   refine aD hg4 (aw (rfl : _ = AV.p (.c _))) ?_
   refine aD hg4 (kZ (j := 32) rfl rfl (by first | decide | omega) rfl) ?_
   refine aD hg4 (aw (rfl : _ = AV.vec _)) ?_
   refine aD hg4 (aw (rfl : _ = AV.p (.c _))) ?_
   refine aD hg4 (aw (rfl : _ = AV.p (.c _))) ?_
   refine aD hg4 (bI rfl rfl (c := ((j + k + 2 : Nat) : Int)) (by rw [iW0 _ (by omega)]; omega)) ?_
   refine aD hg4 (bA rfl rfl (c := ((j + k : Nat) : Int)) (by rw [iW0 _ (by omega)]; omega)) ?_
   refine aD hg4 (by first | exact jp hT rfl rfl rfl rfl rfl rfl rfl (by first | omega | (simp; omega)) | exact gy hT rfl rfl rfl rfl rfl rfl rfl (by first | omega | (simp; omega))) ?_
   refine aD hg4 (di hT rfl rfl rfl rfl (by first | omega | (simp; omega)) rfl) ?_
   refine aD hg4 (aY hT rfl rfl rfl rfl (dq (by omega))) ?_
   refine aD hg4 (k9 rfl rfl (kG hr hq3)) ?_
   refine aD hg4 (bK rfl rfl) ?_
   refine aa (aP rfl hg4 (rfl : _ = AV.p (.c _)))<|ae ?_
   refine aA rfl (fun hb6 => ?_) (fun hb6 => ?_)
   ·have hb6_ := dT0 hb6
    have hdec : cQ v u j < g := dg.dec hg (Or.inr (Int.ofNat_lt.1 (by assumption)))
    have hstep : (g - 1) * v.getD (k + 1) 0 + (r + v.getD (k + 1) 0) = (u.getD (j + k + 2) 0 * 4294967296 + u.getD (j + k + 1) 0) := by
     rw [← hg, ← Nat.add_assoc, Nat.add_right_comm, ← Nat.succ_mul, show (g - 1).succ = g by omega]
    refine ao<|ay<|ab hP<|aj rfl<|aa (bA rfl rfl (c := ((g - 1 : Nat) : Int)) (by rw [IntWalk.u64_in _ (by omega)]; omega)) ?_
    refine ai rfl<|ae<|ab hP<|aj rfl<|aj rfl<|aj rfl<|aa (bA rfl rfl (c := ((k + 1 : Nat) : Int)) (by rw [iW0 _ (by omega)]; omega)) ?_
    refine cI ?_
    refine cz hT rfl rfl rfl ?_
    refine aa (aY hT rfl rfl rfl rfl (dq (by omega))) ?_
    refine aa (bI rfl rfl (c := ((r + v.getD (k + 1) 0 : Nat) : Int)) (by rw [IntWalk.u64_in _ (by omega)]; omega)) ?_
    refine ai rfl<|ae<|ab hP<|aj rfl<|aa (bK rfl rfl)<|ae ?_
    refine aA rfl (fun hb7 => ?_) (fun hb7 => ?_)
    ·have hb7_ := dT0 hb7
     have hex := dg.exit hstep (Or.inr (by omega))
     refine aV ?_
     exact ⟨g - 1, ⟨hex.1, by omega, hex.2⟩, (aC ⟨.refl _, .refl _, .refl _, .refl _, .refl _, .refl _, .refl _, trivial⟩ ⟨rfl, rfl, trivial⟩)⟩
    have hb7_ := dF0 hb7
    refine ao ?_
    exact ⟨(g - 1, r + v.getD (k + 1) 0), ⟨hstep, by omega, by omega, by omega⟩, by show g - 1 < g; omega, (aC ⟨.refl _, .refl _, .refl _, .refl _, .refl _, .refl _, .refl _, .refl _, trivial⟩ ⟨rfl, rfl, trivial⟩)⟩
   have hb6_ := dF0 hb6
   have hex := dg.exit hg (Or.inl ⟨by omega, by omega⟩)
   refine aV ?_
   exact ⟨g, ⟨hex.1, hdq, hex.2⟩, (aC ⟨.refl _, .refl _, .refl _, .refl _, .refl _, .refl _, .refl _, trivial⟩ ⟨rfl, rfl, trivial⟩)⟩
  rintro g ⟨hgB, hg1, hg2⟩
  refine ab hP<|ai rfl<|ae<|ab hP<|ai rfl<|ae<|ak<|ab hP<|aj rfl<|aa (aZ hT rfl rfl rfl rfl)<|aj rfl<|ae<|ay<|bj (ι := List Nat × Nat × Nat × Nat) (fun ⟨o, i, c, e⟩ => stL [(8, Z (s : Int)), (9, .p (.c (W v))), (10, Z ((k + 2 : Nat) : Int)), (11, .vec 60), (12, .vec 70), (13, Z ((j : Nat) : Int)), (15, .p (.c (.v (.int .u64 ((g : Nat) : Int))))), (17, .p (.c (.v (.int .u64 ((c : Nat) : Int))))), (18, .p (.c (w32 (e)))), (147, .p (.c (W v))), (148, Z ((v.length : Nat) : Int)), (149, Z ((i : Nat) : Int))] [(60, WB 105 o), (70, WB 105 q)]) (fun ⟨o, i, c, e⟩ => i ≤ v.length ∧ o.length = u.length ∧ okW o ∧ c < 4294967296 ∧ e < 2 ∧ o.drop (j + k + 3) = u.drop (j + k + 3) ∧ wv o + 4294967296 ^ j * (g * wv (v.take i)) = wv u + 4294967296 ^ (j + i) * (c + e)) (fun ⟨_, i, _, _⟩ => v.length - i) (u, 0, 0, 0) ⟨Nat.zero_le _, rfl, hok, by omega, by omega, rfl, by simp [wv]⟩ (aC ⟨.refl _, .refl _, .refl _, .refl _, .refl _, .refl _, .refl _, .refl _, .refl _, .refl _, .refl _, .refl _, trivial⟩ ⟨rfl, rfl, trivial⟩) ?_
  rintro ⟨o, i, c, e⟩ ⟨hi, hlo, ho, hc, he, hd, hS⟩
  refine ab hP<|aa (aU rfl rfl)<|ae<|ak ?_
  refine aA rfl (fun hb8 => ?_) (fun hb8 => ?_)
  ·have hb8_ := dT0 hb8
   have hlt : i < v.length := by omega
   have hvi := okv.getD i
   have hp1 := Nat.mul_le_mul (Nat.le_sub_one_of_lt hgB) (Nat.le_sub_one_of_lt (okv.getD i))
   have htB : (g * v.getD i 0 + c) / 4294967296 < 4294967296 := (Nat.div_lt_iff_lt_mul (by omega)).2 (by omega)
   refine ao<|ak<|ay<|ab hP<|aj rfl<|cI ?_
   refine cz hT rfl rfl rfl ?_
   refine ai rfl<|ai rfl<|ae<|ab hP<|aj rfl<|aj rfl<|aa (aY hT rfl rfl rfl rfl (dq (by omega))) ?_
   refine aa (bH rfl rfl (c := ((g * v.getD i 0 : Nat) : Int)) (by rw [← Int.natCast_mul, dq (by omega)])) ?_
   refine aj rfl<|aa (bI rfl rfl (c := ((g * v.getD i 0 + c : Nat) : Int)) (by rw [← Int.natCast_add, dq (by omega)])) ?_
   refine ai rfl<|ae<|ab hP<|aj rfl<|aa (dJ (j := 32) rfl rfl (by first | decide | omega)) ?_
   refine ai rfl<|ae<|au hP<|aa (aw (rfl : _ = AV.vec _))<|aj rfl<|aj rfl<|aa (bI rfl rfl (c := ((j + i : Nat) : Int)) (by rw [iW0 _ (by omega)]; omega)) ?_
   refine aa (aw (rfl : _ = AV.vec _))<|aj rfl<|aj rfl<|aa (bI rfl rfl (c := ((j + i : Nat) : Int)) (by rw [iW0 _ (by omega)]; omega)) ?_
   refine cW ?_
   refine aa (di hT rfl rfl rfl rfl (by first | omega | (simp; omega)) rfl) ?_
   refine aj rfl<|aa (aY hT rfl rfl rfl rfl (c := (((g * v.getD i 0 + c) % 4294967296 : Nat) : Int)) (by rw [IntKind.wrap_u32]; omega)) ?_
   refine aj rfl<|aa (ah (sP _ _ _ (ho.getD _) (Nat.mod_lt _ (by omega)) he)) ?_
   refine aa (aw (rfl : _ = AV.t _))<|aa (aq rfl (v := .c _) rfl)<|aa (aq rfl (v := .c _) rfl)<|cW ?_
   refine dj ag (cG hT rfl rfl rfl rfl rfl (by first | omega | (simp; omega)) rfl) ?_
   refine ai rfl<|ae<|au hP<|bp rfl rfl ?_
   refine aj rfl<|ae ?_
   have hr := to (v := v) (g := g) (by omega) ho he rfl hS
   exact ⟨(o.set (j + i) ((o.getD (j + i) 0 + 8589934592 - (g * v.getD i 0 + c) % 4294967296 - e) % 4294967296), i + 1, (g * v.getD i 0 + c) / 4294967296, if o.getD (j + i) 0 < (g * v.getD i 0 + c) % 4294967296 + e then 1 else 0), ⟨by omega, by simpa using hlo, ho.set (Nat.mod_lt _ (by omega)), htB, by split <;> omega, by rw [List.drop_set_of_lt (by omega)]; exact hd, hr⟩, by show v.length - (i + 1) < v.length - i; omega, (aC ⟨.refl _, .refl _, .refl _, .refl _, .refl _, .refl _, .refl _, .refl _, .refl _, .refl _, .refl _, .refl _, trivial⟩ ⟨rfl, rfl, trivial⟩)⟩
  have hb8_ := dF0 hb8
  have hie : i = v.length := by omega
  subst hie
  rw [List.take_length, hn1] at hS
  have hml1 := uN (o := o) (p := j + k + 2) (c := c) (e := e) (A := 4294967296 ^ j * (g * wv v)) (S := wv u) (by omega) ho hc he (by rw [show j + k + 2 = j + (k + 2) by omega]; exact hS)
  obtain ⟨o1, ho1⟩ : ∃ o1, o1 = o.set (j + k + 2) ((o.getD (j + k + 2) 0 + 8589934592 - c - e) % 4294967296) := ⟨_, rfl⟩
  have hok1 : okW o1 := by rw [ho1]; exact ho.set (Nat.mod_lt _ (by omega))
  have hlo1 : o1.length = u.length := by rw [ho1]; simpa using hlo
  have hd1 : o1.drop (j + k + 3) = u.drop (j + k + 3) := by rw [ho1, List.drop_set_of_lt (by omega)]; exact hd
  rw [← ho1, show j + k + 2 + 1 = j + k + 3 by omega] at hml1
  refine aV<|cf (ι := List Nat) (fun u1 => stL [(8, Z (s : Int)), (9, .p (.c (W v))), (10, Z ((k + 2 : Nat) : Int)), (11, .vec 60), (12, .vec 70), (13, Z ((j : Nat) : Int)), (15, .p (.c (.v (.int .u64 ((cQ v u j : Nat) : Int)))))] [(60, WB 105 u1), (70, WB 105 q)]) (fun u1 => u1.length = u.length ∧ okW u1 ∧ wv u1 + 4294967296 ^ j * (cQ v u j * wv v) = wv u) ?_ ?_
  ·refine ab hP<|aa (aw (rfl : _ = AV.vec _))<|aj rfl<|aj rfl<|aa (bI rfl rfl (c := ((j + k + 2 : Nat) : Int)) (by rw [iW0 _ (by omega)]; omega)) ?_
   refine aa (aw (rfl : _ = AV.vec _))<|aj rfl<|aj rfl<|aa (bI rfl rfl (c := ((j + k + 2 : Nat) : Int)) (by rw [iW0 _ (by omega)]; omega)) ?_
   refine cW ?_
   refine aa (di hT rfl rfl rfl rfl (by first | omega | (simp; omega)) rfl) ?_
   refine aj rfl<|aa (aY hT rfl rfl rfl rfl (mJ hc)) ?_
   refine aj rfl<|aa (ah (sP _ _ _ (ho.getD _) hc he)) ?_
   refine aa (aw (rfl : _ = AV.t _))<|aa (aq rfl (v := .c _) rfl)<|aa (aq rfl (v := .c _) rfl)<|cW ?_
   refine dj ag (cG hT rfl rfl rfl rfl rfl (by first | omega | (simp; omega)) ho1.symm) ?_
   refine ai rfl<|ae<|ab hP<|aj rfl<|aa (bK rfl rfl)<|ae ?_
   refine aA rfl (fun hb9 => ?_) (fun hb9 => ?_)
   ·have hb9_ := dT0 hb9
    have hbo : o.getD (j + k + 2) 0 < c + e := by
     rcases Nat.lt_or_ge (o.getD (j + k + 2) 0) (c + e) with h | h
     ·exact h
     rw [if_neg (by omega)] at *; omega
    rw [if_pos hbo, Nat.mul_one] at hml1
    have hgq := dg.bad hok1 hlo1 hd1 hg2 hml1
    have hg0 : 0 < g := by omega
    refine ab hP<|aj rfl<|aa (bA rfl rfl (c := ((g - 1 : Nat) : Int)) (by rw [IntWalk.u64_in _ (by omega)]; omega)) ?_
    refine ai rfl<|ae<|ab hP<|ai rfl<|ae<|ak<|ab hP<|aj rfl<|aa (aZ hT rfl rfl rfl rfl)<|aj rfl<|ae<|ay<|bj (ι := List Nat × Nat × Nat) (fun ⟨o, i, c⟩ => stL [(8, Z (s : Int)), (9, .p (.c (W v))), (10, Z ((k + 2 : Nat) : Int)), (11, .vec 60), (12, .vec 70), (13, Z ((j : Nat) : Int)), (15, .p (.c (.v (.int .u64 ((g - 1 : Nat) : Int))))), (22, .p (.c (w32 (c)))), (203, .p (.c (W v))), (204, Z ((v.length : Nat) : Int)), (205, Z ((i : Nat) : Int))] [(60, WB 105 o), (70, WB 105 q)]) (fun ⟨o, i, c⟩ => i ≤ v.length ∧ o.length = u.length ∧ okW o ∧ c < 2 ∧ o.drop (j + k + 3) = u.drop (j + k + 3) ∧ wv o + 4294967296 ^ (j + i) * c = wv o1 + 4294967296 ^ j * wv (v.take i)) (fun ⟨_, i, _⟩ => v.length - i) (o1, 0, 0) ⟨Nat.zero_le _, hlo1, hok1, by omega, hd1, by simp [wv]⟩ (aC ⟨.refl _, .refl _, .refl _, .refl _, .refl _, .refl _, .refl _, .refl _, .refl _, .refl _, .refl _, trivial⟩ ⟨rfl, rfl, trivial⟩) ?_
    clear hbo hS hd he hc ho hlo hi ho1 hd1 hok1 hlo1
    rintro ⟨o, i, c⟩ ⟨hi, hlo, ho, hc, hd, hS2⟩
    refine ab hP<|aa (aU rfl rfl)<|ae<|ak ?_
    refine aA rfl (fun hb10 => ?_) (fun hb10 => ?_)
    ·have hb10_ := dT0 hb10
     have hlt : i < v.length := by omega
     have hvi := okv.getD i
     have hoi := ho.getD (j + i)
     have hc2 : (o.getD (j + i) 0 + v.getD i 0 + c) / 4294967296 < 2 := (Nat.div_lt_iff_lt_mul (by omega)).2 (by omega)
     refine ao<|ak<|ay<|ab hP<|aj rfl<|cI ?_
     refine cz hT rfl rfl rfl ?_
     refine ai rfl<|ai rfl<|ae<|au hP<|aa (aw (rfl : _ = AV.vec _))<|aj rfl<|aj rfl<|aa (bI rfl rfl (c := ((j + i : Nat) : Int)) (by rw [iW0 _ (by omega)]; omega)) ?_
     refine aa (aw (rfl : _ = AV.vec _))<|aj rfl<|aj rfl<|aa (bI rfl rfl (c := ((j + i : Nat) : Int)) (by rw [iW0 _ (by omega)]; omega)) ?_
     refine cW ?_
     refine aa (di hT rfl rfl rfl rfl (by first | omega | (simp; omega)) rfl) ?_
     refine aj rfl<|aj rfl<|aa (ah (y4 _ _ _ (ho.getD _) (okv.getD _) (by omega))) ?_
     refine aa (aw (rfl : _ = AV.t _))<|aa (aq rfl (v := .c _) rfl)<|aa (aq rfl (v := .c _) rfl)<|cW ?_
     refine dj ag (cG hT rfl rfl rfl rfl rfl (by first | omega | (simp; omega)) rfl) ?_
     refine ai rfl<|ae<|au hP<|bp rfl rfl ?_
     refine aj rfl<|ae ?_
     have hr := tP (v := v) (i := i) (by omega) rfl hS2
     exact ⟨(o.set (j + i) ((o.getD (j + i) 0 + v.getD i 0 + c) % 4294967296), i + 1, (o.getD (j + i) 0 + v.getD i 0 + c) / 4294967296), ⟨by omega, by simpa using hlo, ho.set (Nat.mod_lt _ (by omega)), hc2, by rw [List.drop_set_of_lt (by omega)]; exact hd, hr⟩, by show v.length - (i + 1) < v.length - i; omega, (aC ⟨.refl _, .refl _, .refl _, .refl _, .refl _, .refl _, .refl _, .refl _, .refl _, .refl _, .refl _, trivial⟩ ⟨rfl, rfl, trivial⟩)⟩
    have hb10_ := dF0 hb10
    have hie : i = v.length := by omega
    subst hie
    rw [List.take_length, hn1] at hS2
    have hbk := dg.back (o := o.set (j + k + 2) ((o.getD (j + k + 2) 0 + c) % 4294967296)) (o1 := o) (c := c) (ho.set (Nat.mod_lt _ (by omega))) (by simpa using hlo) (by rw [List.drop_set_of_lt (by omega)]; exact hd) hgq hml1 (by rw [show j + k + 2 = j + (k + 2) by omega]; exact hS2) ho hc rfl hlo
    refine aV<|au hP<|aa (aw (rfl : _ = AV.vec _))<|aj rfl<|aj rfl<|aa (bI rfl rfl (c := ((j + k + 2 : Nat) : Int)) (by rw [iW0 _ (by omega)]; omega)) ?_
    refine cW ?_
    refine aa (di hT rfl rfl rfl rfl (by first | omega | (simp; omega)) rfl) ?_
    refine aj rfl<|aa (bI rfl rfl (c := (((o.getD (j + k + 2) 0 + c) % 4294967296 : Nat) : Int)) (by rw [IntKind.wrap_u32]; omega)) ?_
    refine cW ?_
    refine dj ag (cG hT rfl rfl rfl rfl rfl (by first | omega | (simp; omega)) rfl) ?_
    refine ae ?_
    exact ⟨_, ⟨by simpa using hlo, ho.set (Nat.mod_lt _ (by omega)), hbk⟩, (aC ⟨.refl _, .refl _, .refl _, .refl _, .refl _, .refl _, aL (by omega), trivial⟩ ⟨rfl, rfl, trivial⟩)⟩
   have hb9_ := dF0 hb9
   have hbo : ¬ o.getD (j + k + 2) 0 < c + e := by
    intro h
    rw [if_pos h] at *; omega
   rw [if_neg hbo, Nat.mul_zero, Nat.add_zero] at hml1
   have hgq := dg.good hg1 hml1
   refine ao ?_
   exact ⟨o1, ⟨hlo1, hok1, hgq ▸ hml1⟩, (aC ⟨.refl _, .refl _, .refl _, .refl _, .refl _, .refl _, aL (by omega), trivial⟩ ⟨rfl, rfl, trivial⟩)⟩
  rintro u1 ⟨hl1, hok1, hfin⟩
  refine au hP<|aa (aw (rfl : _ = AV.vec _))<|aj rfl<|aj rfl<|aa (aY hT rfl rfl rfl rfl (mJ dg.q_lt)) ?_
  refine cW ?_
  refine dj ag (cG hT rfl rfl rfl rfl rfl (by first | omega | (simp; omega)) rfl) ?_
  refine ae<|au hP<|aj rfl<|aa (bA rfl rfl (by first | exact iW0 _ (by omega) | rfl)) ?_
  refine ai rfl<|ae ?_
  have hdn := dg.done hok1 hl1 hfin
  exact ⟨(u1, q.set j (cQ v u j), j), ⟨by omega, hok1, by simpa using hlq, hqok.set dg.q_lt, by simp; omega, hdn, vi (by omega) hM hfin⟩, by show j < j + 1; omega, (aC ⟨.refl _, .refl _, .refl _, .refl _, .refl _, .refl _, trivial⟩ ⟨rfl, rfl, trivial⟩)⟩
 have hb3_ := dF0 hb3
 have hie : i = 0 := by omega
 subst hie
 rw [List.drop_zero] at hlow hM
 rw [Nat.pow_zero, Nat.one_mul] at hM
 have hE : a / b = wv q ∧ a % b = wv u / 2 ^ s := Bm (m := a) (b := b) (s := s) (q := wv q) (r := wv u) (hwv ▸ hM) (hwv ▸ hlow)
 have hlt2 : wv u < 4294967296 ^ (k + 2) := Nat.lt_trans hlow (by have := gE okv; rwa [hn1] at this)
 have htk : wv (u.take (k + 2)) = wv u := by
  have e := dW u (k + 2) (by omega)
  rcases Nat.eq_zero_or_pos (wv (u.drop (k + 2))) with h | h
  ·rw [h, Nat.mul_zero] at e; omega
  have := Nat.le_mul_of_pos_right (4294967296 ^ (k + 2)) h
  omega
 have hshl : (wl (wv (u.take (k + 2)))).length ≤ 1099511627776 := by
  have := fk (htk.symm ▸ hlt2 : wv (u.take (k + 2)) < 4294967296 ^ (k + 2))
  omega
 refine aV<|dA (t := 12) rfl rfl ?_
 refine dA (t := 11) rfl rfl ?_
 refine ab hP<|aj rfl<|aa (ah (dQ _ hqok)) ?_
 refine aj rfl<|aj rfl<|aa (iY hT rfl rfl rfl rfl rfl rfl (by omega)) ?_
 refine aa (ah (dQ _ (hok.take _))) ?_
 refine aj rfl<|aa (ah (AI (wl (wv (u.take (k + 2)))) s (bR _) hshl hs32)) ?_
 refine ai rfl<|ai rfl<|ae<|am<|E11 rfl rfl rfl ?_
 exact aB (by rw [bN, htk, hE.1, hE.2])
end
section
open Go Go.AM
theorem w5 (m : Nat) :
  aG Tryz.prog 254 [.p (.c (nt m))] (Z (bi m)) := by
 refine aH Tryz.func254 rfl rfl rfl rfl ?_
 refine jx (t := 0) rfl rfl (fun hlen => ?_)
 have hb32 : ∀ x : Nat, x < 4294967296 → bi x ≤ 32 := fun x h => fT (k := 32) h
 refine ab hP<|ai rfl<|ae<|ak<|ab hP<|aj rfl<|aa (aZ hT rfl rfl rfl rfl)<|aa (bd rfl rfl)<|ae ?_
 refine aA rfl (fun hb1 => ?_) (fun hb1 => ?_)
 ·have hb1_ := bT hb1
  refine ab hP<|ai rfl<|ae<|am<|E1 rfl rfl ?_
  have h0 : wl m = [] := by
   rcases h : wl m with _ | ⟨x, r⟩
   ·rfl
   rw [h] at hb1_; simp at hb1_; omega
  have : m = 0 := by rw [← bN m, h0]; rfl
  exact aL (by rw [this]; rfl)
 have hb1_ := bF hb1
 refine ao<|ab hP<|aj rfl<|aa (aZ hT rfl rfl rfl rfl)<|aa (bA rfl rfl (by first | exact iW0 _ (by omega) | rfl)) ?_
 refine aa (bH rfl rfl (by first | exact iW0 _ (by omega) | rfl)) ?_
 refine aj rfl<|aj rfl<|aa (aZ hT rfl rfl rfl rfl)<|aa (bA rfl rfl (by first | exact iW0 _ (by omega) | rfl)) ?_
 refine cI ?_
 refine cz hT rfl rfl rfl ?_
 refine aa (ah (yQ _ ((bR m).getD _))) ?_
 refine aa (bI rfl rfl (iW0 _ (by have := hb32 _ ((bR m).getD (((wl m).length : Int) - 1).toNat); omega))) ?_
 refine ai rfl<|ae<|am<|E1 rfl rfl ?_
 obtain ⟨k, hk⟩ : ∃ k, (wl m).length = k + 1 := ⟨(wl m).length - 1, by omega⟩
 have hkk : (((wl m).length : Int) - 1).toNat = k := by omega
 exact aL (by rw [hkk, xN hk]; omega)
end
section
open Go Go.AM
theorem gp (neg : Bool) (ws : List Nat) (h : okW ws) :
  aG Tryz.prog 63 [B neg, .p (.c (W ws))] (I (sg neg (wv ws))) := by
 refine aH Tryz.func63 rfl rfl rfl rfl ?_
 refine ab hP<|an ag (az hT rfl rfl)<|ae<|ab hP<|aj rfl<|aa (ah (dQ _ h)) ?_
 refine ai rfl<|ae<|ak<|ab hP<|aj rfl<|aa (aZ hT rfl rfl rfl rfl)<|aa (bd rfl rfl)<|ae ?_
 refine aA rfl (fun hb1 => ?_) (fun hb1 => ?_)
 ·have hb1_ := bT hb1
  refine ab hP<|aa (aS hT rfl rfl rfl (es := [_, _]) rfl)<|aE hT rfl<|ae<|am<|E2 hT rfl rfl rfl rfl rfl rfl rfl ?_
  have h0 : wv ws = 0 := mI (by omega)
  rw [h0, rE]
  exact .refl _
 have hb1_ := bF hb1
 refine ao<|ab hP<|aj rfl<|aj rfl<|aa (aS hT rfl rfl rfl (es := [_, _]) rfl)<|aE hT rfl<|ae<|am<|E2 hT rfl rfl rfl rfl rfl rfl rfl ?_
 have h0 : 0 < wv ws := by
  rcases Nat.eq_zero_or_pos (wv ws) with e | e
  ·rw [e] at hb1_; exact absurd rfl hb1_
  exact e
 exact aB (by show _ = AV.p (.a [zn _, zm _]); rw [xY h0, xZ])
theorem lh (x : Int) :
  aG Tryz.prog 62 [I x] (I x.natAbs) := by
 refine aH Tryz.func62 rfl rfl rfl rfl ?_
 refine ab hP<|an ag (aK rfl rfl)<|an ag (az hT rfl rfl)<|ae<|ab hP<|aM hT rfl<|bn hT rfl rfl rfl rfl ?_
 refine aa (ah (gp _ (wl x.natAbs) (bR _))) ?_
 refine aE hT rfl<|ae<|am<|E2 hT rfl rfl rfl rfl rfl rfl rfl ?_
 exact Sub.I (Et x)
theorem fQ (x : Int) :
  aG Tryz.prog 39 [I x] (I (-x)) := by
 refine aH Tryz.func39 rfl rfl rfl rfl ?_
 refine ab hP<|an ag (aK rfl rfl)<|an ag (az hT rfl rfl)<|ae<|ab hP<|aM hT rfl<|bn hT rfl rfl rfl rfl ?_
 refine aa (bM rfl)<|aM hT rfl<|bn hT rfl rfl rfl rfl ?_
 refine aa (ah (gp _ (wl x.natAbs) (bR _))) ?_
 refine aE hT rfl<|ae<|am<|E2 hT rfl rfl rfl rfl rfl rfl rfl ?_
 exact Sub.I (Dm x)
theorem dk (x y : Int) (hx : L 45 x) (hy : L 45 y) :
  aG Tryz.prog 38 [I x, I y] (I (x + y)) := by
 refine aH Tryz.func38 rfl rfl rfl rfl ?_
 refine ab hP<|an ag (aK rfl rfl)<|an ag (aK rfl rfl)<|an ag (az hT rfl rfl)<|ae<|ab hP<|aM hT rfl<|bn hT rfl rfl rfl rfl ?_
 refine aM hT rfl<|bn hT rfl rfl rfl rfl ?_
 refine ai rfl<|ai rfl<|ae<|ak<|ay<|ab hP<|aM hT rfl<|bn hT rfl rfl rfl rfl ?_
 refine aM hT rfl<|bn hT rfl rfl rfl rfl ?_
 refine aa (Di hT rfl rfl rfl rfl)<|ai rfl<|ae ?_
 refine aA rfl (fun hb1 => ?_) (fun hb1 => ?_)
 ·refine ab hP<|aM hT rfl<|bn hT rfl rfl rfl rfl ?_
  refine aj rfl<|aj rfl<|aa (ah (AO (wl x.natAbs) (wl y.natAbs) (bR _) (bR _) (sz hx) (sz hy))) ?_
  refine aa (ah (gp _ _ (bR _))) ?_
  refine aE hT rfl<|ae<|am<|E2 hT rfl rfl rfl rfl rfl rfl rfl ?_
  exact Sub.I (by rw [bN]; exact xU (by assumption))
 refine ab hP<|aj rfl<|aj rfl<|aa (ah (mV x.natAbs y.natAbs)) ?_
 refine aa (aU rfl rfl)<|ai rfl<|ae ?_
 refine aA rfl (fun hb2 => ?_) (fun hb2 => ?_)
 ·have hb2_ := dT0 hb2
  have hc := D4 (m := x.natAbs) (n := y.natAbs) (by assumption)
  refine ab hP<|aM hT rfl<|bn hT rfl rfl rfl rfl ?_
  refine aj rfl<|aj rfl<|aa (ah (r5 (wl y.natAbs) (wl x.natAbs) (bR _) (bR _) (sz hy) (fW (by omega)) (by rw [bN, bN]; omega))) ?_
  refine aa (ah (gp _ _ (bR _))) ?_
  refine aE hT rfl<|ae<|am<|E2 hT rfl rfl rfl rfl rfl rfl rfl ?_
  exact Sub.I (by rw [bN]; exact Er (by assumption) hc)
 have hb2_ := dF0 hb2
 have hc := D5 (m := x.natAbs) (n := y.natAbs) (by assumption)
 refine ao<|ab hP<|aM hT rfl<|bn hT rfl rfl rfl rfl ?_
 refine aj rfl<|aj rfl<|aa (ah (r5 (wl x.natAbs) (wl y.natAbs) (bR _) (bR _) (sz hx) (fW hc) (by rw [bN, bN]; exact hc))) ?_
 refine aa (ah (gp _ _ (bR _))) ?_
 refine aE hT rfl<|ae<|am<|E2 hT rfl rfl rfl rfl rfl rfl rfl ?_
 exact Sub.I (by rw [bN]; exact Es (by assumption) hc)
theorem gK (x y : Int) (hx : L 45 x) (hy : L 45 y) :
  aG Tryz.prog 108 [I x, I y] (I (x - y)) := by
 refine aH Tryz.func108 rfl rfl rfl rfl ?_
 refine ab hP<|an ag (aK rfl rfl)<|an ag (aK rfl rfl)<|an ag (az hT rfl rfl)<|ae<|ab hP<|av hT rfl<|av hT rfl<|aa (ah (fQ y)) ?_
 refine aa (ah (dk x (-y) hx hy.neg)) ?_
 refine aE hT rfl<|ae<|am<|E2 hT rfl rfl rfl rfl rfl rfl rfl ?_
 exact Sub.I (by omega)
theorem cX (x y : Int) (hx : L 45 x) (hy : L 45 y) :
  aG Tryz.prog 16 [I x, I y] (I (x * y)) := by
 refine aH Tryz.func16 rfl rfl rfl rfl ?_
 refine ab hP<|an ag (aK rfl rfl)<|an ag (aK rfl rfl)<|an ag (az hT rfl rfl)<|ae<|ab hP<|aM hT rfl<|bn hT rfl rfl rfl rfl ?_
 refine aM hT rfl<|bn hT rfl rfl rfl rfl ?_
 refine aa (ik hT rfl rfl rfl rfl)<|aM hT rfl<|bn hT rfl rfl rfl rfl ?_
 refine aM hT rfl<|bn hT rfl rfl rfl rfl ?_
 refine aa (ah (AL (wl x.natAbs) (wl y.natAbs) (bR _) (bR _) (sz hx) (sz hy))) ?_
 refine aa (ah (gp _ _ (bR _))) ?_
 refine aE hT rfl<|ae<|am<|E2 hT rfl rfl rfl rfl rfl rfl rfl ?_
 exact Sub.I (by rw [bN]; exact Do x y)
end
section
open Go Go.AM
theorem cn (x : Int) :
  aG Tryz.prog 58 [I x] (Z (sgn x)) := by
 refine aH Tryz.func58 rfl rfl rfl rfl ?_
 refine ab hP<|an ag (aK rfl rfl)<|ai rfl<|ae<|ak<|ay<|ab hP<|aM hT rfl<|bn hT rfl rfl rfl rfl ?_
 refine aa (aZ hT rfl rfl rfl rfl)<|aa (bd rfl rfl)<|ai rfl<|ae ?_
 refine aA rfl (fun hb1 => ?_) (fun hb1 => ?_)
 ·have hb1_ := bT hb1
  refine ab hP<|ai rfl<|ae<|am<|E1 rfl rfl ?_
  have h0 := wl_len_zero.1 hb1_
  exact aL (by rw [h0]; rfl)
 have hb1_ := bF hb1
 refine ab hP<|aM hT rfl<|bn hT rfl rfl rfl rfl ?_
 refine ai rfl<|ae ?_
 refine aA rfl (fun hb2 => ?_) (fun hb2 => ?_)
 ·refine ab hP<|ai rfl<|ae<|am<|E1 rfl rfl ?_
  exact aL (kO hb2).symm
 refine ao<|ab hP<|ai rfl<|ae<|am<|E1 rfl rfl ?_
 have h0 : x ≠ 0 := fun e => hb1_ (wl_len_zero.2 e)
 exact aL (z7 h0 hb2).symm
theorem cY (x y : Int) :
  aG Tryz.prog 14 [I x, I y] (Z (bq x y)) := by
 refine aH Tryz.func14 rfl rfl rfl rfl ?_
 refine ab hP<|an ag (aK rfl rfl)<|an ag (aK rfl rfl)<|ai rfl<|ae<|ak<|ab hP<|aM hT rfl<|bn hT rfl rfl rfl rfl ?_
 refine aM hT rfl<|bn hT rfl rfl rfl rfl ?_
 refine aa (ik hT rfl rfl rfl rfl)<|ae ?_
 refine aA rfl (fun hb1 => ?_) (fun hb1 => ?_)
 ·refine ab hP<|av hT rfl<|aa (ah (cn _)) ?_
  refine av hT rfl<|aa (ah (cn _)) ?_
  refine aa (ah (lG _ _)) ?_
  refine ai rfl<|ae<|am<|E1 rfl rfl ?_
  exact aL (xJ hb1)
 refine ao<|ab hP<|aM hT rfl<|bn hT rfl rfl rfl rfl ?_
 refine aM hT rfl<|bn hT rfl rfl rfl rfl ?_
 refine aa (ah (mV x.natAbs y.natAbs)) ?_
 refine av hT rfl<|aa (ah (cn _)) ?_
 refine aa (aW hT rfl rfl rfl (es := [_, _]) rfl rfl rfl)<|aa (ah (Df _ _)) ?_
 refine aa (bH rfl rfl (xI hb1)) ?_
 refine ai rfl<|ae<|am<|E1 rfl rfl ?_
 exact .refl _
theorem qb (x : Int) :
  aG Tryz.prog 242 [I x] (Z (bi x.natAbs)) := by
 refine aH Tryz.func242 rfl rfl rfl rfl ?_
 refine ab hP<|an ag (aK rfl rfl)<|ai rfl<|ae<|ab hP<|aM hT rfl<|bn hT rfl rfl rfl rfl ?_
 refine aa (ah (w5 x.natAbs)) ?_
 refine ai rfl<|ae<|am<|E1 rfl rfl ?_
 exact .refl _
theorem kx (x : Int) (hx : L 45 x) :
  aG Tryz.prog 100 [I x] (B true) := by
 have hlen := sz hx
 refine aH Tryz.func100 rfl rfl rfl rfl ?_
 refine ab hP<|an ag (aK rfl rfl)<|ai rfl<|ae<|ak<|ab hP<|aM hT rfl<|bn hT rfl rfl rfl rfl ?_
 refine aa (aZ hT rfl rfl rfl rfl)<|aa (bd rfl rfl)<|ae ?_
 refine aA rfl (fun hb1 => ?_) (fun hb1 => ?_)
 ·have hb1_ := bT hb1
  refine ab hP<|aM hT rfl<|bn hT rfl rfl rfl rfl ?_
  refine aa (bM rfl)<|ai rfl<|ae<|am<|E1 rfl rfl ?_
  have h0 := wl_len_zero.1 hb1_
  exact aB (by rw [h0]; rfl)
 have hb1_ := bF hb1
 refine ao<|ab hP<|aM hT rfl<|bn hT rfl rfl rfl rfl ?_
 refine aM hT rfl<|bn hT rfl rfl rfl rfl ?_
 refine aa (aZ hT rfl rfl rfl rfl)<|aa (bA rfl rfl (by first | exact iW0 _ (by omega) | rfl)) ?_
 refine cI ?_
 refine cz hT rfl rfl rfl ?_
 refine aa (bh rfl rfl)<|ai rfl<|ae<|am<|E1 rfl rfl ?_
 have h1 : (wl x.natAbs).length ≠ 0 := fun e => hb1_ (by rw [e]; rfl)
 have h2 : (((wl x.natAbs).length : Int) - 1).toNat = (wl x.natAbs).length - 1 := by omega
 rw [h2]
 have h3 := oW (k := x.natAbs) (n := (wl x.natAbs).length - 1) (by omega)
 exact aB (by rw [show ((((wl x.natAbs).getD ((wl x.natAbs).length - 1) 0 : Nat) : Int) != 0) = true from bne_iff_ne.2 (by omega)])
theorem dm (z : Int) (hz : a7 z) :
  aG Tryz.prog 136 [.p (.c (.v (.int .i64 z)))] (I z) := by
 have hz1 : z.natAbs < 18446744073709551616 := by unfold a7 at hz; omega
 refine aH Tryz.func136 rfl rfl rfl rfl ?_
 refine ab hP<|an ag (az hT rfl rfl)<|ae<|ab hP<|aj rfl<|aj rfl<|aa (eO rfl rfl)<|aa (pL rfl rfl)<|aa (aY hT rfl rfl rfl rfl (c := ((z.natAbs : Nat) : Int)) (zf hz)) ?_
 refine ai rfl<|ae<|ab hP<|aj rfl<|aa (aU rfl rfl)<|aj rfl<|aa (aY hT rfl rfl rfl rfl (jh _)) ?_
 refine aj rfl<|aa (dJ (j := 32) rfl rfl (by decide)) ?_
 refine aa (aY hT rfl rfl rfl rfl (c := ((z.natAbs / 2 ^ 32 : Nat) : Int)) (by simp only [IntKind.wrap_u32]; omega)) ?_
 refine aa (aW hT rfl rfl rfl (es := [_, _]) rfl rfl rfl)<|aa (ah (gp _ [z.natAbs % 4294967296, z.natAbs / 2 ^ 32] (mT (by omega)))) ?_
 refine aE hT rfl<|ae<|am<|E2 hT rfl rfl rfl rfl rfl rfl rfl ?_
 exact Sub.I (by rw [oP]; exact tf)
theorem mY (neg : Bool) (m : Nat) : aG Tryz.prog 63 [B neg, .p (.c (nt m))] (I (sg neg m)) := by
 have h := gp neg (wl m) (bR m)
 rwa [bN] at h
theorem cU (x y : Int) (hx : L 44 x) (hy : L 44 y) (h0 : y ≠ 0) :
  aG Tryz.prog 113 [I x, I y] (.t [PI (x / y), PI (x % y), PE 0]) := by
 have hq : L 44 (sg (!(decide (x < 0) == decide (y < 0))) (x.natAbs / y.natAbs)) := L.of_le hx (by rw [um]; exact Nat.div_le_self _ _)
 have hr : L 44 (sg (decide (x < 0)) (x.natAbs % y.natAbs)) := L.of_le hx (by rw [um]; exact Nat.mod_le _ _)
 refine aH Tryz.func113 rfl rfl rfl rfl ?_
 refine ab hP<|an ag (aK rfl rfl)<|an ag (aK rfl rfl)<|an ag (az hT rfl rfl)<|an ag (az hT rfl rfl)<|ai rfl<|ae<|ak<|ab hP<|aM hT rfl<|bn hT rfl rfl rfl rfl ?_
 refine aa (aZ hT rfl rfl rfl rfl)<|aa (bd rfl rfl)<|ae ?_
 refine aA rfl (fun hb1 => ?_) (fun hb1 => ?_)
 ·have hb1_ := bT hb1
  exact absurd (wl_len_zero.1 hb1_) h0
 have hb1_ := bF hb1
 refine ao<|ab hP<|aM hT rfl<|bn hT rfl rfl rfl rfl ?_
 refine aM hT rfl<|bn hT rfl rfl rfl rfl ?_
 refine aa (ah (AN x.natAbs y.natAbs (sz (hx.mono (by decide))) (by omega))) ?_
 refine aa (aw (rfl : _ = AV.t _))<|aa (aq rfl (v := .c _) rfl)<|aa (aq rfl (v := .c _) rfl)<|ai rfl<|ai rfl<|ae<|ab hP<|aM hT rfl<|bn hT rfl rfl rfl rfl ?_
 refine aM hT rfl<|bn hT rfl rfl rfl rfl ?_
 refine aa (ik hT rfl rfl rfl rfl)<|aj rfl<|aa (ah (mY _ _)) ?_
 refine aM hT rfl<|bn hT rfl rfl rfl rfl ?_
 refine aj rfl<|aa (ah (mY _ _)) ?_
 refine an ag (az hT rfl rfl)<|an ag (az hT rfl rfl)<|aE hT rfl<|aE hT rfl<|ae<|ak<|ab hP<|aM hT rfl<|bn hT rfl rfl rfl rfl ?_
 refine ae ?_
 refine aA rfl (fun hb2 => ?_) (fun hb2 => ?_)
 ·have e1 := (mB h0 (dT0 hb2)).1
  have e2 := (mB h0 (dT0 hb2)).2
  refine ab hP<|av hT rfl<|av hT rfl<|aa (ah (lh _)) ?_
  refine aa (ah (dk _ _ (hr.mono (by decide)) (hy.abs.mono (by decide)))) ?_
  refine aE hT rfl<|ae<|au hP<|av hT rfl<|av hT rfl<|aa (ah (cn _)) ?_
  refine aa (ah (dm (sgn y) (by unfold sgn; split <;> (try split) <;> decide))) ?_
  refine aa (ah (gK _ _ (hq.mono (by decide)) ((y8 y).mono (by decide)))) ?_
  refine aE hT rfl<|ae<|ab hP<|av hT rfl<|av hT rfl<|aE hT rfl<|aE hT rfl<|ai rfl<|ae<|am ?_
  refine dM rfl (.inr rfl) (aO hT rfl rfl rfl rfl (cs := [_, _]) rfl rfl) (aO hT rfl rfl rfl rfl (cs := [_, _]) rfl rfl) (bC rfl) ?_ bv
  exact aB (by rw [e1, e2])
 have e1 := (mA h0 (dF0 hb2)).1
 have e2 := (mA h0 (dF0 hb2)).2
 refine ao<|ab hP<|av hT rfl<|av hT rfl<|aE hT rfl<|aE hT rfl<|ai rfl<|ae<|am ?_
 refine dM rfl (.inr rfl) (aO hT rfl rfl rfl rfl (cs := [_, _]) rfl rfl) (aO hT rfl rfl rfl rfl (cs := [_, _]) rfl rfl) (bC rfl) ?_ bv
 exact aB (by rw [e1, e2])
theorem Bb (x y : Int) (hx : L 44 x) (hy : L 44 y) (h0 : y ≠ 0) :
  aG Tryz.prog 61 [I x, I y] (I (x % y)) := by
 refine aH Tryz.func61 rfl rfl rfl rfl ?_
 refine ab hP<|an ag (aK rfl rfl)<|an ag (aK rfl rfl)<|an ag (az hT rfl rfl)<|ae<|ab hP<|av hT rfl<|av hT rfl<|aa (ah (cU x y hx hy h0)) ?_
 refine aa (aw (rfl : _ = AV.t _))<|aa (aq rfl (v := .a _) rfl)<|aa (aq rfl (v := .a _) rfl)<|aa (aq rfl (v := .c _) rfl)<|an ag (az hT rfl rfl)<|an ag (az hT rfl rfl)<|aE hT rfl<|aE hT rfl<|ai rfl<|ae<|ab hP<|av hT rfl<|aE hT rfl<|ae<|am<|E2 hT rfl rfl rfl rfl rfl rfl rfl ?_
 exact .refl _
theorem lg (x y : Int) (hx : L 44 x) (hy : L 44 y) :
  aG Tryz.prog 15 [I x, I y] (I (Int.gcd x y)) := by
 refine aH Tryz.func15 rfl rfl rfl rfl ?_
 refine ab hP<|an ag (aK rfl rfl)<|an ag (aK rfl rfl)<|an ag (az hT rfl rfl)<|ae<|ak<|ay<|bj (ι := Int × Int) (fun p => stL [(2, .loc 2 0), (3, .loc 3 0), (4, .loc 4 0)] [(2, ⟨false, 1, 29, [zn (p.1), zm (p.1)]⟩), (3, ⟨false, 1, 29, [zn (p.2), zm (p.2)]⟩), (4, ⟨false, 1, 29, [zn (0), zm (0)]⟩)]) (fun p => L 44 p.1 ∧ L 44 p.2 ∧ Int.gcd p.1 p.2 = Int.gcd x y) (fun p => p.2.natAbs) (x, y) ⟨hx, hy, rfl⟩ (aC ⟨.refl _, .refl _, .refl _, trivial⟩ ⟨rfl, rfl, rfl, trivial⟩) ?_
 rintro ⟨a, b⟩ ⟨ha, hb, hg⟩
 refine ak<|ab hP<|aM hT rfl<|bn hT rfl rfl rfl rfl ?_
 refine aa (aZ hT rfl rfl rfl rfl)<|aa (bK rfl rfl)<|ae ?_
 refine aA rfl (fun hb1 => ?_) (fun hb1 => ?_)
 ·have hb1_ := dT0 hb1
  have h0 : b ≠ 0 := fun e => by
   have e2 : 0 < ((wl b.natAbs).length : Int) := hb1_
   rw [e] at e2; exact absurd e2 (by decide)
  refine ao<|ay<|au hP<|av hT rfl<|av hT rfl<|av hT rfl<|aa (ah (Bb a b ha hb h0)) ?_
  refine aE hT rfl<|aE hT rfl<|ae ?_
  refine ⟨(b, a % b), ⟨hb, (ha.emod hb).mono (by decide), ?_⟩, ?_, aC ⟨.refl _, .refl _, .refl _, trivial⟩ ⟨rfl, rfl, rfl, trivial⟩⟩
  ·rw [← hg]; exact xy a b
  have h1 := Int.emod_nonneg a h0
  have h2 := Int.emod_lt a h0
  show (a % b).natAbs < b.natAbs
  omega
 have hb1_ := dF0 hb1
 refine aV<|ab hP<|av hT rfl<|aa (ah (lh _)) ?_
 refine aE hT rfl<|ae<|am<|E2 hT rfl rfl rfl rfl rfl rfl rfl ?_
 have h0 : b = 0 := by
  have e2 : ¬ 0 < ((wl b.natAbs).length : Int) := hb1_
  have : ((wl b.natAbs).length : Int) = 0 := by omega
  exact wl_len_zero.1 this
 exact Sub.I (by rw [← hg, h0]; simp)
theorem tA (x : Int) (hx : L 44 x) :
  aG Tryz.prog 243 [I x, Z 1] (I x) := by
 refine aH Tryz.func243 rfl rfl rfl rfl ?_
 refine ab hP<|an ag (aK rfl rfl)<|an ag (az hT rfl rfl)<|ae<|ab hP<|aa (ah (dm 1 (by decide))) ?_
 refine an ag (az hT rfl rfl)<|aE hT rfl<|ae<|ak<|ay<|dy 2 ?_
 refine ak<|ab hP<|aj rfl<|aa (bK rfl rfl)<|ae<|aN rfl (by decide) ?_
 refine ao<|ak<|ay<|ak<|ab hP<|aj rfl<|aa (cr rfl rfl (by first | decide | omega) (by first | exact Int.tmod_eq_emod_of_nonneg (by omega) | rfl)) ?_
 refine aa (bd rfl rfl)<|ae<|aN rfl rfl<|au hP<|av hT rfl<|av hT rfl<|aa (ah (cX 1 x (L.mono (n := 0) (by decide) (by decide)) (hx.mono (by decide)))) ?_
 refine aE hT rfl<|ae<|ab hP<|aj rfl<|aa (bK rfl rfl)<|ae<|aI rfl rfl<|ao<|au hP<|aj rfl<|aa (dU rfl rfl (by first | decide | omega) (by first | exact iW0 _ (by omega) | rfl)) ?_
 refine ai rfl<|ae<|ak<|ab hP<|aj rfl<|aa (bK rfl rfl)<|ae<|aI rfl (by decide) ?_
 refine aV<|ab hP<|av hT rfl<|aE hT rfl<|ae<|am<|E2 hT rfl rfl rfl rfl rfl rfl rfl ?_
 exact Sub.I (by rw [Int.one_mul])
end
section
open Go Go.AM
theorem uZ (x : Int) (hx : L 40 x) :
  aG Tryz.prog 212 [I x, Z 2] (.t [PI (rootV x), PE (iP x)]) := by
 have hbl := Ef hx
 refine aH Tryz.func212 rfl rfl rfl rfl ?_
 refine ab hP<|an ag (aK rfl rfl)<|an ag (az hT rfl rfl)<|ai rfl<|ae<|ab hP<|av hT rfl<|aa (ah (qb x)) ?_
 refine ai rfl<|ae<|ak<|ay<|ab hP<|aM hT rfl<|bn hT rfl rfl rfl rfl ?_
 refine aj rfl ?_
 refine a8 (t := 16) rfl (fun hg1 => ?_) (fun hg1 => ?_)
 ·have hx0 : x < 0 := dT0 hg1
  refine a6 hg1 ?_
  refine a6 hg1 ?_
  refine aa (aQ rfl hg1 (rfl : _ = AV.p (.c _)))<|ai rfl<|ae<|aN rfl rfl<|ab hP<|aa (aS hT rfl rfl rfl (es := [_, _]) rfl)<|aE hT rfl<|ai rfl<|ae<|am ?_
  refine bS rfl (.inr rfl) (aO hT rfl rfl rfl rfl (cs := [_, _]) rfl rfl) (bC rfl) ?_ bv
  exact aB (by rw [(gW hx0).1, (gW hx0).2])
 have hx0 : ¬ x < 0 := dF0 hg1
 refine aD hg1 (aw (rfl : _ = AV.p (.c _))) ?_
 refine aD hg1 (aU rfl rfl) ?_
 refine aa (aP rfl hg1 (rfl : _ = AV.p (.c _)))<|ai rfl<|ae<|aI rfl rfl<|ab hP<|aj rfl<|aa (bd rfl rfl)<|aj rfl ?_
 refine a8 (t := 24) rfl (fun hg2 => ?_) (fun hg2 => ?_)
 ·have hg2_ := bT hg2
  refine a6 hg2 ?_
  refine a6 hg2 ?_
  refine aa (aQ rfl hg2 (rfl : _ = AV.p (.c _)))<|ai rfl<|ae<|aN rfl rfl<|ab hP<|av hT rfl<|aE hT rfl<|ai rfl<|ae<|am ?_
  refine bS rfl (.inr rfl) (aO hT rfl rfl rfl rfl (cs := [_, _]) rfl rfl) (bC rfl) ?_ bv
  have e := un hg2_
  exact aB (by rw [e]; rfl)
 have hg2_ := bF hg2
 refine aD hg2 (aw (rfl : _ = AV.p (.c _))) ?_
 refine aD hg2 (bd rfl rfl) ?_
 refine aa (aP rfl hg2 (rfl : _ = AV.p (.c _)))<|ai rfl<|ae<|aI rfl rfl<|ab hP<|aj rfl<|aj rfl<|aa (dL rfl rfl)<|ai rfl<|ae ?_
 refine aA rfl (fun hb3 => ?_) (fun hb3 => ?_)
 ·have hb3_ := dT0 hb3
  refine ab hP<|aa (ah (dm _ (by decide))) ?_
  refine aE hT rfl<|ai rfl<|ae<|am ?_
  refine bS rfl (.inr rfl) (aO hT rfl rfl rfl rfl (cs := [_, _]) rfl rfl) (bC rfl) ?_ bv
  exact aB (by rw [sV hx0 hg2_ hb3_, gX hx0])
 have hb3_ := dF0 hb3
 have hx1 : 0 < x := by
  rcases Int.lt_trichotomy x 0 with e | e | e
  ·exact absurd e hx0
  ·rw [e] at hg2_; exact absurd rfl hg2_
  exact e
 refine ao<|ab hP<|aa (aW hT rfl rfl rfl (es := [_]) rfl rfl rfl)<|aj rfl<|aj rfl<|bp rfl rfl ?_
 refine aa (bA rfl rfl (by first | exact iW0 _ (by omega) | rfl)) ?_
 refine aj rfl<|aa (dU rfl rfl (by decide) (GF _ hbl)) ?_
 refine aa (ah (mU [1] ((bi x.natAbs + 1) / 2) AF (by decide) (by omega))) ?_
 refine aa (ah (mY _ _)) ?_
 refine an ag (az hT rfl rfl)<|aE hT rfl<|ae<|ay<|bj (ι := Int) (fun s => stL [(1, Z 2), (2, .loc 2 0), (4, .loc 4 0), (7, .loc 7 0)] [(2, ⟨false, 1, 29, [zn (x), zm (x)]⟩), (4, ⟨false, 1, 29, [zn (0), zm (0)]⟩), (7, ⟨false, 1, 29, [zn (s), zm (s)]⟩)]) (fun s => 0 < s ∧ rootV x ≤ s ∧ s ≤ 2 * x) (fun s => s.toNat) (2 ^ ((bi x.natAbs + 1) / 2) : Nat) ?_ (aC ⟨.refl _, .refl _, .refl _, .refl _, trivial⟩ ⟨rfl, rfl, ?_, trivial⟩) ?_
 ·exact sU hx1
 ·exact congrArg (fun z => some (⟨false, 1, 29, [zn z, zm z]⟩ : Blk)) (CN _)
 intro s hs
 have ix : LB x 40 := ⟨hx⟩
 have is : LB s 41 := ⟨L.of_le (b := 2 * x) (lz (by rfl)) (by omega)⟩
 refine ay<|ab hP<|av hT rfl<|av hT rfl<|aj rfl<|aa (bA rfl rfl (by first | exact iW0 _ (by omega) | rfl)) ?_
 refine aa (ah (tA s lz)) ?_
 refine aa (ah (cU x s lz lz (by omega))) ?_
 refine aa (aw (rfl : _ = AV.t _))<|aa (aq rfl (v := .a _) rfl)<|aa (aq rfl (v := .a _) rfl)<|aa (aq rfl (v := .c _) rfl)<|an ag (az hT rfl rfl)<|an ag (az hT rfl rfl)<|aE hT rfl<|aE hT rfl<|ai rfl<|ae<|ab hP<|av hT rfl<|aj rfl<|aa (bA rfl rfl (by first | exact iW0 _ (by omega) | rfl)) ?_
 refine aa (ah (dm _ (by decide))) ?_
 refine aa (ah (cX _ _ lz lz)) ?_
 refine av hT rfl<|aa (ah (dk _ _ lz lz)) ?_
 refine aj rfl<|aa (ah (dm _ (by decide))) ?_
 refine aa (ah (cU _ 2 lz lz (by decide))) ?_
 refine aa (aw (rfl : _ = AV.t _))<|aa (aq rfl (v := .a _) rfl)<|aa (aq rfl (v := .a _) rfl)<|aa (aq rfl (v := .c _) rfl)<|aE hT rfl<|ae<|ak<|ab hP<|av hT rfl<|av hT rfl<|aa (ah (cY _ _)) ?_
 refine aa (dL rfl rfl)<|ae ?_
 refine aA rfl (fun hb4 => ?_) (fun hb4 => ?_)
 ·have hb4_ := dT0 hb4
  have hge := qY hb4_
  refine ab hP<|av hT rfl<|aE hT rfl<|ai rfl<|ae<|am ?_
  refine bS rfl (.inr rfl) (aO hT rfl rfl rfl rfl (cs := [_, _]) rfl rfl) (bC rfl) ?_ bv
  have e := uo hx1 hs.1 hs.2.1 hge
  exact aB (by rw [e, gX hx0])
 have hb4_ := dF0 hb4
 have hge := ox hb4_
 refine ao<|au hP<|av hT rfl<|aE hT rfl<|ae ?_
 refine ⟨(s * 1 + x / s) / 2, ⟨(km hx1 hs.1).2, (km hx1 hs.1).1, Int.le_trans (Int.le_of_lt hge) hs.2.2⟩, ?_, aC ⟨.refl _, .refl _, .refl _, .refl _, trivial⟩ ⟨rfl, rfl, rfl, trivial⟩⟩
 have h3 := (km hx1 hs.1).2
 show ((s * 1 + x / s) / 2).toNat < s.toNat
 omega
theorem xp (x : Int) (hx : L 40 x) :
  aG Tryz.prog 178 [I x] (.t [PI (rootV x), PI (if x < 0 then 0 else x - rootV x * rootV x), PE (iP x)]) := by
 have ix : LB x 40 := ⟨hx⟩
 refine aH Tryz.func178 rfl rfl rfl rfl ?_
 refine ab hP<|an ag (aK rfl rfl)<|an ag (az hT rfl rfl)<|an ag (az hT rfl rfl)<|ai rfl<|ae<|ab hP<|av hT rfl<|aa (ah (uZ x hx)) ?_
 refine aa (aw (rfl : _ = AV.t _))<|aa (aq rfl (v := .a _) rfl)<|aa (aq rfl (v := .c _) rfl)<|an ag (az hT rfl rfl)<|aE hT rfl<|ai rfl<|ae<|ak<|ab hP<|aj rfl<|aa (bh rfl rfl)<|ae ?_
 refine aA rfl (fun hb1 => ?_) (fun hb1 => ?_)
 ·have hb1_ := b9 hb1
  refine ab hP<|aa (aS hT rfl rfl rfl (es := [_, _]) rfl)<|aa (aS hT rfl rfl rfl (es := [_, _]) rfl)<|aj rfl<|aE hT rfl<|aE hT rfl<|ai rfl<|ae<|am ?_
  refine dM rfl (.inr rfl) (aO hT rfl rfl rfl rfl (cs := [_, _]) rfl rfl) (aO hT rfl rfl rfl rfl (cs := [_, _]) rfl rfl) (bC rfl) ?_ bv
  have h0 : x < 0 := by
   rcases Int.lt_or_le x 0 with h | h
   ·exact h
   exact absurd (gX (by omega)) hb1_
  exact aB (by rw [(gW h0).1, if_pos h0])
 have hb1_ := bY hb1
 refine ao<|ab hP<|av hT rfl<|av hT rfl<|av hT rfl<|av hT rfl<|aa (ah (cX _ _ lz lz)) ?_
 refine aa (ah (gK _ _ lz lz)) ?_
 refine aE hT rfl<|aE hT rfl<|ai rfl<|ae<|am ?_
 refine dM rfl (.inr rfl) (aO hT rfl rfl rfl rfl (cs := [_, _]) rfl rfl) (aO hT rfl rfl rfl rfl (cs := [_, _]) rfl rfl) (bC rfl) ?_ bv
 have h0 : ¬ x < 0 := fun h => by rw [(gW h).2] at hb1_; cases hb1_
 exact aB (by rw [if_neg h0, gX h0])
end
section
open Go Go.AM
theorem dE (z : Int) (hz : a7 z) :
  aG Tryz.prog 110 [.p (.c (.v (.int .i64 z)))] (I z) := by
 refine aH Tryz.func110 rfl rfl rfl rfl ?_
 refine ab hP<|an ag (az hT rfl rfl)<|ae<|ab hP<|aj rfl<|aa (ah (dm z hz)) ?_
 refine aE hT rfl<|ae<|am<|E2 hT rfl rfl rfl rfl rfl rfl rfl ?_
 exact .refl _
theorem cq (x y : Int) (hx : L 40 x) (hy : L 40 y) :
  aG Tryz.prog 109 [.p (.c (.sl 2 [zn x, zm x, zn y, zm y]))] (I (x * y)) := by
 have ix : LB x 40 := ⟨hx⟩
 have iy : LB y 40 := ⟨hy⟩
 refine aH Tryz.func109 rfl rfl rfl rfl ?_
 refine ab hP<|an ag (az hT rfl rfl)<|ae<|ab hP<|aa (ah (dE _ (by first | assumption | decide))) ?_
 refine an ag (az hT rfl rfl)<|aE hT rfl<|ae<|ak<|ab hP<|aj rfl<|aa (aZ hT rfl rfl rfl rfl)<|aj rfl<|ae<|ay<|dy 3 ?_
 refine ab hP<|aa (aU rfl rfl)<|ae<|ak<|aN rfl (by decide) ?_
 refine ao<|ak<|ay<|ab hP<|cI ?_
 refine aa (br hT rfl rfl rfl (cs := [_, _]) rfl rfl)<|an ag (az hT rfl rfl)<|aE hT rfl<|ae<|au hP<|av hT rfl<|av hT rfl<|aa (ah (cX _ _ lz lz)) ?_
 refine aE hT rfl<|ae<|au hP<|bp rfl rfl ?_
 refine aj rfl<|ae<|ab hP<|aa (aU rfl rfl)<|ae<|ak<|aN rfl (by decide) ?_
 refine ao<|ak<|ay<|ab hP<|cI ?_
 refine aa (br hT rfl rfl rfl (cs := [_, _]) rfl rfl)<|an ag (az hT rfl rfl)<|aE hT rfl<|ae<|au hP<|av hT rfl<|av hT rfl<|aa (ah (cX _ _ lz lz)) ?_
 refine aE hT rfl<|ae<|au hP<|bp rfl rfl ?_
 refine aj rfl<|ae<|ab hP<|aa (aU rfl rfl)<|ae<|ak<|aI rfl (by decide) ?_
 refine aV<|ab hP<|av hT rfl<|aE hT rfl<|ae<|am<|E2 hT rfl rfl rfl rfl rfl rfl rfl ?_
 exact Sub.I (by rw [Int.one_mul])
theorem eL (x y z : Int) (hx : L 40 x) (hy : L 40 y) (hz : L 40 z) :
  aG Tryz.prog 109 [.p (.c (.sl 3 [zn x, zm x, zn y, zm y, zn z, zm z]))] (I (x * y * z)) := by
 have ix : LB x 40 := ⟨hx⟩
 have iy : LB y 40 := ⟨hy⟩
 have iz : LB z 40 := ⟨hz⟩
 refine aH Tryz.func109 rfl rfl rfl rfl ?_
 refine ab hP<|an ag (az hT rfl rfl)<|ae<|ab hP<|aa (ah (dE _ (by first | assumption | decide))) ?_
 refine an ag (az hT rfl rfl)<|aE hT rfl<|ae<|ak<|ab hP<|aj rfl<|aa (aZ hT rfl rfl rfl rfl)<|aj rfl<|ae<|ay<|dy 4 ?_
 refine ab hP<|aa (aU rfl rfl)<|ae<|ak<|aN rfl (by decide) ?_
 refine ao<|ak<|ay<|ab hP<|cI ?_
 refine aa (br hT rfl rfl rfl (cs := [_, _]) rfl rfl)<|an ag (az hT rfl rfl)<|aE hT rfl<|ae<|au hP<|av hT rfl<|av hT rfl<|aa (ah (cX _ _ lz lz)) ?_
 refine aE hT rfl<|ae<|au hP<|bp rfl rfl ?_
 refine aj rfl<|ae<|ab hP<|aa (aU rfl rfl)<|ae<|ak<|aN rfl (by decide) ?_
 refine ao<|ak<|ay<|ab hP<|cI ?_
 refine aa (br hT rfl rfl rfl (cs := [_, _]) rfl rfl)<|an ag (az hT rfl rfl)<|aE hT rfl<|ae<|au hP<|av hT rfl<|av hT rfl<|aa (ah (cX _ _ lz lz)) ?_
 refine aE hT rfl<|ae<|au hP<|bp rfl rfl ?_
 refine aj rfl<|ae<|ab hP<|aa (aU rfl rfl)<|ae<|ak<|aN rfl (by decide) ?_
 refine ao<|ak<|ay<|ab hP<|cI ?_
 refine aa (br hT rfl rfl rfl (cs := [_, _]) rfl rfl)<|an ag (az hT rfl rfl)<|aE hT rfl<|ae<|au hP<|av hT rfl<|av hT rfl<|aa (ah (cX _ _ lz lz)) ?_
 refine aE hT rfl<|ae<|au hP<|bp rfl rfl ?_
 refine aj rfl<|ae<|ab hP<|aa (aU rfl rfl)<|ae<|ak<|aI rfl (by decide) ?_
 refine aV<|ab hP<|av hT rfl<|aE hT rfl<|ae<|am<|E2 hT rfl rfl rfl rfl rfl rfl rfl ?_
 exact Sub.I (by rw [Int.one_mul])
theorem ml (x : Int) (hx : L 40 x) :
  aG Tryz.prog 126 [I x] (B (eQ x)) := by
 have ix : LB x 40 := ⟨hx⟩
 refine aH Tryz.func126 rfl rfl rfl rfl ?_
 refine ab hP<|an ag (aK rfl rfl)<|ai rfl<|ae<|ab hP<|av hT rfl<|aa (ah (xp _ lz)) ?_
 refine aa (aw (rfl : _ = AV.t _))<|aa (aq rfl (v := .a _) rfl)<|aa (aq rfl (v := .a _) rfl)<|aa (aq rfl (v := .c _) rfl)<|an ag (az hT rfl rfl)<|an ag (az hT rfl rfl)<|aE hT rfl<|aE hT rfl<|ai rfl<|ae<|ab hP<|aj rfl<|aa (bd rfl rfl)<|aj rfl ?_
 refine a8 (t := 14) rfl (fun hg1 => ?_) (fun hg1 => ?_)
 ·have hg1_ := bT hg1
  refine aD hg1 (aT hT rfl rfl rfl rfl (cs := [_, _]) rfl rfl) ?_
  refine aD hg1 (ah (cn _)) ?_
  refine aD hg1 (bd rfl rfl) ?_
  refine aa (aQ rfl hg1 (rfl : _ = AV.p (.c _)))<|ai rfl<|ae<|am<|E1 rfl rfl ?_
  exact bU (xo hg1)
 have hg1_ := bF hg1
 iterate 3 refine a6 hg1 ?_
 refine aa (aP rfl hg1 (rfl : _ = AV.p (.c _)))<|ai rfl<|ae<|am<|E1 rfl rfl ?_
 exact bU (A7 hg1)
theorem fz (a b c : Int) (ha : L 36 a) (hb : L 36 b) (hc : L 36 c) :
  aG Tryz.prog 40 [FA a b c] (I (dsc a b c)) := by
 have ia : LB a 36 := ⟨ha⟩
 have ib : LB b 36 := ⟨hb⟩
 have ic : LB c 36 := ⟨hc⟩
 refine aH Tryz.func40 rfl rfl rfl rfl ?_
 refine ab hP<|an ag (aK rfl rfl)<|an ag (az hT rfl rfl)<|ae<|ab hP<|aM hT rfl<|av hT rfl<|aM hT rfl<|av hT rfl<|aa (aW hT rfl rfl rfl (es := [_, _, _, _]) rfl rfl rfl)<|aa (ah (cq _ _ lz lz)) ?_
 refine aa (ah (dE _ (by first | assumption | decide))) ?_
 refine aM hT rfl<|av hT rfl<|aM hT rfl<|av hT rfl<|aa (aW hT rfl rfl rfl (es := [_, _, _, _, _, _]) rfl rfl rfl)<|aa (ah (eL _ _ _ lz lz lz)) ?_
 refine aa (ah (gK _ _ lz lz)) ?_
 refine aE hT rfl<|ae<|am<|E2 hT rfl rfl rfl rfl rfl rfl rfl ?_
 exact .refl _
theorem kR (a b c : Int) (ha : L 34 a) (hb : L 34 b) (hc : L 34 c) :
  aG Tryz.prog 111 [FA a b c] (Z (ck a b c)) := by
 have ia : LB a 34 := ⟨ha⟩
 have ib : LB b 34 := ⟨hb⟩
 have ic : LB c 34 := ⟨hc⟩
 have cDs := fz a b c lz lz lz
 have ids : LB (dsc a b c) 40 := ⟨lz⟩
 generalize hδ : dsc a b c = δ at cDs ids
 refine aH Tryz.func111 rfl rfl rfl rfl ?_
 refine ab hP<|an ag (aK rfl rfl)<|ai rfl<|ae<|ak<|ab hP<|aM hT rfl<|av hT rfl<|aM hT rfl<|av hT rfl<|aM hT rfl<|av hT rfl<|aa (cK hT rfl rfl rfl (es := [_, _, _, _, _, _]) rfl)<|aj rfl<|ae<|ay<|dy 4 ?_
 refine ab hP<|aa (aU rfl rfl)<|ae<|ak<|aN rfl (by decide) ?_
 refine ao<|ak<|ay<|ab hP<|aa (gz hT rfl rfl rfl rfl rfl rfl (by decide) (es := [_, _]) rfl rfl) ?_
 refine an ag (az hT rfl rfl)<|aE hT rfl<|ae<|ab hP<|av hT rfl<|aa (ah (kx _ lz)) ?_
 refine aa (bM rfl)<|ae<|aI rfl rfl<|ao<|au hP<|bp rfl rfl ?_
 refine aj rfl<|ae<|ab hP<|aa (aU rfl rfl)<|ae<|ak<|aN rfl (by decide) ?_
 refine ao<|ak<|ay<|ab hP<|aa (gz hT rfl rfl rfl rfl rfl rfl (by decide) (es := [_, _]) rfl rfl) ?_
 refine an ag (az hT rfl rfl)<|aE hT rfl<|ae<|ab hP<|av hT rfl<|aa (ah (kx _ lz)) ?_
 refine aa (bM rfl)<|ae<|aI rfl rfl<|ao<|au hP<|bp rfl rfl ?_
 refine aj rfl<|ae<|ab hP<|aa (aU rfl rfl)<|ae<|ak<|aN rfl (by decide) ?_
 refine ao<|ak<|ay<|ab hP<|aa (gz hT rfl rfl rfl rfl rfl rfl (by decide) (es := [_, _]) rfl rfl) ?_
 refine an ag (az hT rfl rfl)<|aE hT rfl<|ae<|ab hP<|av hT rfl<|aa (ah (kx _ lz)) ?_
 refine aa (bM rfl)<|ae<|aI rfl rfl<|ao<|au hP<|bp rfl rfl ?_
 refine aj rfl<|ae<|ab hP<|aa (aU rfl rfl)<|ae<|ak<|aI rfl (by decide) ?_
 refine aV<|dH (t := stL [(1, .loc 1 0)] [(1, ⟨false, 1, 46, FL a b c⟩)]) (aC ⟨.refl _, trivial⟩ ⟨rfl, trivial⟩) ?_
 refine ab hP<|bO hT rfl rfl rfl rfl rfl rfl<|aa (ah cDs) ?_
 refine an ag (az hT rfl rfl)<|aE hT rfl<|ae<|ak<|ay<|ab hP<|av hT rfl<|aa (ah (ml _ lz)) ?_
 refine ai rfl<|ae ?_
 refine aA rfl (fun hb1 => ?_) (fun hb1 => ?_)
 ·refine ab hP<|ai rfl<|ae<|am<|E1 rfl rfl ?_
  exact aL (Ga (by rw [hδ]; exact hb1))
 refine ab hP<|av hT rfl<|aa (ah (cn _)) ?_
 refine aa (aU rfl rfl)<|aj rfl ?_
 refine a8 (t := 29) rfl (fun hg2 => ?_) (fun hg2 => ?_)
 ·have hg2_ := dT0 hg2
  refine aD hg2 (bw hT rfl rfl rfl rfl rfl rfl) ?_
  refine aD hg2 (aT hT rfl rfl rfl rfl (cs := [_, _]) rfl rfl) ?_
  refine aD hg2 (ah (cn _)) ?_
  refine aD hg2 (ie rfl rfl) ?_
  refine aa (aQ rfl hg2 (rfl : _ = AV.p (.c _)))<|ai rfl<|ae ?_
  refine aA rfl (fun hb3 => ?_) (fun hb3 => ?_)
  ·have hb3_ := dT0 hb3
   refine ab hP<|ai rfl<|ae<|am<|E1 rfl rfl ?_
   exact aL (Ea (by rw [hδ]; exact hb1) (by rw [hδ]; exact hg2_) hb3_)
  have hb3_ := dF0 hb3
  refine ao<|ab hP<|ai rfl<|ae<|am<|E1 rfl rfl ?_
  exact aL (Gb (by rw [hδ]; exact hb1) (by rw [hδ]; exact hg2_) hb3_)
 have hg2_ := dF0 hg2
 iterate 4 refine a6 hg2 ?_
 refine aa (aP rfl hg2 (rfl : _ = AV.p (.c _)))<|ai rfl<|ae<|aI rfl rfl<|ao<|ab hP<|ai rfl<|ae<|am<|E1 rfl rfl ?_
 exact aL (D9 (by rw [hδ]; exact hb1) (by rw [hδ]; exact hg2_))
theorem fX (a b c : Int) (ha : L 44 a) (hb : L 44 b) (hc : L 44 c) :
  aG Tryz.prog 53 [FA a b c] (B (prim a b c)) := by
 have ia : LB a 44 := ⟨ha⟩
 have ib : LB b 44 := ⟨hb⟩
 have ic : LB c 44 := ⟨hc⟩
 have ig := EC hb hc
 refine aH Tryz.func53 rfl rfl rfl rfl ?_
 refine ab hP<|an ag (aK rfl rfl)<|ai rfl<|ae<|ab hP<|aM hT rfl<|av hT rfl<|aM hT rfl<|av hT rfl<|aM hT rfl<|av hT rfl<|aa (ah (lg _ _ lz lz)) ?_
 refine aa (ah (lg _ _ lz lz)) ?_
 refine aa (ah (dE _ (by first | assumption | decide))) ?_
 refine aa (ah (cY _ _)) ?_
 refine aa (bd rfl rfl)<|ai rfl<|ae<|am<|E1 rfl rfl ?_
 exact bU (wL _ _ _)
theorem rO (a b c x y : Int) (ha : L 36 a) (hb : L 36 b) (hc : L 36 c) (hx : L 36 x) (hy : L 36 y) :
  aG Tryz.prog 44 [FA a b c, I x, I y] (I (vl a b c x y)) := by
 have ia : LB a 36 := ⟨ha⟩
 have ib : LB b 36 := ⟨hb⟩
 have ic : LB c 36 := ⟨hc⟩
 have ix : LB x 36 := ⟨hx⟩
 have iy : LB y 36 := ⟨hy⟩
 refine aH Tryz.func44 rfl rfl rfl rfl ?_
 refine ab hP<|an ag (aK rfl rfl)<|an ag (aK rfl rfl)<|an ag (aK rfl rfl)<|an ag (az hT rfl rfl)<|ae<|ab hP<|aM hT rfl<|av hT rfl<|av hT rfl<|av hT rfl<|aa (aW hT rfl rfl rfl (es := [_, _, _, _, _, _]) rfl rfl rfl)<|aa (ah (eL _ _ _ lz lz lz)) ?_
 refine aM hT rfl<|av hT rfl<|av hT rfl<|av hT rfl<|aa (aW hT rfl rfl rfl (es := [_, _, _, _, _, _]) rfl rfl rfl)<|aa (ah (eL _ _ _ lz lz lz)) ?_
 refine aa (ah (dk _ _ lz lz)) ?_
 refine aM hT rfl<|av hT rfl<|av hT rfl<|av hT rfl<|aa (aW hT rfl rfl rfl (es := [_, _, _, _, _, _]) rfl rfl rfl)<|aa (ah (eL _ _ _ lz lz lz)) ?_
 refine aa (ah (dk _ _ lz lz)) ?_
 refine aE hT rfl<|ae<|am<|E2 hT rfl rfl rfl rfl rfl rfl rfl ?_
 exact .refl _
theorem Al (a b c p q r s : Int) (ha : L 34 a) (hb : L 34 b) (hc : L 34 c) (hp : L 34 p) (hq : L 34 q) (hr : L 34 r) (hs : L 34 s) :
  aG Tryz.prog 46 [FA a b c, MA p q r s] (FA (vl a b c p r) (apB a b c p q r s) (vl a b c q s)) := by
 have ia : LB a 34 := ⟨ha⟩
 have ib : LB b 34 := ⟨hb⟩
 have ic : LB c 34 := ⟨hc⟩
 have ip : LB p 34 := ⟨hp⟩
 have iq : LB q 34 := ⟨hq⟩
 have ir : LB r 34 := ⟨hr⟩
 have is : LB s 34 := ⟨hs⟩
 refine aH Tryz.func46 rfl rfl rfl rfl ?_
 refine ab hP<|an ag (aK rfl rfl)<|an ag (aK rfl rfl)<|an ag (az hT rfl rfl)<|ae<|ab hP<|aM hT rfl<|av hT rfl<|aM hT rfl<|av hT rfl<|aa (aW hT rfl rfl rfl (es := [_, _, _, _]) rfl rfl rfl)<|aa (ah (cq _ _ lz lz)) ?_
 refine aM hT rfl<|av hT rfl<|aM hT rfl<|av hT rfl<|aa (aW hT rfl rfl rfl (es := [_, _, _, _]) rfl rfl rfl)<|aa (ah (cq _ _ lz lz)) ?_
 refine aa (ah (dk _ _ lz lz)) ?_
 refine an ag (az hT rfl rfl)<|aE hT rfl<|ae<|ab hP<|aM hT rfl<|av hT rfl<|aM hT rfl<|av hT rfl<|aM hT rfl<|av hT rfl<|aa (aW hT rfl rfl rfl (es := [_, _, _, _, _, _]) rfl rfl rfl)<|aa (ah (eL _ _ _ lz lz lz)) ?_
 refine aM hT rfl<|av hT rfl<|aM hT rfl<|av hT rfl<|aM hT rfl<|av hT rfl<|aa (aW hT rfl rfl rfl (es := [_, _, _, _, _, _]) rfl rfl rfl)<|aa (ah (eL _ _ _ lz lz lz)) ?_
 refine aa (ah (dk _ _ lz lz)) ?_
 refine an ag (az hT rfl rfl)<|aE hT rfl<|ae<|ab hP<|bO hT rfl rfl rfl rfl rfl rfl<|aM hT rfl<|av hT rfl<|aM hT rfl<|av hT rfl<|aa (ah (rO _ _ _ _ _ lz lz lz lz lz)) ?_
 refine aa (ah (dE _ (by first | assumption | decide))) ?_
 refine av hT rfl<|aa (aW hT rfl rfl rfl (es := [_, _, _, _]) rfl rfl rfl)<|aa (ah (cq _ _ lz lz)) ?_
 refine aM hT rfl<|av hT rfl<|av hT rfl<|aa (aW hT rfl rfl rfl (es := [_, _, _, _]) rfl rfl rfl)<|aa (ah (cq _ _ lz lz)) ?_
 refine aa (ah (dk _ _ lz lz)) ?_
 refine bO hT rfl rfl rfl rfl rfl rfl<|aM hT rfl<|av hT rfl<|aM hT rfl<|av hT rfl<|aa (ah (rO _ _ _ _ _ lz lz lz lz lz)) ?_
 refine aa (aS hT rfl rfl rfl (es := [_, _, _, _, _, _]) rfl)<|aE hT rfl<|ae<|am ?_
 refine dl rfl (.inr rfl) (aO hT rfl rfl rfl rfl (cs := [_, _, _, _, _, _]) rfl rfl) ?_ bv
 exact .refl _
theorem uu (p q r s : Int) :
  aG Tryz.prog 209 [MA p q r s] (MA p q r s) := by
 refine aH Tryz.func209 rfl rfl rfl rfl ?_
 refine ab hP<|an ag (aK rfl rfl)<|an ag (az hT rfl rfl)<|ae<|ab hP<|aM hT rfl<|av hT rfl<|aM hT rfl<|av hT rfl<|aa (cK hT rfl rfl rfl (es := [_, _, _, _]) rfl)<|aM hT rfl<|av hT rfl<|aM hT rfl<|av hT rfl<|aa (cK hT rfl rfl rfl (es := [_, _, _, _]) rfl)<|aa (cK hT rfl rfl rfl (es := [_, _, _, _, _, _, _, _]) rfl)<|aE hT rfl<|ae<|am ?_
 refine dl rfl (.inr rfl) (aO hT rfl rfl rfl rfl (cs := [_, _, _, _, _, _, _, _]) rfl rfl) ?_ bv
 exact .refl _
theorem rP (p q r s t u v w : Int) (hp : L 38 p) (hq : L 38 q) (hr : L 38 r) (hs : L 38 s) (ht : L 38 t) (hu : L 38 u) (hv : L 38 v) (hw : L 38 w) :
  aG Tryz.prog 172 [MA p q r s, MA t u v w] (MA (p * t + q * v) (p * u + q * w) (r * t + s * v) (r * u + s * w)) := by
 have ip : LB p 38 := ⟨hp⟩
 have iq : LB q 38 := ⟨hq⟩
 have ir : LB r 38 := ⟨hr⟩
 have is : LB s 38 := ⟨hs⟩
 have it : LB t 38 := ⟨ht⟩
 have iu : LB u 38 := ⟨hu⟩
 have iv : LB v 38 := ⟨hv⟩
 have iw : LB w 38 := ⟨hw⟩
 refine aH Tryz.func172 rfl rfl rfl rfl ?_
 refine ab hP<|an ag (aK rfl rfl)<|an ag (aK rfl rfl)<|an ag (az hT rfl rfl)<|ae<|ab hP<|aa (aT hT rfl rfl rfl rfl (cs := [_, _, _, _, _, _, _, _]) rfl rfl)<|aa (ah (uu _ _ _ _)) ?_
 refine aa (aT hT rfl rfl rfl rfl (cs := [_, _, _, _, _, _, _, _]) rfl rfl)<|aa (ah (uu _ _ _ _)) ?_
 refine an ag (az hT rfl rfl)<|an ag (az hT rfl rfl)<|aE hT rfl<|aE hT rfl<|ae<|ab hP<|an ag (az hT rfl rfl)<|ae<|ak<|ab hP<|aj rfl<|ae<|ay<|dy 3 ?_
 refine ab hP<|aa (aU rfl rfl)<|ae<|ak<|aN rfl (by decide) ?_
 refine ao<|ak<|ay<|ab hP<|aj rfl<|ai rfl<|ae<|ab hP<|aj rfl<|ae<|ay<|dy 3 ?_
 refine ab hP<|aa (aU rfl rfl)<|ae<|ak<|aN rfl (by decide) ?_
 refine ao<|ak<|ay<|ab hP<|aj rfl<|ai rfl<|ae<|au hP<|aj rfl<|aj rfl<|aj rfl<|aa (aJ hT rfl rfl rfl rfl rfl (by first | decide | omega)) ?_
 refine aa (aJ hT rfl rfl rfl rfl rfl (by first | decide | omega)) ?_
 refine av hT rfl<|aj rfl<|aa (aJ hT rfl rfl rfl rfl rfl (by first | decide | omega)) ?_
 refine aa (aJ hT rfl rfl rfl rfl rfl (by first | decide | omega)) ?_
 refine av hT rfl<|aa (aW hT rfl rfl rfl (es := [_, _, _, _]) rfl rfl rfl)<|aa (ah (cq _ _ lz lz)) ?_
 refine aj rfl<|aa (aJ hT rfl rfl rfl rfl rfl (by first | decide | omega)) ?_
 refine aa (aJ hT rfl rfl rfl rfl rfl (by first | decide | omega)) ?_
 refine av hT rfl<|aj rfl<|aa (aJ hT rfl rfl rfl rfl rfl (by first | decide | omega)) ?_
 refine aa (aJ hT rfl rfl rfl rfl rfl (by first | decide | omega)) ?_
 refine av hT rfl<|aa (aW hT rfl rfl rfl (es := [_, _, _, _]) rfl rfl rfl)<|aa (ah (cq _ _ lz lz)) ?_
 refine aa (ah (dk _ _ lz lz)) ?_
 refine aa (aJ hT rfl rfl rfl rfl rfl (by first | decide | omega)) ?_
 refine aa (aJ hT rfl rfl rfl rfl rfl (by first | decide | omega)) ?_
 refine aE hT rfl<|ae<|au hP<|bp rfl rfl ?_
 refine aj rfl<|ae<|ab hP<|aa (aU rfl rfl)<|ae<|ak<|aN rfl (by decide) ?_
 refine ao<|ak<|ay<|ab hP<|aj rfl<|ai rfl<|ae<|au hP<|aj rfl<|aj rfl<|aj rfl<|aa (aJ hT rfl rfl rfl rfl rfl (by first | decide | omega)) ?_
 refine aa (aJ hT rfl rfl rfl rfl rfl (by first | decide | omega)) ?_
 refine av hT rfl<|aj rfl<|aa (aJ hT rfl rfl rfl rfl rfl (by first | decide | omega)) ?_
 refine aa (aJ hT rfl rfl rfl rfl rfl (by first | decide | omega)) ?_
 refine av hT rfl<|aa (aW hT rfl rfl rfl (es := [_, _, _, _]) rfl rfl rfl)<|aa (ah (cq _ _ lz lz)) ?_
 refine aj rfl<|aa (aJ hT rfl rfl rfl rfl rfl (by first | decide | omega)) ?_
 refine aa (aJ hT rfl rfl rfl rfl rfl (by first | decide | omega)) ?_
 refine av hT rfl<|aj rfl<|aa (aJ hT rfl rfl rfl rfl rfl (by first | decide | omega)) ?_
 refine aa (aJ hT rfl rfl rfl rfl rfl (by first | decide | omega)) ?_
 refine av hT rfl<|aa (aW hT rfl rfl rfl (es := [_, _, _, _]) rfl rfl rfl)<|aa (ah (cq _ _ lz lz)) ?_
 refine aa (ah (dk _ _ lz lz)) ?_
 refine aa (aJ hT rfl rfl rfl rfl rfl (by first | decide | omega)) ?_
 refine aa (aJ hT rfl rfl rfl rfl rfl (by first | decide | omega)) ?_
 refine aE hT rfl<|ae<|au hP<|bp rfl rfl ?_
 refine aj rfl<|ae<|ab hP<|aa (aU rfl rfl)<|ae<|ak<|aI rfl (by decide) ?_
 refine aV<|au hP<|bp rfl rfl ?_
 refine aj rfl<|ae<|ab hP<|aa (aU rfl rfl)<|ae<|ak<|aN rfl (by decide) ?_
 refine ao<|ak<|ay<|ab hP<|aj rfl<|ai rfl<|ae<|ab hP<|aj rfl<|ae<|ay<|dy 3 ?_
 refine ab hP<|aa (aU rfl rfl)<|ae<|ak<|aN rfl (by decide) ?_
 refine ao<|ak<|ay<|ab hP<|aj rfl<|ai rfl<|ae<|au hP<|aj rfl<|aj rfl<|aj rfl<|aa (aJ hT rfl rfl rfl rfl rfl (by first | decide | omega)) ?_
 refine aa (aJ hT rfl rfl rfl rfl rfl (by first | decide | omega)) ?_
 refine av hT rfl<|aj rfl<|aa (aJ hT rfl rfl rfl rfl rfl (by first | decide | omega)) ?_
 refine aa (aJ hT rfl rfl rfl rfl rfl (by first | decide | omega)) ?_
 refine av hT rfl<|aa (aW hT rfl rfl rfl (es := [_, _, _, _]) rfl rfl rfl)<|aa (ah (cq _ _ lz lz)) ?_
 refine aj rfl<|aa (aJ hT rfl rfl rfl rfl rfl (by first | decide | omega)) ?_
 refine aa (aJ hT rfl rfl rfl rfl rfl (by first | decide | omega)) ?_
 refine av hT rfl<|aj rfl<|aa (aJ hT rfl rfl rfl rfl rfl (by first | decide | omega)) ?_
 refine aa (aJ hT rfl rfl rfl rfl rfl (by first | decide | omega)) ?_
 refine av hT rfl<|aa (aW hT rfl rfl rfl (es := [_, _, _, _]) rfl rfl rfl)<|aa (ah (cq _ _ lz lz)) ?_
 refine aa (ah (dk _ _ lz lz)) ?_
 refine aa (aJ hT rfl rfl rfl rfl rfl (by first | decide | omega)) ?_
 refine aa (aJ hT rfl rfl rfl rfl rfl (by first | decide | omega)) ?_
 refine aE hT rfl<|ae<|au hP<|bp rfl rfl ?_
 refine aj rfl<|ae<|ab hP<|aa (aU rfl rfl)<|ae<|ak<|aN rfl (by decide) ?_
 refine ao<|ak<|ay<|ab hP<|aj rfl<|ai rfl<|ae<|au hP<|aj rfl<|aj rfl<|aj rfl<|aa (aJ hT rfl rfl rfl rfl rfl (by first | decide | omega)) ?_
 refine aa (aJ hT rfl rfl rfl rfl rfl (by first | decide | omega)) ?_
 refine av hT rfl<|aj rfl<|aa (aJ hT rfl rfl rfl rfl rfl (by first | decide | omega)) ?_
 refine aa (aJ hT rfl rfl rfl rfl rfl (by first | decide | omega)) ?_
 refine av hT rfl<|aa (aW hT rfl rfl rfl (es := [_, _, _, _]) rfl rfl rfl)<|aa (ah (cq _ _ lz lz)) ?_
 refine aj rfl<|aa (aJ hT rfl rfl rfl rfl rfl (by first | decide | omega)) ?_
 refine aa (aJ hT rfl rfl rfl rfl rfl (by first | decide | omega)) ?_
 refine av hT rfl<|aj rfl<|aa (aJ hT rfl rfl rfl rfl rfl (by first | decide | omega)) ?_
 refine aa (aJ hT rfl rfl rfl rfl rfl (by first | decide | omega)) ?_
 refine av hT rfl<|aa (aW hT rfl rfl rfl (es := [_, _, _, _]) rfl rfl rfl)<|aa (ah (cq _ _ lz lz)) ?_
 refine aa (ah (dk _ _ lz lz)) ?_
 refine aa (aJ hT rfl rfl rfl rfl rfl (by first | decide | omega)) ?_
 refine aa (aJ hT rfl rfl rfl rfl rfl (by first | decide | omega)) ?_
 refine aE hT rfl<|ae<|au hP<|bp rfl rfl ?_
 refine aj rfl<|ae<|ab hP<|aa (aU rfl rfl)<|ae<|ak<|aI rfl (by decide) ?_
 refine aV<|au hP<|bp rfl rfl ?_
 refine aj rfl<|ae<|ab hP<|aa (aU rfl rfl)<|ae<|ak<|aI rfl (by decide) ?_
 refine aV<|ab hP<|aa (aJ hT rfl rfl rfl rfl rfl (by first | decide | omega)) ?_
 refine aa (aJ hT rfl rfl rfl rfl rfl (by first | decide | omega)) ?_
 refine av hT rfl<|aa (aJ hT rfl rfl rfl rfl rfl (by first | decide | omega)) ?_
 refine aa (aJ hT rfl rfl rfl rfl rfl (by first | decide | omega)) ?_
 refine av hT rfl<|aa (aJ hT rfl rfl rfl rfl rfl (by first | decide | omega)) ?_
 refine aa (aJ hT rfl rfl rfl rfl rfl (by first | decide | omega)) ?_
 refine av hT rfl<|aa (aJ hT rfl rfl rfl rfl rfl (by first | decide | omega)) ?_
 refine aa (aJ hT rfl rfl rfl rfl rfl (by first | decide | omega)) ?_
 refine av hT rfl<|aa (aS hT rfl rfl rfl (es := [_, _, _, _, _, _, _, _]) rfl)<|aE hT rfl<|ae<|am ?_
 refine dl rfl (.inr rfl) (aO hT rfl rfl rfl rfl (cs := [_, _, _, _, _, _, _, _]) rfl rfl) ?_ bv
 exact .refl _
theorem nR (a b c : Int) (ha : L 34 a) (hb : L 34 b) (hc : L 34 c) :
  aG Tryz.prog 112 [FA a b c] (B (rdd a b c)) := by
 have ia : LB a 34 := ⟨ha⟩
 have ib : LB b 34 := ⟨hb⟩
 have ic : LB c 34 := ⟨hc⟩
 refine aH Tryz.func112 rfl rfl rfl rfl ?_
 refine ab hP<|an ag (aK rfl rfl)<|ai rfl<|ae<|ak<|ab hP<|bO hT rfl rfl rfl rfl rfl rfl<|aa (ah (kR _ _ _ lz lz lz)) ?_
 refine aa (bh rfl rfl)<|aj rfl ?_
 refine a8 (t := 8) rfl (fun hg1 => ?_) (fun hg1 => ?_)
 ·have hg1_ := b9 hg1
  iterate 4 refine a6 hg1 ?_
  refine aa (aQ rfl hg1 (rfl : _ = AV.p (.c _)))<|ae<|aN rfl rfl<|ab hP<|ai rfl<|ae<|am<|E1 rfl rfl ?_
  exact bU (Fe hg1_)
 have hg1_ := bY hg1
 refine aD hg1 (aT hT rfl rfl rfl rfl (cs := [_, _, _, _, _, _]) rfl rfl) ?_
 refine aD hg1 (ah (fz _ _ _ lz lz lz)) ?_
 refine aD hg1 (ah (cn _)) ?_
 refine aD hg1 (bK rfl rfl) ?_
 refine aa (aP rfl hg1 (rfl : _ = AV.p (.c _)))<|ae ?_
 refine aA rfl (fun hb2 => ?_) (fun hb2 => ?_)
 ·have hb2_ := dT0 hb2
  refine ab hP<|ai rfl<|ae<|am<|E1 rfl rfl ?_
  exact bU (Fc hb2_)
 have hb2_ := dF0 hb2
 refine ao<|ab hP<|aM hT rfl<|av hT rfl<|aa (ah (lh _)) ?_
 refine aM hT rfl<|av hT rfl<|aa (ah (cY _ _)) ?_
 refine aM hT rfl<|av hT rfl<|aM hT rfl<|av hT rfl<|aa (ah (cY _ _)) ?_
 refine ai rfl<|ai rfl<|ae<|ab hP<|aj rfl<|aa (ie rfl rfl)<|aj rfl ?_
 refine a8 (t := 27) rfl (fun hg3 => ?_) (fun hg3 => ?_)
 ·have hg3_ := dT0 hg3
  refine aD hg3 (aw (rfl : _ = AV.p (.c _))) ?_
  refine aD hg3 (ie rfl rfl) ?_
  refine aa (aQ rfl hg3 (rfl : _ = AV.p (.c _)))<|aj rfl ?_
  refine a8 (t := 31) rfl (fun hg4 => ?_) (fun hg4 => ?_)
  ·have hg4_ := dT0 hg4
   refine aD hg4 (aw (rfl : _ = AV.p (.c _))) ?_
   refine aD hg4 (aU rfl rfl) ?_
   refine aD hg4 (aw (rfl : _ = AV.p (.c _))) ?_
   refine a8 (t := 34) rfl (fun hg5 => ?_) (fun hg5 => ?_)
   ·have hg5_ := dT0 hg5
    refine aD hg5 (aw (rfl : _ = AV.p (.c _))) ?_
    refine aD hg5 (aU rfl rfl) ?_
    refine aD hg4 (aQ rfl hg5 (rfl : _ = AV.p (.c _))) ?_
    refine aD hg4 (aw (rfl : _ = AV.p (.c _))) ?_
    refine a8 (t := 38) rfl (fun hg6 => ?_) (fun hg6 => ?_)
    ·have hg6_ := dT0 hg6
     iterate 4 refine a6 hg6 ?_
     refine aD hg4 (aQ rfl hg6 (rfl : _ = AV.p (.c _))) ?_
     refine aa (aQ rfl hg4 (rfl : _ = AV.p (.c _)))<|ai rfl<|ae<|am<|E1 rfl rfl ?_
     exact bU (Fb hg1_ hb2_ hg5_ hg6_)
    have hg6_ := dF0 hg6
    refine aD hg6 (bw hT rfl rfl rfl rfl rfl rfl) ?_
    refine aD hg6 (aT hT rfl rfl rfl rfl (cs := [_, _]) rfl rfl) ?_
    refine aD hg6 (ah (cn _)) ?_
    refine aD hg6 (dL rfl rfl) ?_
    refine aD hg4 (aP rfl hg6 (rfl : _ = AV.p (.c _))) ?_
    refine aa (aQ rfl hg4 (rfl : _ = AV.p (.c _)))<|ai rfl<|ae<|am<|E1 rfl rfl ?_
    exact bU (yH hg1_ hb2_ hg3_ hg4_ (fun h => hg6_ h.2))
   have hg5_ := dF0 hg5
   refine a6 hg5 ?_
   refine a6 hg5 ?_
   refine aD hg4 (aP rfl hg5 (rfl : _ = AV.p (.c _))) ?_
   refine aD hg4 (aw (rfl : _ = AV.p (.c _))) ?_
   refine aD rfl (bw hT rfl rfl rfl rfl rfl rfl) ?_
   refine aD rfl (aT hT rfl rfl rfl rfl (cs := [_, _]) rfl rfl) ?_
   refine aD rfl (ah (cn _)) ?_
   refine aD rfl (dL rfl rfl) ?_
   refine aD hg4 (aP rfl rfl (rfl : _ = AV.p (.c _))) ?_
   refine aa (aQ rfl hg4 (rfl : _ = AV.p (.c _)))<|ai rfl<|ae<|am<|E1 rfl rfl ?_
   exact bU (yH hg1_ hb2_ hg3_ hg4_ (fun h => hg5_ h.1))
  have hg4_ := dF0 hg4
  iterate 3 refine a6 hg4 ?_
  refine eB ?_
  refine eB ?_
  refine a6 hg4 ?_
  refine a6 hg4 ?_
  iterate 4 refine eB ?_
  refine a6 hg4 ?_
  refine aa (aP rfl hg4 (rfl : _ = AV.p (.c _)))<|ai rfl<|ae<|am<|E1 rfl rfl ?_
  exact bU (Fa hg4_)
 have hg3_ := dF0 hg3
 refine a6 hg3 ?_
 refine a6 hg3 ?_
 refine aa (aP rfl hg3 (rfl : _ = AV.p (.c _)))<|aj rfl<|a6 rfl ?_
 refine a6 rfl ?_
 refine a6 rfl ?_
 refine eB ?_
 refine eB ?_
 refine a6 rfl ?_
 refine a6 rfl ?_
 iterate 4 refine eB ?_
 refine a6 rfl ?_
 refine aa (aP rfl rfl (rfl : _ = AV.p (.c _)))<|ai rfl<|ae<|am<|E1 rfl rfl ?_
 exact bU (E9 hg3_)
end
end Go.Proofs.YthaiejfjnllglaaGreatDoor

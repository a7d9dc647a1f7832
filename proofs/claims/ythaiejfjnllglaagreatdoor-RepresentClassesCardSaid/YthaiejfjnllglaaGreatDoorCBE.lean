import Derived.Test.YthaiejfjnllglaaGreatDoorCBA
import Derived.Test.YthaiejfjnllglaaGreatDoorCBB
import Derived.Test.YthaiejfjnllglaaGreatDoorProg
import Derived.KernelRfl
set_option maxRecDepth 100000
set_option maxHeartbeats 2000000
namespace Go.Proofs.YthaiejfjnllglaaGreatDoor
section
open Go Go.AM
def ty2 : TyI := ⟨.int .i64, 1, 8, [.v (.int .i64 0)]⟩
theorem DP : TyOK Tryz.prog 2 ty2 := TyOK.mk' (z := .int .i64 0) (by kernel_rfl) Tryz.underlying2 rfl rfl ⟨z_v _ rfl, trivial⟩
def ty3 : TyI := ⟨.int .i64, 1, 8, [.v (.int .i64 0)]⟩
theorem DL : TyOK Tryz.prog 3 ty3 := TyOK.mk' (z := .int .i64 0) (by kernel_rfl) Tryz.underlying3 rfl rfl ⟨z_v _ rfl, trivial⟩
def ty4 : TyI := ⟨.bool, 1, 1, [.v (.bool false)]⟩
theorem DF : TyOK Tryz.prog 4 ty4 := TyOK.mk' (z := .bool false) (by kernel_rfl) Tryz.underlying4 trivial rfl ⟨z_v _ rfl, trivial⟩
def ty5 : TyI := ⟨.int .u8, 1, 1, [.v (.int .u8 0)]⟩
theorem Dy : TyOK Tryz.prog 5 ty5 := TyOK.mk' (z := .int .u8 0) (by kernel_rfl) Tryz.underlying5 rfl rfl ⟨z_v _ rfl, trivial⟩
def ty9 : TyI := ⟨.str, 1, 16, [.v (.string ⟨#[]⟩)]⟩
theorem Dm : TyOK Tryz.prog 9 ty9 := TyOK.mk' (z := .string ⟨#[]⟩) (by kernel_rfl) Tryz.underlying9 trivial rfl ⟨z_v _ rfl, trivial⟩
def D0 : TyI := ⟨.int .u64, 1, 8, [.v (.int .u64 0)]⟩
theorem Bm : TyOK Tryz.prog 12 D0 := TyOK.mk' (z := .int .u64 0) (by kernel_rfl) Tryz.underlying12 rfl rfl ⟨z_v _ rfl, trivial⟩
def DZ : TyI := ⟨.int .i32, 1, 4, [.v (.int .i32 0)]⟩
theorem Bl : TyOK Tryz.prog 21 DZ := TyOK.mk' (z := .int .i32 0) (by kernel_rfl) Tryz.underlying21 rfl rfl ⟨z_v _ rfl, trivial⟩
def DY : TyI := ⟨.int .u16, 1, 2, [.v (.int .u16 0)]⟩
theorem Bk : TyOK Tryz.prog 22 DY := TyOK.mk' (z := .int .u16 0) (by kernel_rfl) Tryz.underlying22 rfl rfl ⟨z_v _ rfl, trivial⟩
def DX : TyI := ⟨.ar 4 22, 4, 8, [.v (.int .u16 0), .v (.int .u16 0), .v (.int .u16 0), .v (.int .u16 0)]⟩
theorem Bj : TyOK Tryz.prog 23 DX := TyOK.mk' (z := .agg #[.int .u16 0, .int .u16 0, .int .u16 0, .int .u16 0]) (by kernel_rfl) Tryz.underlying23 ⟨rfl, rfl⟩ rfl ⟨z_v _ rfl, z_v _ rfl, z_v _ rfl, z_v _ rfl, trivial⟩
def DW : TyI := ⟨.ar 4 5, 4, 4, [.v (.int .u8 0), .v (.int .u8 0), .v (.int .u8 0), .v (.int .u8 0)]⟩
theorem Bi : TyOK Tryz.prog 24 DW := TyOK.mk' (z := .agg #[.int .u8 0, .int .u8 0, .int .u8 0, .int .u8 0]) (by kernel_rfl) Tryz.underlying24 ⟨rfl, rfl⟩ rfl ⟨z_v _ rfl, z_v _ rfl, z_v _ rfl, z_v _ rfl, trivial⟩
def DU : TyI := ⟨.st [(0, 22), (1, 23), (5, 24)], 9, 14, [.v (.int .u16 0), .v (.int .u16 0), .v (.int .u16 0), .v (.int .u16 0), .v (.int .u16 0), .v (.int .u8 0), .v (.int .u8 0), .v (.int .u8 0), .v (.int .u8 0)]⟩
theorem Bh : TyOK Tryz.prog 25 DU := TyOK.mk' (z := .agg #[.int .u16 0, .int .u16 0, .int .u16 0, .int .u16 0, .int .u16 0, .int .u8 0, .int .u8 0, .int .u8 0, .int .u8 0]) (by kernel_rfl) Tryz.underlying25 rfl rfl ⟨z_v _ rfl, z_v _ rfl, z_v _ rfl, z_v _ rfl, z_v _ rfl, z_v _ rfl, z_v _ rfl, z_v _ rfl, z_v _ rfl, trivial⟩
def DT : TyI := ⟨.st [(0, 22), (1, 23), (5, 24)], 9, 14, [.v (.int .u16 0), .v (.int .u16 0), .v (.int .u16 0), .v (.int .u16 0), .v (.int .u16 0), .v (.int .u8 0), .v (.int .u8 0), .v (.int .u8 0), .v (.int .u8 0)]⟩
theorem Bg : TyOK Tryz.prog 26 DT := TyOK.mk' (z := .agg #[.int .u16 0, .int .u16 0, .int .u16 0, .int .u16 0, .int .u16 0, .int .u8 0, .int .u8 0, .int .u8 0, .int .u8 0]) (by kernel_rfl) Tryz.underlying26 rfl rfl ⟨z_v _ rfl, z_v _ rfl, z_v _ rfl, z_v _ rfl, z_v _ rfl, z_v _ rfl, z_v _ rfl, z_v _ rfl, z_v _ rfl, trivial⟩
def DS : TyI := ⟨.sl 105, 1, 24, [.sl 0 []]⟩
theorem Bf : TyOK Tryz.prog 27 DS := TyOK.mk' (z := .slice none 0 0) (by kernel_rfl) Tryz.underlying27 rfl rfl ⟨bR, trivial⟩
def DR : TyI := ⟨.st [(0, 4), (1, 27)], 2, 32, [.v (.bool false), .sl 0 []]⟩
theorem Be : TyOK Tryz.prog 28 DR := TyOK.mk' (z := .agg #[.bool false, .slice none 0 0]) (by kernel_rfl) Tryz.underlying28 rfl rfl ⟨z_v _ rfl, bR, trivial⟩
def DQ : TyI := ⟨.st [(0, 4), (1, 27)], 2, 32, [zn 0, zm 0]⟩
theorem Bd : TyOK Tryz.prog 29 DQ := TyOK.mk' (z := .agg #[.bool false, .slice none 0 0]) (by kernel_rfl) Tryz.underlying29 rfl rfl ⟨bO, bP, trivial⟩
def DO : TyI := ⟨.sl 46, 1, 24, [.sl 0 []]⟩
theorem Bc : TyOK Tryz.prog 32 DO := TyOK.mk' (z := .slice none 0 0) (by kernel_rfl) Tryz.underlying32 rfl rfl ⟨bR, trivial⟩
def DN : TyI := ⟨.int .i64, 1, 8, [.v (.int .i64 0)]⟩
theorem Bb : TyOK Tryz.prog 33 DN := TyOK.mk' (z := .int .i64 0) (by kernel_rfl) Tryz.underlying33 rfl rfl ⟨z_v _ rfl, trivial⟩
def DM : TyI := ⟨.sl 29, 1, 24, [.sl 0 []]⟩
theorem Ba : TyOK Tryz.prog 36 DM := TyOK.mk' (z := .slice none 0 0) (by kernel_rfl) Tryz.underlying36 rfl rfl ⟨bR, trivial⟩
def DK : TyI := ⟨.st [(0, 3), (1, 29), (3, 29), (5, 29), (7, 36), (8, 32)], 9, 152, [.v (.int .i64 0), zn 0, zm 0, zn 0, zm 0, zn 0, zm 0, .sl 0 [], .sl 0 []]⟩
theorem A9 : TyOK Tryz.prog 41 DK := TyOK.mk' (z := .agg #[.int .i64 0, .bool false, .slice none 0 0, .bool false, .slice none 0 0, .bool false, .slice none 0 0, .slice none 0 0, .slice none 0 0]) (by kernel_rfl) Tryz.underlying41 rfl rfl ⟨z_v _ rfl, bO, bP, bO, bP, bO, bP, bR, bR, trivial⟩
def DJ : TyI := ⟨.st [(0, 3), (1, 29), (3, 29), (5, 29), (7, 36), (8, 32)], 9, 152, [.v (.int .i64 0), zn 0, zm 0, zn 0, zm 0, zn 0, zm 0, .sl 0 [], .sl 0 []]⟩
theorem A8 : TyOK Tryz.prog 42 DJ := TyOK.mk' (z := .agg #[.int .i64 0, .bool false, .slice none 0 0, .bool false, .slice none 0 0, .bool false, .slice none 0 0, .slice none 0 0, .slice none 0 0]) (by kernel_rfl) Tryz.underlying42 rfl rfl ⟨z_v _ rfl, bO, bP, bO, bP, bO, bP, bR, bR, trivial⟩
def DI : TyI := ⟨.st [(0, 29), (2, 29), (4, 29)], 6, 96, [zn 0, zm 0, zn 0, zm 0, zn 0, zm 0]⟩
theorem A7 : TyOK Tryz.prog 45 DI := TyOK.mk' (z := .agg #[.bool false, .slice none 0 0, .bool false, .slice none 0 0, .bool false, .slice none 0 0]) (by kernel_rfl) Tryz.underlying45 rfl rfl ⟨bO, bP, bO, bP, bO, bP, trivial⟩
def DH : TyI := ⟨.st [(0, 29), (2, 29), (4, 29)], 6, 96, [zn 0, zm 0, zn 0, zm 0, zn 0, zm 0]⟩
theorem A6 : TyOK Tryz.prog 46 DH := TyOK.mk' (z := .agg #[.bool false, .slice none 0 0, .bool false, .slice none 0 0, .bool false, .slice none 0 0]) (by kernel_rfl) Tryz.underlying46 rfl rfl ⟨bO, bP, bO, bP, bO, bP, trivial⟩
def DG : TyI := ⟨.sl 3, 1, 24, [.sl 0 []]⟩
theorem A5 : TyOK Tryz.prog 48 DG := TyOK.mk' (z := .slice none 0 0) (by kernel_rfl) Tryz.underlying48 rfl rfl ⟨bR, trivial⟩
def DE : TyI := ⟨.st [(0, 4), (1, 27)], 2, 32, [.v (.bool false), .sl 0 []]⟩
theorem A4 : TyOK Tryz.prog 53 DE := TyOK.mk' (z := .agg #[.bool false, .slice none 0 0]) (by kernel_rfl) Tryz.underlying53 rfl rfl ⟨z_v _ rfl, bR, trivial⟩
def DD : TyI := ⟨.st [(0, 4), (1, 27)], 2, 32, [.v (.bool false), .sl 0 []]⟩
theorem A3 : TyOK Tryz.prog 54 DD := TyOK.mk' (z := .agg #[.bool false, .slice none 0 0]) (by kernel_rfl) Tryz.underlying54 rfl rfl ⟨z_v _ rfl, bR, trivial⟩
def DC : TyI := ⟨.ar 3 54, 6, 96, [.v (.bool false), .sl 0 [], .v (.bool false), .sl 0 [], .v (.bool false), .sl 0 []]⟩
theorem A2 : TyOK Tryz.prog 55 DC := TyOK.mk' (z := .agg #[.bool false, .slice none 0 0, .bool false, .slice none 0 0, .bool false, .slice none 0 0]) (by kernel_rfl) Tryz.underlying55 ⟨rfl, rfl⟩ rfl ⟨z_v _ rfl, bR, z_v _ rfl, bR, z_v _ rfl, bR, trivial⟩
def DB : TyI := ⟨.ar 4 54, 8, 128, [.v (.bool false), .sl 0 [], .v (.bool false), .sl 0 [], .v (.bool false), .sl 0 [], .v (.bool false), .sl 0 []]⟩
theorem A1 : TyOK Tryz.prog 56 DB := TyOK.mk' (z := .agg #[.bool false, .slice none 0 0, .bool false, .slice none 0 0, .bool false, .slice none 0 0, .bool false, .slice none 0 0]) (by kernel_rfl) Tryz.underlying56 ⟨rfl, rfl⟩ rfl ⟨z_v _ rfl, bR, z_v _ rfl, bR, z_v _ rfl, bR, z_v _ rfl, bR, trivial⟩
def DA : TyI := ⟨.st [(0, 55), (6, 56)], 14, 224, [.v (.bool false), .sl 0 [], .v (.bool false), .sl 0 [], .v (.bool false), .sl 0 [], .v (.bool false), .sl 0 [], .v (.bool false), .sl 0 [], .v (.bool false), .sl 0 [], .v (.bool false), .sl 0 []]⟩
theorem A0 : TyOK Tryz.prog 57 DA := TyOK.mk' (z := .agg #[.bool false, .slice none 0 0, .bool false, .slice none 0 0, .bool false, .slice none 0 0, .bool false, .slice none 0 0, .bool false, .slice none 0 0, .bool false, .slice none 0 0, .bool false, .slice none 0 0]) (by kernel_rfl) Tryz.underlying57 rfl rfl ⟨z_v _ rfl, bR, z_v _ rfl, bR, z_v _ rfl, bR, z_v _ rfl, bR, z_v _ rfl, bR, z_v _ rfl, bR, z_v _ rfl, bR, trivial⟩
def Dz : TyI := ⟨.st [(0, 55), (6, 56)], 14, 224, [.v (.bool false), .sl 0 [], .v (.bool false), .sl 0 [], .v (.bool false), .sl 0 [], .v (.bool false), .sl 0 [], .v (.bool false), .sl 0 [], .v (.bool false), .sl 0 [], .v (.bool false), .sl 0 []]⟩
theorem AZ : TyOK Tryz.prog 58 Dz := TyOK.mk' (z := .agg #[.bool false, .slice none 0 0, .bool false, .slice none 0 0, .bool false, .slice none 0 0, .bool false, .slice none 0 0, .bool false, .slice none 0 0, .bool false, .slice none 0 0, .bool false, .slice none 0 0]) (by kernel_rfl) Tryz.underlying58 rfl rfl ⟨z_v _ rfl, bR, z_v _ rfl, bR, z_v _ rfl, bR, z_v _ rfl, bR, z_v _ rfl, bR, z_v _ rfl, bR, z_v _ rfl, bR, trivial⟩
def Dx : TyI := ⟨.st [(0, 36), (1, 33)], 2, 32, [.sl 0 [], .v (.int .i64 0)]⟩
theorem AY : TyOK Tryz.prog 62 Dx := TyOK.mk' (z := .agg #[.slice none 0 0, .int .i64 0]) (by kernel_rfl) Tryz.underlying62 rfl rfl ⟨bR, z_v _ rfl, trivial⟩
def Dw : TyI := ⟨.st [(0, 36), (1, 33)], 2, 32, [.sl 0 [], .v (.int .i64 0)]⟩
theorem AX : TyOK Tryz.prog 63 Dw := TyOK.mk' (z := .agg #[.slice none 0 0, .int .i64 0]) (by kernel_rfl) Tryz.underlying63 rfl rfl ⟨bR, z_v _ rfl, trivial⟩
def Du : TyI := ⟨.sl 93, 1, 24, [.sl 0 []]⟩
theorem AW : TyOK Tryz.prog 65 Du := TyOK.mk' (z := .slice none 0 0) (by kernel_rfl) Tryz.underlying65 rfl rfl ⟨bR, trivial⟩
def Dt : TyI := ⟨.st [(0, 42), (9, 33)], 10, 160, [.v (.int .i64 0), zn 0, zm 0, zn 0, zm 0, zn 0, zm 0, .sl 0 [], .sl 0 [], .v (.int .i64 0)]⟩
theorem AU : TyOK Tryz.prog 71 Dt := TyOK.mk' (z := .agg #[.int .i64 0, .bool false, .slice none 0 0, .bool false, .slice none 0 0, .bool false, .slice none 0 0, .slice none 0 0, .slice none 0 0, .int .i64 0]) (by kernel_rfl) Tryz.underlying71 rfl rfl ⟨z_v _ rfl, bO, bP, bO, bP, bO, bP, bR, bR, z_v _ rfl, trivial⟩
def Ds : TyI := ⟨.st [(0, 42), (9, 33)], 10, 160, [.v (.int .i64 0), zn 0, zm 0, zn 0, zm 0, zn 0, zm 0, .sl 0 [], .sl 0 [], .v (.int .i64 0)]⟩
theorem AT : TyOK Tryz.prog 72 Ds := TyOK.mk' (z := .agg #[.int .i64 0, .bool false, .slice none 0 0, .bool false, .slice none 0 0, .bool false, .slice none 0 0, .slice none 0 0, .slice none 0 0, .int .i64 0]) (by kernel_rfl) Tryz.underlying72 rfl rfl ⟨z_v _ rfl, bO, bP, bO, bP, bO, bP, bR, bR, z_v _ rfl, trivial⟩
def Dr : TyI := ⟨.st [(0, 42), (9, 33)], 10, 160, [.v (.int .i64 0), zn 0, zm 0, zn 0, zm 0, zn 0, zm 0, .sl 0 [], .sl 0 [], .v (.int .i64 0)]⟩
theorem AS : TyOK Tryz.prog 74 Dr := TyOK.mk' (z := .agg #[.int .i64 0, .bool false, .slice none 0 0, .bool false, .slice none 0 0, .bool false, .slice none 0 0, .slice none 0 0, .slice none 0 0, .int .i64 0]) (by kernel_rfl) Tryz.underlying74 rfl rfl ⟨z_v _ rfl, bO, bP, bO, bP, bO, bP, bR, bR, z_v _ rfl, trivial⟩
def Dq : TyI := ⟨.sl 42, 1, 24, [.sl 0 []]⟩
theorem AR : TyOK Tryz.prog 84 Dq := TyOK.mk' (z := .slice none 0 0) (by kernel_rfl) Tryz.underlying84 rfl rfl ⟨bR, trivial⟩
def Dp : TyI := ⟨.st [(0, 29), (2, 29), (4, 29), (6, 29)], 8, 128, [zn 0, zm 0, zn 0, zm 0, zn 0, zm 0, zn 0, zm 0]⟩
theorem AQ : TyOK Tryz.prog 86 Dp := TyOK.mk' (z := .agg #[.bool false, .slice none 0 0, .bool false, .slice none 0 0, .bool false, .slice none 0 0, .bool false, .slice none 0 0]) (by kernel_rfl) Tryz.underlying86 rfl rfl ⟨bO, bP, bO, bP, bO, bP, bO, bP, trivial⟩
def Do : TyI := ⟨.st [(0, 29), (2, 29), (4, 29), (6, 29)], 8, 128, [zn 0, zm 0, zn 0, zm 0, zn 0, zm 0, zn 0, zm 0]⟩
theorem AP : TyOK Tryz.prog 87 Do := TyOK.mk' (z := .agg #[.bool false, .slice none 0 0, .bool false, .slice none 0 0, .bool false, .slice none 0 0, .bool false, .slice none 0 0]) (by kernel_rfl) Tryz.underlying87 rfl rfl ⟨bO, bP, bO, bP, bO, bP, bO, bP, trivial⟩
def xk : TyI := ⟨.ar 2 29, 4, 64, [zn 0, zm 0, zn 0, zm 0]⟩
theorem AO : TyOK Tryz.prog 93 xk := TyOK.mk' (z := .agg #[.bool false, .slice none 0 0, .bool false, .slice none 0 0]) (by kernel_rfl) Tryz.underlying93 ⟨rfl, rfl⟩ rfl ⟨bO, bP, bO, bP, trivial⟩
def Dn : TyI := ⟨.ar 2 5, 2, 2, [.v (.int .u8 0), .v (.int .u8 0)]⟩
theorem AN : TyOK Tryz.prog 96 Dn := TyOK.mk' (z := .agg #[.int .u8 0, .int .u8 0]) (by kernel_rfl) Tryz.underlying96 ⟨rfl, rfl⟩ rfl ⟨z_v _ rfl, z_v _ rfl, trivial⟩
def zZ : TyI := ⟨.int .u64, 1, 8, [.v (.int .u64 0)]⟩
theorem xR : TyOK Tryz.prog 103 zZ := TyOK.mk' (z := .int .u64 0) (by kernel_rfl) Tryz.underlying103 rfl rfl ⟨z_v _ rfl, trivial⟩
def zY : TyI := ⟨.int .u32, 1, 4, [.v (.int .u32 0)]⟩
theorem xQ : TyOK Tryz.prog 105 zY := TyOK.mk' (z := .int .u32 0) (by kernel_rfl) Tryz.underlying105 rfl rfl ⟨z_v _ rfl, trivial⟩
def zX : TyI := ⟨.int .u64, 1, 8, [.v (.int .u64 0)]⟩
theorem xP : TyOK Tryz.prog 106 zX := TyOK.mk' (z := .int .u64 0) (by kernel_rfl) Tryz.underlying106 rfl rfl ⟨z_v _ rfl, trivial⟩
def zV : TyI := ⟨.sl 105, 1, 24, [.sl 0 []]⟩
theorem xN : TyOK Tryz.prog 114 zV := TyOK.mk' (z := .slice none 0 0) (by kernel_rfl) Tryz.underlying114 rfl rfl ⟨bR, trivial⟩
def zU : TyI := ⟨.sl 142, 1, 24, [.sl 0 []]⟩
theorem xM : TyOK Tryz.prog 138 zU := TyOK.mk' (z := .slice none 0 0) (by kernel_rfl) Tryz.underlying138 rfl rfl ⟨bR, trivial⟩
def zS : TyI := ⟨.st [(0, 3), (1, 140)], 2, 16, [.v (.int .i64 0), .v (.nilFunc)]⟩
theorem xK : TyOK Tryz.prog 141 zS := TyOK.mk' (z := .agg #[.int .i64 0, .nilFunc]) (by kernel_rfl) Tryz.underlying141 rfl rfl ⟨z_v _ rfl, z_v _ rfl, trivial⟩
def zR : TyI := ⟨.st [(0, 3), (1, 140)], 2, 16, [.v (.int .i64 0), .v (.nilFunc)]⟩
theorem xJ : TyOK Tryz.prog 142 zR := TyOK.mk' (z := .agg #[.int .i64 0, .nilFunc]) (by kernel_rfl) Tryz.underlying142 rfl rfl ⟨z_v _ rfl, z_v _ rfl, trivial⟩
def zQ : TyI := ⟨.pt 163, 1, 8, [.v (.pointer none)]⟩
theorem xI : TyOK Tryz.prog 161 zQ := TyOK.mk' (z := .pointer none) (by kernel_rfl) Tryz.underlying161 rfl rfl ⟨z_v _ rfl, trivial⟩
def zP : TyI := ⟨.st [(0, 46), (6, 87)], 14, 224, [zn 0, zm 0, zn 0, zm 0, zn 0, zm 0, zn 0, zm 0, zn 0, zm 0, zn 0, zm 0, zn 0, zm 0]⟩
theorem xH : TyOK Tryz.prog 162 zP := TyOK.mk' (z := .agg #[.bool false, .slice none 0 0, .bool false, .slice none 0 0, .bool false, .slice none 0 0, .bool false, .slice none 0 0, .bool false, .slice none 0 0, .bool false, .slice none 0 0, .bool false, .slice none 0 0]) (by kernel_rfl) Tryz.underlying162 rfl rfl ⟨bO, bP, bO, bP, bO, bP, bO, bP, bO, bP, bO, bP, bO, bP, trivial⟩
def zO : TyI := ⟨.st [(0, 46), (6, 87)], 14, 224, [zn 0, zm 0, zn 0, zm 0, zn 0, zm 0, zn 0, zm 0, zn 0, zm 0, zn 0, zm 0, zn 0, zm 0]⟩
theorem xG : TyOK Tryz.prog 163 zO := TyOK.mk' (z := .agg #[.bool false, .slice none 0 0, .bool false, .slice none 0 0, .bool false, .slice none 0 0, .bool false, .slice none 0 0, .bool false, .slice none 0 0, .bool false, .slice none 0 0, .bool false, .slice none 0 0]) (by kernel_rfl) Tryz.underlying163 rfl rfl ⟨bO, bP, bO, bP, bO, bP, bO, bP, bO, bP, bO, bP, bO, bP, trivial⟩
def zN : TyI := ⟨.st [(0, 2), (1, 2), (2, 2)], 3, 24, [.v (.int .i64 0), .v (.int .i64 0), .v (.int .i64 0)]⟩
theorem xF : TyOK Tryz.prog 175 zN := TyOK.mk' (z := .agg #[.int .i64 0, .int .i64 0, .int .i64 0]) (by kernel_rfl) Tryz.underlying175 rfl rfl ⟨z_v _ rfl, z_v _ rfl, z_v _ rfl, trivial⟩
def zM : TyI := ⟨.st [(0, 2), (1, 2), (2, 2)], 3, 24, [.v (.int .i64 0), .v (.int .i64 0), .v (.int .i64 0)]⟩
theorem xE : TyOK Tryz.prog 176 zM := TyOK.mk' (z := .agg #[.int .i64 0, .int .i64 0, .int .i64 0]) (by kernel_rfl) Tryz.underlying176 rfl rfl ⟨z_v _ rfl, z_v _ rfl, z_v _ rfl, trivial⟩
def zJ : TyI := ⟨.sl 192, 1, 24, [.sl 0 []]⟩
theorem xB : TyOK Tryz.prog 190 zJ := TyOK.mk' (z := .slice none 0 0) (by kernel_rfl) Tryz.underlying190 rfl rfl ⟨bR, trivial⟩
def zI : TyI := ⟨.ar 2 3, 2, 16, [.v (.int .i64 0), .v (.int .i64 0)]⟩
theorem xA : TyOK Tryz.prog 192 zI := TyOK.mk' (z := .agg #[.int .i64 0, .int .i64 0]) (by kernel_rfl) Tryz.underlying192 ⟨rfl, rfl⟩ rfl ⟨z_v _ rfl, z_v _ rfl, trivial⟩
def zH : TyI := ⟨.ar 3 29, 6, 96, [zn 0, zm 0, zn 0, zm 0, zn 0, zm 0]⟩
theorem xz : TyOK Tryz.prog 206 zH := TyOK.mk' (z := .agg #[.bool false, .slice none 0 0, .bool false, .slice none 0 0, .bool false, .slice none 0 0]) (by kernel_rfl) Tryz.underlying206 ⟨rfl, rfl⟩ rfl ⟨bO, bP, bO, bP, bO, bP, trivial⟩
def zG : TyI := ⟨.sl 2, 1, 24, [.sl 0 []]⟩
theorem xy : TyOK Tryz.prog 219 zG := TyOK.mk' (z := .slice none 0 0) (by kernel_rfl) Tryz.underlying219 rfl rfl ⟨bR, trivial⟩
def zF : TyI := ⟨.ar 2 93, 8, 128, [zn 0, zm 0, zn 0, zm 0, zn 0, zm 0, zn 0, zm 0]⟩
theorem xw : TyOK Tryz.prog 233 zF := TyOK.mk' (z := .agg #[.bool false, .slice none 0 0, .bool false, .slice none 0 0, .bool false, .slice none 0 0, .bool false, .slice none 0 0]) (by kernel_rfl) Tryz.underlying233 ⟨rfl, rfl⟩ rfl ⟨bO, bP, bO, bP, bO, bP, bO, bP, trivial⟩
def zE : TyI := ⟨.st [(0, 27), (1, 27)], 2, 48, [.sl 0 [], .sl 0 []]⟩
theorem xv : TyOK Tryz.prog 235 zE := TyOK.mk' (z := .agg #[.slice none 0 0, .slice none 0 0]) (by kernel_rfl) Tryz.underlying235 rfl rfl ⟨bR, bR, trivial⟩
def zD : TyI := ⟨.st [(0, 27), (1, 27)], 2, 48, [.sl 0 [], .sl 0 []]⟩
theorem xu : TyOK Tryz.prog 236 zD := TyOK.mk' (z := .agg #[.slice none 0 0, .slice none 0 0]) (by kernel_rfl) Tryz.underlying236 rfl rfl ⟨bR, bR, trivial⟩
def zC : TyI := ⟨.ar 8 3, 8, 64, [.v (.int .i64 0), .v (.int .i64 0), .v (.int .i64 0), .v (.int .i64 0), .v (.int .i64 0), .v (.int .i64 0), .v (.int .i64 0), .v (.int .i64 0)]⟩
theorem xt : TyOK Tryz.prog 244 zC := TyOK.mk' (z := .agg #[.int .i64 0, .int .i64 0, .int .i64 0, .int .i64 0, .int .i64 0, .int .i64 0, .int .i64 0, .int .i64 0]) (by kernel_rfl) Tryz.underlying244 ⟨rfl, rfl⟩ rfl ⟨z_v _ rfl, z_v _ rfl, z_v _ rfl, z_v _ rfl, z_v _ rfl, z_v _ rfl, z_v _ rfl, z_v _ rfl, trivial⟩
def zB : TyI := ⟨.int .i64, 1, 8, [.v (.int .i64 0)]⟩
theorem xr : TyOK Tryz.prog 249 zB := TyOK.mk' (z := .int .i64 0) (by kernel_rfl) Tryz.underlying249 rfl rfl ⟨z_v _ rfl, trivial⟩
def zA : TyI := ⟨.int .u64, 1, 8, [.v (.int .u64 0)]⟩
theorem xq : TyOK Tryz.prog 262 zA := TyOK.mk' (z := .int .u64 0) (by kernel_rfl) Tryz.underlying262 rfl rfl ⟨z_v _ rfl, trivial⟩
def zz : TyI := ⟨.pt 3, 1, 8, [.v (.pointer none)]⟩
theorem xp : TyOK Tryz.prog 266 zz := TyOK.mk' (z := .pointer none) (by kernel_rfl) Tryz.underlying266 rfl rfl ⟨z_v _ rfl, trivial⟩
def zy : TyI := ⟨.pt 262, 1, 8, [.v (.pointer none)]⟩
theorem xo : TyOK Tryz.prog 273 zy := TyOK.mk' (z := .pointer none) (by kernel_rfl) Tryz.underlying273 rfl rfl ⟨z_v _ rfl, trivial⟩
def zx : TyI := ⟨.pt 5, 1, 8, [.v (.pointer none)]⟩
theorem xn : TyOK Tryz.prog 286 zx := TyOK.mk' (z := .pointer none) (by kernel_rfl) Tryz.underlying286 rfl rfl ⟨z_v _ rfl, trivial⟩
def zw : TyI := ⟨.st [(0, 9)], 1, 16, [.v (.string ⟨#[]⟩)]⟩
theorem xl : TyOK Tryz.prog 291 zw := TyOK.mk' (z := .agg #[.string ⟨#[]⟩]) (by kernel_rfl) Tryz.underlying291 rfl rfl ⟨z_v _ rfl, trivial⟩
def zW : TyI := ⟨.ot, 1, 8, [.v (.nilFunc)]⟩
theorem xO : TyOK Tryz.prog 108 zW := TyOK.mk' (z := .nilFunc) (by kernel_rfl) Tryz.underlying108 trivial rfl ⟨z_v _ rfl, trivial⟩
def zT : TyI := ⟨.ot, 1, 8, [.v (.nilFunc)]⟩
theorem xL : TyOK Tryz.prog 140 zT := TyOK.mk' (z := .nilFunc) (by kernel_rfl) Tryz.underlying140 trivial rfl ⟨z_v _ rfl, trivial⟩
def zL : TyI := ⟨.ot, 1, 8, [.v (.nilFunc)]⟩
theorem xD : TyOK Tryz.prog 183 zL := TyOK.mk' (z := .nilFunc) (by kernel_rfl) Tryz.underlying183 trivial rfl ⟨z_v _ rfl, trivial⟩
def zK : TyI := ⟨.ot, 1, 8, [.v (.nilFunc)]⟩
theorem xC : TyOK Tryz.prog 187 zK := TyOK.mk' (z := .nilFunc) (by kernel_rfl) Tryz.underlying187 trivial rfl ⟨z_v _ rfl, trivial⟩
def tt : TT := pG [(2, ty2), (3, ty3), (4, ty4), (5, ty5), (9, ty9), (12, D0), (21, DZ), (22, DY), (23, DX), (24, DW), (25, DU), (26, DT), (27, DS), (28, DR), (29, DQ), (32, DO), (33, DN), (36, DM), (41, DK), (42, DJ), (45, DI), (46, DH), (48, DG), (53, DE), (54, DD), (55, DC), (56, DB), (57, DA), (58, Dz), (62, Dx), (63, Dw), (65, Du), (71, Dt), (72, Ds), (74, Dr), (84, Dq), (86, Dp), (87, Do), (93, xk), (96, Dn), (103, zZ), (105, zY), (106, zX), (114, zV), (138, zU), (141, zS), (142, zR), (161, zQ), (162, zP), (163, zO), (175, zN), (176, zM), (190, zJ), (192, zI), (206, zH), (219, zG), (233, zF), (235, zE), (236, zD), (244, zC), (249, zB), (262, zA), (266, zz), (273, zy), (286, zx), (291, zw), (108, zW), (140, zT), (183, zL), (187, zK)]
theorem hT : dz Tryz.prog tt := AllT.ok ⟨DP, DL, DF, Dy, Dm, Bm, Bl, Bk, Bj, Bi, Bh, Bg, Bf, Be, Bd, Bc, Bb, Ba, A9, A8, A7, A6, A5, A4, A3, A2, A1, A0, AZ, AY, AX, AW, AU, AT, AS, AR, AQ, AP, AO, AN, xR, xQ, xP, xN, xM, xK, xJ, xI, xH, xG, xF, xE, xB, xA, xz, xy, xw, xv, xu, xt, xr, xq, xp, xo, xn, xl, xO, xL, xD, xC, trivial⟩
theorem hP : Tryz.prog.follows .mixedOrders = true := by kernel_rfl
end
section
open Go Go.AM
theorem eb (ws : List Nat) (hok : okW ws) :
  aF Tryz.prog 130 [.p (.c (W ws))] (.p (.c (nt (wv ws)))) := by
 refine aK Tryz.func130 rfl rfl rfl rfl ?_
 refine gI (t := 0) rfl rfl (fun hlen => ?_)
 refine ae hP<|aj rfl<|ag<|an<|aA<|bq (ι := List Nat) (fun l => stL [(0, .p (.c (W l)))] []) (fun l => okW l ∧ wv l = wv ws ∧ l.length ≤ 140737488355328) (fun l => l.length) ws ⟨hok, rfl, hlen⟩ (aE ⟨.refl _, trivial⟩ trivial) ?_
 rintro l ⟨hl, hv, hn⟩
 refine an<|ae hP<|ak rfl<|ab (aU hT rfl rfl rfl rfl)<|ab (bU rfl rfl)<|ak rfl ?_
 refine aZ (t := 6) rfl (fun hg1 => ?_) (fun hg1 => ?_)
 ·have hg1_ := dT0 hg1
  refine aC hg1 (aw (rfl : _ = AV.p (.c _))) ?_
  refine aC hg1 (aw (rfl : _ = AV.p (.c _))) ?_
  refine aC hg1 (aU hT rfl rfl rfl rfl) ?_
  refine aC hg1 (bI rfl rfl (by first | exact iW0 _ (by omega) | rfl)) ?_
  refine aC hg1 (by first | exact fv hT rfl rfl rfl rfl rfl rfl (by omega) | exact bW hT rfl rfl rfl rfl rfl rfl (by omega) (by first | exact gH (by omega) | simp)) ?_
  refine aC hg1 (cf hT rfl rfl rfl (by first | rfl | exact mc (by omega))) ?_
  refine aC hg1 (bo rfl rfl) ?_
  refine ab (aM rfl hg1 (rfl : _ = AV.p (.c _)))<|ag ?_
  refine az rfl (fun hb2 => ?_) (fun hb2 => ?_)
  ·have hb2_ := bT hb2
   refine aq<|aA<|av hP<|ak rfl<|ak rfl<|ab (aU hT rfl rfl rfl rfl)<|ab (bI rfl rfl (by first | exact iW0 _ (by omega) | rfl)) ?_
   refine ab (jG hT rfl rfl rfl rfl rfl rfl (by omega)) ?_
   refine aj rfl<|ag ?_
   have e : ((l.length : Int) - 1).toNat = l.length - 1 := by omega
   refine ⟨l.take (l.length - 1), ⟨hl.take _, ?_, ?_⟩, ?_, aE ⟨aD ?_, trivial⟩ trivial⟩
   ·rw [pK (by omega) (by rw [← e]; omega), hv]
   ·rw [List.length_take]; omega
   ·rw [List.length_take]; omega
   show AV.p (.c (W (l.take ((l.length : Int) - 1).toNat))) = _
   rw [e]
  have hb2_ := bF hb2
  refine a6<|ae hP<|ak rfl<|aj rfl<|ag<|am<|E1 rfl rfl ?_
  have e : ((l.length : Int) - 1).toNat = l.length - 1 := by omega
  refine aD ?_
  rw [← hv, pC hl (.inr (by rw [← e]; omega))]
 have hg1_ := dF0 hg1
 iterate 7 refine aW hg1 ?_
 refine ab (aL rfl hg1 (rfl : _ = AV.p (.c _)))<|ag<|aP rfl rfl<|a6<|ae hP<|ak rfl<|aj rfl<|ag<|am<|E1 rfl rfl ?_
 refine aD ?_
 rw [← hv, pC hl (.inl (by omega))]
end
section
open Go Go.AM
theorem oW (a : Int) :
  aF Tryz.prog 128 [Z a] (B false) := by
 refine aK Tryz.func128 rfl rfl rfl rfl ?_
 refine ae hP<|aj rfl<|ag<|ae hP<|ak rfl<|ak rfl<|ab (bl rfl rfl)<|aj rfl<|ag<|am<|E1 rfl rfl ?_
 exact aD (by simp)
theorem oV (a : Int) :
  aF Tryz.prog 181 [.p (.c (.v (.int .u32 a)))] (B false) := by
 refine aK Tryz.func181 rfl rfl rfl rfl ?_
 refine ae hP<|aj rfl<|ag<|ae hP<|ak rfl<|ak rfl<|ab (bl rfl rfl)<|aj rfl<|ag<|am<|E1 rfl rfl ?_
 exact aD (by simp)
theorem l7 (a b : Int) :
  aF Tryz.prog 57 [.p (.c (.v (.int .i64 a))), .p (.c (.v (.int .i64 b)))] (Z (bu a b)) := by
 refine aK Tryz.func57 rfl rfl rfl rfl ?_
 refine ae hP<|aj rfl<|ag<|ae hP<|ak rfl<|ab (ah (oW _)) ?_
 refine aj rfl<|ag<|ae hP<|ak rfl<|ab (ah (oW _)) ?_
 refine aj rfl<|ag<|an<|ae hP<|ak rfl<|ag<|aP rfl rfl<|aq<|an<|ae hP<|ak rfl<|ag<|aP rfl rfl<|aq<|an<|ae hP<|ak rfl<|ak rfl<|ab (a7 rfl rfl)<|ag ?_
 refine az rfl (fun hb1 => ?_) (fun hb1 => ?_)
 ·have hb1_ := dT0 hb1
  refine ae hP<|aj rfl<|ag<|am<|E1 rfl rfl ?_
  exact aD (by unfold bu; rw [if_pos (by omega)])
 have hb1_ := dF0 hb1
 refine aq<|an<|ae hP<|ak rfl<|ak rfl<|ab (bU rfl rfl)<|ag ?_
 refine az rfl (fun hb2 => ?_) (fun hb2 => ?_)
 ·have hb2_ := dT0 hb2
  refine ae hP<|aj rfl<|ag<|am<|E1 rfl rfl ?_
  exact aD (by unfold bu; rw [if_neg (by omega), if_pos (by omega)])
 have hb2_ := dF0 hb2
 refine aq<|ae hP<|aj rfl<|ag<|am<|E1 rfl rfl ?_
 exact aD (by unfold bu; rw [if_neg (by omega), if_neg (by omega)])
theorem sx (a b : Int) :
  aF Tryz.prog 129 [.p (.c (.v (.int .u32 a))), .p (.c (.v (.int .u32 b)))] (Z (bu a b)) := by
 refine aK Tryz.func129 rfl rfl rfl rfl ?_
 refine ae hP<|aj rfl<|ag<|ae hP<|ak rfl<|ab (ah (oV _)) ?_
 refine aj rfl<|ag<|ae hP<|ak rfl<|ab (ah (oV _)) ?_
 refine aj rfl<|ag<|an<|ae hP<|ak rfl<|ag<|aP rfl rfl<|aq<|an<|ae hP<|ak rfl<|ag<|aP rfl rfl<|aq<|an<|ae hP<|ak rfl<|ak rfl<|ab (a7 rfl rfl)<|ag ?_
 refine az rfl (fun hb1 => ?_) (fun hb1 => ?_)
 ·have hb1_ := dT0 hb1
  refine ae hP<|aj rfl<|ag<|am<|E1 rfl rfl ?_
  exact aD (by unfold bu; rw [if_pos (by omega)])
 have hb1_ := dF0 hb1
 refine aq<|an<|ae hP<|ak rfl<|ak rfl<|ab (bU rfl rfl)<|ag ?_
 refine az rfl (fun hb2 => ?_) (fun hb2 => ?_)
 ·have hb2_ := dT0 hb2
  refine ae hP<|aj rfl<|ag<|am<|E1 rfl rfl ?_
  exact aD (by unfold bu; rw [if_neg (by omega), if_pos (by omega)])
 have hb2_ := dF0 hb2
 refine aq<|ae hP<|aj rfl<|ag<|am<|E1 rfl rfl ?_
 exact aD (by unfold bu; rw [if_neg (by omega), if_neg (by omega)])
theorem EJ (a b : Int) :
  aF Tryz.prog 60 [.p (.c (.sl 2 [.v (.int .i64 a), .v (.int .i64 b)]))] (Z (if a = 0 then b else a)) := by
 refine aK Tryz.func60 rfl rfl rfl rfl ?_
 refine ae hP<|aj rfl<|ag<|ae hP<|aj rfl<|ag<|an<|ae hP<|ak rfl<|ab (aU hT rfl rfl rfl rfl)<|ak rfl<|ag<|aA<|dH 3 ?_
 refine ae hP<|ab (a7 rfl rfl)<|ag<|an<|aS rfl (by decide) ?_
 refine aq<|an<|aA<|ae hP<|cW ?_
 refine cr hT rfl rfl rfl ?_
 refine aj rfl<|ag<|ae hP<|ak rfl<|ak rfl<|ab (bl rfl rfl)<|ag ?_
 refine az rfl (fun hb1 => ?_) (fun hb1 => ?_)
 ·have hb1_ := cn hb1
  refine ae hP<|ak rfl<|aj rfl<|ag<|am<|E1 rfl rfl ?_
  exact aD (by rw [if_neg hb1_])
 have hb1_ := bY hb1
 refine aq<|av hP<|bA rfl rfl ?_
 refine ak rfl<|ag<|ae hP<|ab (a7 rfl rfl)<|ag<|an<|aS rfl (by decide) ?_
 refine aq<|an<|aA<|ae hP<|cW ?_
 refine cr hT rfl rfl rfl ?_
 refine aj rfl<|ag<|ae hP<|ak rfl<|ak rfl<|ab (bl rfl rfl)<|ag ?_
 refine az rfl (fun hb2 => ?_) (fun hb2 => ?_)
 ·have hb2_ := cn hb2
  refine ae hP<|ak rfl<|aj rfl<|ag<|am<|E1 rfl rfl ?_
  exact aD (by rw [if_pos hb1_])
 have hb2_ := bY hb2
 refine aq<|av hP<|bA rfl rfl ?_
 refine ak rfl<|ag<|ae hP<|ab (a7 rfl rfl)<|ag<|an<|aP rfl (by decide) ?_
 refine a6<|ae hP<|ak rfl<|aj rfl<|ag<|am<|E1 rfl rfl ?_
 exact aD (by rw [if_pos hb1_, hb2_])
theorem Ay (x y c : Nat) (hx : x < 4294967296) (hy : y < 4294967296) (hc : c < 4294967296) :
  aF Tryz.prog 169 [.p (.c (w32 x)), .p (.c (w32 y)), .p (.c (w32 c))] (.t [.c (w32 ((x + y + c) % 4294967296)), .c (w32 ((x + y + c) / 4294967296))]) := by
 refine aK Tryz.func169 rfl rfl rfl rfl ?_
 refine ae hP<|aj rfl<|aj rfl<|ag<|ae hP<|ak rfl<|ab (bh hT rfl rfl rfl rfl (by first | exact IntWalk.u64_in _ (by omega) | rfl)) ?_
 refine ak rfl<|ab (bh hT rfl rfl rfl rfl (by first | exact IntWalk.u64_in _ (by omega) | rfl)) ?_
 refine ab (bL rfl rfl (c := ((x + y : Nat) : Int)) (by rw [IntWalk.u64_in _ (by omega)]; omega)) ?_
 refine ak rfl<|ab (bh hT rfl rfl rfl rfl (by first | exact IntWalk.u64_in _ (by omega) | rfl)) ?_
 refine ab (bL rfl rfl (c := ((x + y + c : Nat) : Int)) (by rw [IntWalk.u64_in _ (by omega)]; omega)) ?_
 refine aj rfl<|ag<|ae hP<|ak rfl<|ab (bh hT rfl rfl rfl rfl (c := (((x + y + c) % 4294967296 : Nat) : Int)) (by rw [IntKind.wrap_u32]; omega)) ?_
 refine aj rfl<|ag<|ae hP<|ak rfl<|ab (dT (j := 32) rfl rfl (by first | decide | omega)) ?_
 refine ab (bh hT rfl rfl rfl rfl (c := (((x + y + c) / 4294967296 : Nat) : Int)) (by rw [IntWalk.u32_in _ (by omega)])) ?_
 refine aj rfl<|ag<|am<|E11 rfl rfl rfl ?_
 exact .refl _
theorem tV (x y c : Nat) (hx : x < 4294967296) (hy : y < 4294967296) (hc : c < 2) :
  aF Tryz.prog 170 [.p (.c (w32 x)), .p (.c (w32 y)), .p (.c (w32 c))] (.t [.c (w32 ((x + 8589934592 - y - c) % 4294967296)), .c (w32 (if x < y + c then 1 else 0))]) := by
 have hxy : (x ^^^ y) < 4294967296 := Nat.xor_lt_two_pow (n := 32) hx hy
 have hd : (x + 8589934592 - y - c) % 4294967296 < 4294967296 := Nat.mod_lt _ (by omega)
 have h1 : ((4294967295 - x) &&& y) < 4294967296 := Nat.lt_of_le_of_lt Nat.and_le_right hy
 have h2 : ((4294967295 - (x ^^^ y)) &&& ((x + 8589934592 - y - c) % 4294967296)) < 4294967296 := Nat.lt_of_le_of_lt Nat.and_le_right hd
 refine aK Tryz.func170 rfl rfl rfl rfl ?_
 refine ae hP<|aj rfl<|aj rfl<|ag<|ae hP<|ak rfl<|ak rfl<|ab (bI rfl rfl rfl)<|ak rfl<|ab (bI rfl rfl (c := (((x + 8589934592 - y - c) % 4294967296 : Nat) : Int)) (by simp only [IntKind.wrap_u32]; omega)) ?_
 refine aj rfl<|ag<|ae hP<|ak rfl<|ab (oK rfl (by first | assumption | omega)) ?_
 refine ak rfl<|ab (nI rfl rfl rfl (by first | exact ie (by omega) | exact gy (by omega)) (by first | exact ie (by omega) | exact gy (by omega))) ?_
 refine ak rfl<|ak rfl<|ab (B7 rfl rfl rfl (by first | exact ie (by omega) | exact gy (by omega)) (by first | exact ie (by omega) | exact gy (by omega))) ?_
 refine ab (oK rfl (by first | assumption | omega)) ?_
 refine ak rfl<|ab (nI rfl rfl rfl (by first | exact ie (by omega) | exact gy (by omega)) (by first | exact ie (by omega) | exact gy (by omega))) ?_
 refine ab (vW rfl rfl rfl (by first | exact ie (by omega) | exact gy (by omega)) (by first | exact ie (by omega) | exact gy (by omega))) ?_
 refine ab (dT (j := 31) rfl rfl (by first | decide | omega)) ?_
 refine aj rfl<|ag<|am<|E11 rfl rfl rfl ?_
 exact aD (by rw [u6 x y c hx hy hc]; rfl)
theorem Ct : ∀ m, m < 256 → (⟨#[0, 1, 2, 2, 3, 3, 3, 3, 4, 4, 4, 4, 4, 4, 4, 4, 5, 5, 5, 5, 5, 5, 5, 5, 5, 5, 5, 5, 5, 5, 5, 5, 6, 6, 6, 6, 6, 6, 6, 6, 6, 6, 6, 6, 6, 6, 6, 6, 6, 6, 6, 6, 6, 6, 6, 6, 6, 6, 6, 6, 6, 6, 6, 6, 7, 7, 7, 7, 7, 7, 7, 7, 7, 7, 7, 7, 7, 7, 7, 7, 7, 7, 7, 7, 7, 7, 7, 7, 7, 7, 7, 7, 7, 7, 7, 7, 7, 7, 7, 7, 7, 7, 7, 7, 7, 7, 7, 7, 7, 7, 7, 7, 7, 7, 7, 7, 7, 7, 7, 7, 7, 7, 7, 7, 7, 7, 7, 7, 8, 8, 8, 8, 8, 8, 8, 8, 8, 8, 8, 8, 8, 8, 8, 8, 8, 8, 8, 8, 8, 8, 8, 8, 8, 8, 8, 8, 8, 8, 8, 8, 8, 8, 8, 8, 8, 8, 8, 8, 8, 8, 8, 8, 8, 8, 8, 8, 8, 8, 8, 8, 8, 8, 8, 8, 8, 8, 8, 8, 8, 8, 8, 8, 8, 8, 8, 8, 8, 8, 8, 8, 8, 8, 8, 8, 8, 8, 8, 8, 8, 8, 8, 8, 8, 8, 8, 8, 8, 8, 8, 8, 8, 8, 8, 8, 8, 8, 8, 8, 8, 8, 8, 8, 8, 8, 8, 8, 8, 8, 8, 8, 8, 8, 8, 8, 8, 8, 8, 8, 8, 8, 8, 8, 8, 8, 8, 8]⟩ : ByteArray)[m]? = some (UInt8.ofNat (bv m)) := by decide +kernel
theorem Ib : ∀ m, m < 256 → (UInt8.ofNat (bv m)).toNat = bv m := by decide +kernel
theorem lK {dst : Option Nat} {ty : TypeId} {pos : String} {af : Array Edge} {gd : Option (Nat × Bool)} {d : Nat} {ρ : Operand → AV} {own : Own} {x y : Operand} {m : Nat}
  (hx : ρ x = .p (.c (.v (.string ⟨#[0, 1, 2, 2, 3, 3, 3, 3, 4, 4, 4, 4, 4, 4, 4, 4, 5, 5, 5, 5, 5, 5, 5, 5, 5, 5, 5, 5, 5, 5, 5, 5, 6, 6, 6, 6, 6, 6, 6, 6, 6, 6, 6, 6, 6, 6, 6, 6, 6, 6, 6, 6, 6, 6, 6, 6, 6, 6, 6, 6, 6, 6, 6, 6, 7, 7, 7, 7, 7, 7, 7, 7, 7, 7, 7, 7, 7, 7, 7, 7, 7, 7, 7, 7, 7, 7, 7, 7, 7, 7, 7, 7, 7, 7, 7, 7, 7, 7, 7, 7, 7, 7, 7, 7, 7, 7, 7, 7, 7, 7, 7, 7, 7, 7, 7, 7, 7, 7, 7, 7, 7, 7, 7, 7, 7, 7, 7, 7, 8, 8, 8, 8, 8, 8, 8, 8, 8, 8, 8, 8, 8, 8, 8, 8, 8, 8, 8, 8, 8, 8, 8, 8, 8, 8, 8, 8, 8, 8, 8, 8, 8, 8, 8, 8, 8, 8, 8, 8, 8, 8, 8, 8, 8, 8, 8, 8, 8, 8, 8, 8, 8, 8, 8, 8, 8, 8, 8, 8, 8, 8, 8, 8, 8, 8, 8, 8, 8, 8, 8, 8, 8, 8, 8, 8, 8, 8, 8, 8, 8, 8, 8, 8, 8, 8, 8, 8, 8, 8, 8, 8, 8, 8, 8, 8, 8, 8, 8, 8, 8, 8, 8, 8, 8, 8, 8, 8, 8, 8, 8, 8, 8, 8, 8, 8, 8, 8, 8, 8, 8, 8, 8, 8, 8, 8, 8, 8]⟩)))) (hy : ρ y = .p (.c (.v (.int .u8 m)))) (hm : m < 256) : Eff Tryz.prog ⟨dst, .index 9 x y, ty, pos, af, gd⟩ d ρ own (.p (.c (.v (.int .u8 (bv m : Nat))))) [] none [] := by
 have h := qH (P := Tryz.prog) (dst := dst) (ty := ty) (pos := pos) (af := af) (gd := gd) (d := d) (own := own) hT (T := 9) rfl rfl hx hy (by omega) (by rw [Int.toNat_natCast]; exact Ct m hm)
 rw [Ib m hm] at h
 exact h
theorem Ak (x : Nat) (hx : x < 4294967296) :
  aF Tryz.prog 233 [.p (.c (w32 x))] (Z (bv x)) := by
 refine aK Tryz.func233 rfl rfl rfl rfl ?_
 refine ae hP<|aj rfl<|ag<|an<|ae hP<|ak rfl<|ab (dB rfl rfl)<|ag ?_
 refine az rfl (fun hb1 => ?_) (fun hb1 => ?_)
 ·have hb1_ := dT0 hb1
  refine ae hP<|ak rfl<|ab (dT (j := 16) rfl rfl (by first | decide | omega)) ?_
  refine aj rfl<|ag<|av hP<|aj rfl<|ag<|an<|ae hP<|ak rfl<|ab (dB rfl rfl)<|ag ?_
  refine az rfl (fun hb2 => ?_) (fun hb2 => ?_)
  ·have hb2_ := dT0 hb2
   refine ae hP<|ak rfl<|ab (dT (j := 8) rfl rfl (by first | decide | omega)) ?_
   refine aj rfl<|ag<|av hP<|ak rfl<|bA rfl rfl ?_
   refine aj rfl<|ag<|ae hP<|ak rfl<|ak rfl<|ab (bh hT rfl rfl rfl rfl (IntWalk.u8_in _ (by omega))) ?_
   refine ab (lK rfl rfl (by omega)) ?_
   refine ab (bh hT rfl rfl rfl rfl (iW0 _ (by first | (have h8 := bG (m := x / 2 ^ 16 / 2 ^ 8) (by omega); omega) | (have h8 := bG (m := x / 2 ^ 16) (by omega); omega) | (have h8 := bG (m := x / 2 ^ 8) (by omega); omega) | (have h8 := bG (m := x) (by omega); omega)))) ?_
   refine ab (bL rfl rfl (iW0 _ (by first | (have h8 := bG (m := x / 2 ^ 16 / 2 ^ 8) (by omega); omega) | (have h8 := bG (m := x / 2 ^ 16) (by omega); omega) | (have h8 := bG (m := x / 2 ^ 8) (by omega); omega) | (have h8 := bG (m := x) (by omega); omega)))) ?_
   refine aj rfl<|ag<|am<|E1 rfl rfl ?_
   have e : bv x = 16 + (8 + bv (x / 2 ^ 16 / 2 ^ 8)) := by rw [jt (k := 16) (by omega), jt (n := x / 2 ^ 16) (k := 8) (by omega)]
   exact aO (by omega)
  have hb2_ := dF0 hb2
  refine aq<|ae hP<|ak rfl<|ak rfl<|ab (bh hT rfl rfl rfl rfl (IntWalk.u8_in _ (by omega))) ?_
  refine ab (lK rfl rfl (by omega)) ?_
  refine ab (bh hT rfl rfl rfl rfl (iW0 _ (by first | (have h8 := bG (m := x / 2 ^ 16 / 2 ^ 8) (by omega); omega) | (have h8 := bG (m := x / 2 ^ 16) (by omega); omega) | (have h8 := bG (m := x / 2 ^ 8) (by omega); omega) | (have h8 := bG (m := x) (by omega); omega)))) ?_
  refine ab (bL rfl rfl (iW0 _ (by first | (have h8 := bG (m := x / 2 ^ 16 / 2 ^ 8) (by omega); omega) | (have h8 := bG (m := x / 2 ^ 16) (by omega); omega) | (have h8 := bG (m := x / 2 ^ 8) (by omega); omega) | (have h8 := bG (m := x) (by omega); omega)))) ?_
  refine aj rfl<|ag<|am<|E1 rfl rfl ?_
  have e : bv x = 16 + bv (x / 2 ^ 16) := by rw [jt (k := 16) (by omega)]
  exact aO (by omega)
 have hb1_ := dF0 hb1
 refine aq<|an<|ae hP<|ak rfl<|ab (dB rfl rfl)<|ag ?_
 refine az rfl (fun hb3 => ?_) (fun hb3 => ?_)
 ·have hb3_ := dT0 hb3
  refine ae hP<|ak rfl<|ab (dT (j := 8) rfl rfl (by first | decide | omega)) ?_
  refine aj rfl<|ag<|av hP<|ak rfl<|bA rfl rfl ?_
  refine aj rfl<|ag<|ae hP<|ak rfl<|ak rfl<|ab (bh hT rfl rfl rfl rfl (IntWalk.u8_in _ (by omega))) ?_
  refine ab (lK rfl rfl (by omega)) ?_
  refine ab (bh hT rfl rfl rfl rfl (iW0 _ (by first | (have h8 := bG (m := x / 2 ^ 16 / 2 ^ 8) (by omega); omega) | (have h8 := bG (m := x / 2 ^ 16) (by omega); omega) | (have h8 := bG (m := x / 2 ^ 8) (by omega); omega) | (have h8 := bG (m := x) (by omega); omega)))) ?_
  refine ab (bL rfl rfl (iW0 _ (by first | (have h8 := bG (m := x / 2 ^ 16 / 2 ^ 8) (by omega); omega) | (have h8 := bG (m := x / 2 ^ 16) (by omega); omega) | (have h8 := bG (m := x / 2 ^ 8) (by omega); omega) | (have h8 := bG (m := x) (by omega); omega)))) ?_
  refine aj rfl<|ag<|am<|E1 rfl rfl ?_
  have e : bv x = 8 + bv (x / 2 ^ 8) := by rw [jt (k := 8) (by omega)]
  exact aO (by omega)
 have hb3_ := dF0 hb3
 refine aq<|ae hP<|ak rfl<|ak rfl<|ab (bh hT rfl rfl rfl rfl (IntWalk.u8_in _ (by omega))) ?_
 refine ab (lK rfl rfl (by omega)) ?_
 refine ab (bh hT rfl rfl rfl rfl (iW0 _ (by first | (have h8 := bG (m := x / 2 ^ 16 / 2 ^ 8) (by omega); omega) | (have h8 := bG (m := x / 2 ^ 16) (by omega); omega) | (have h8 := bG (m := x / 2 ^ 8) (by omega); omega) | (have h8 := bG (m := x) (by omega); omega)))) ?_
 refine ab (bL rfl rfl (iW0 _ (by first | (have h8 := bG (m := x / 2 ^ 16 / 2 ^ 8) (by omega); omega) | (have h8 := bG (m := x / 2 ^ 16) (by omega); omega) | (have h8 := bG (m := x / 2 ^ 8) (by omega); omega) | (have h8 := bG (m := x) (by omega); omega)))) ?_
 refine aj rfl<|ag<|am<|E1 rfl rfl ?_
 exact aO (by omega)
theorem IX (x : Nat) (hx : x < 4294967296) :
  aF Tryz.prog 206 [.p (.c (w32 x))] (Z (32 - (bv x : Nat))) := by
 have hb := gG (k := 32) hx
 refine aK Tryz.func206 rfl rfl rfl rfl ?_
 refine ae hP<|aj rfl<|ag<|ae hP<|ak rfl<|ab (ah (Ak _ (by assumption))) ?_
 refine ab (bI rfl rfl (by first | exact iW0 _ (by omega) | rfl)) ?_
 refine aj rfl<|ag<|am<|E1 rfl rfl ?_
 exact .refl _
theorem H0 (hi lo y : Nat) (hy : y < 4294967296) (hh : hi < y) (hl : lo < 4294967296) :
  aF Tryz.prog 238 [.p (.c (w32 hi)), .p (.c (w32 lo)), .p (.c (w32 y))] (.t [.c (w32 ((hi * 4294967296 + lo) / y)), .c (w32 ((hi * 4294967296 + lo) % y))]) := by
 have hq : (hi * 4294967296 + lo) / y < 4294967296 := (Nat.div_lt_iff_lt_mul (by omega)).2 (by have : (hi + 1) * 4294967296 ≤ y * 4294967296 := Nat.mul_le_mul_right _ hh; omega)
 have hr : (hi * 4294967296 + lo) % y < y := Nat.mod_lt _ (by omega)
 refine aK Tryz.func238 rfl rfl rfl rfl ?_
 refine ae hP<|aj rfl<|aj rfl<|ag<|an<|ae hP<|ak rfl<|ab (bl rfl rfl)<|ak rfl<|bw (bf rfl rfl (bne_iff_ne.2 (by omega))) (aw (rfl : _ = AV.p (.c _))) ?_
 refine bw (bf rfl rfl (bne_iff_ne.2 (by omega))) (aw (rfl : _ = AV.p (.c _))) ?_
 refine bw (bf rfl rfl (bne_iff_ne.2 (by omega))) (jh rfl rfl) ?_
 refine ab (aM rfl (bne_iff_ne.2 (by omega)) (rfl : _ = AV.p (.c _))) ?_
 refine ag<|aP rfl (decide_eq_false (by omega)) ?_
 refine aq<|ae hP<|ak rfl<|ab (bh hT rfl rfl rfl rfl (IntWalk.u64_in _ (by omega))) ?_
 refine ab (lI (j := 32) rfl rfl (by first | decide | omega) rfl) ?_
 refine ak rfl<|ab (bh hT rfl rfl rfl rfl (IntWalk.u64_in _ (by omega))) ?_
 refine ab (lJ rfl rfl (lq (by omega) hl)) ?_
 refine aj rfl<|ag<|ae hP<|ak rfl<|ak rfl<|ab (bh hT rfl rfl rfl rfl (IntWalk.u64_in _ (by omega))) ?_
 refine ab (eh rfl rfl (by omega) (c := (((hi * 4294967296 + lo) / y : Nat) : Int)) (by rw [Int.tdiv_eq_ediv_of_nonneg (by omega), ← Int.natCast_ediv, dF (by omega)])) ?_
 refine ab (bh hT rfl rfl rfl rfl (nu (by omega))) ?_
 refine ak rfl<|ak rfl<|ab (bh hT rfl rfl rfl rfl (IntWalk.u64_in _ (by omega))) ?_
 refine ab (cQ rfl rfl (by omega) (c := (((hi * 4294967296 + lo) % y : Nat) : Int)) (by rw [Int.tmod_eq_emod_of_nonneg (by omega), ← Int.natCast_emod])) ?_
 refine ab (bh hT rfl rfl rfl rfl (nu (by omega))) ?_
 refine aj rfl<|aj rfl<|ag<|am<|E11 rfl rfl rfl ?_
 exact .refl _
end
section
open Go Go.AM
theorem nM (m n : Nat) :
  aF Tryz.prog 59 [.p (.c (nt m)), .p (.c (nt n))] (Z (bu m n)) := by
 refine aK Tryz.func59 rfl rfl rfl rfl ?_
 refine gI (t := 0) rfl rfl (fun hlen => ?_)
 refine gI (t := 1) rfl rfl (fun hlen2 => ?_)
 refine ae hP<|aj rfl<|ag<|an<|ae hP<|ak rfl<|ab (aU hT rfl rfl rfl rfl)<|ak rfl<|ab (aU hT rfl rfl rfl rfl)<|ab (ah (l7 _ _)) ?_
 refine aj rfl<|ag<|ae hP<|ak rfl<|ab (bl rfl rfl)<|ag ?_
 refine az rfl (fun hb1 => ?_) (fun hb1 => ?_)
 ·have hb1_ := cn hb1
  refine ae hP<|ak rfl<|aj rfl<|ag<|am<|E1 rfl rfl ?_
  exact aO (CZ hb1_)
 have hb1_ := bY hb1
 refine aq<|an<|ae hP<|ak rfl<|ab (aU hT rfl rfl rfl rfl)<|ab (bI rfl rfl (by first | exact iW0 _ (by omega) | rfl)) ?_
 refine aj rfl<|ag<|aA ?_
 have hll : (wl m).length = (wl n).length := by have := iR hb1_; omega
 refine bq (ι := Nat) (fun k => stL [(0, .p (.c (nt m))), (1, .p (.c (nt n))), (6, Z ((k : Int) - 1))] []) (fun k => k ≤ (wl m).length ∧ (wl m).drop k = (wl n).drop k) (fun k => k) (wl m).length ⟨Nat.le_refl _, by rw [List.drop_length, hll, List.drop_length]⟩ (aE ⟨.refl _, .refl _, .refl _, trivial⟩ trivial) ?_
 rintro k ⟨hk, he⟩
 refine an<|ae hP<|ak rfl<|ab (dB rfl rfl)<|ag ?_
 refine az rfl (fun hb2 => ?_) (fun hb2 => ?_)
 ·have hb2_ := dT0 hb2
  refine aq<|an<|aA<|ae hP<|ak rfl<|ak rfl<|ab (bW hT rfl rfl rfl rfl rfl rfl (l := (wl m).length) (xs := (wl m).map w32) (by omega) (gH (by omega))) ?_
  refine cr hT rfl rfl rfl ?_
  refine ak rfl<|ak rfl<|ab (bW hT rfl rfl rfl rfl rfl rfl (l := (wl n).length) (xs := (wl n).map w32) (by omega) (gH (by omega))) ?_
  refine cr hT rfl rfl rfl ?_
  refine ab (ah (sx _ _)) ?_
  refine aj rfl<|ag<|ae hP<|ak rfl<|ab (bl rfl rfl)<|ag ?_
  refine az rfl (fun hb3 => ?_) (fun hb3 => ?_)
  ·have hb3_ := cn hb3
   refine ae hP<|ak rfl<|aj rfl<|ag<|am<|E1 rfl rfl ?_
   have hkk : ((k : Int) - 1).toNat = k - 1 := by omega
   rw [hkk] at hb3_ ⊢
   have h2 := rP (bS m) (bS n) hll (k := k - 1) (by omega) (by rw [show k - 1 + 1 = k by omega]; exact he) hb3_
   rw [bJ, bJ] at h2
   exact aO h2
  have hb3_ := bY hb3
  refine aq<|av hP<|ak rfl<|ab (bI rfl rfl (by first | exact iW0 _ (by omega) | rfl)) ?_
  refine aj rfl<|ag ?_
  have hkk : ((k : Int) - 1).toNat = k - 1 := by omega
  have he2 := iR hb3_
  rw [hkk] at he2
  refine ⟨k - 1, ⟨by omega, ?_⟩, by omega, aE ⟨.refl _, .refl _, aO (by omega), trivial⟩ trivial⟩
  have e1 := dK (ws := wl m) (k := k - 1) (by omega)
  have e2 := dK (ws := wl n) (k := k - 1) (by omega)
  rw [e1, e2, show k - 1 + 1 = k by omega, he]
  congr 1
  omega
 have hb2_ := dF0 hb2
 refine a6<|ae hP<|aj rfl<|ag<|am<|E1 rfl rfl ?_
 have hk0 : k = 0 := by omega
 rw [hk0, List.drop_zero, List.drop_zero] at he
 have : m = n := by rw [← bJ m, he, bJ]
 exact aO (by rw [this, fP])
theorem Cg (a b : List Nat) (ha : okW a) (hb : okW b) (hla : a.length ≤ 1099511627776) (hlb : b.length ≤ 1099511627776) :
  aF Tryz.prog 106 [.p (.c (W a)), .p (.c (W b))] (.p (.c (nt (wv a + wv b)))) := by
 refine aK Tryz.func106 rfl rfl rfl rfl ?_
 refine ae hP<|aj rfl<|ag<|cy (ι := List Nat × List Nat) (fun ⟨p, q⟩ => stL [(0, .p (.c (W p))), (1, .p (.c (W q)))] []) (fun ⟨p, q⟩ => okW p ∧ okW q ∧ q.length ≤ p.length ∧ p.length ≤ 1099511627776 ∧ wv p + wv q = wv a + wv b) ?_ ?_
 ·refine ae hP<|ak rfl<|ab (aU hT rfl rfl rfl rfl)<|ak rfl<|ab (aU hT rfl rfl rfl rfl)<|ab (a7 rfl rfl)<|ag ?_
  refine az rfl (fun hb1 => ?_) (fun hb1 => ?_)
  ·have hb1_ := dT0 hb1
   refine av hP<|ak rfl<|ak rfl<|aj rfl<|aj rfl<|ag ?_
   exact ⟨(b, a), ⟨hb, ha, by omega, hlb, Nat.add_comm _ _⟩, aE ⟨.refl _, .refl _, trivial⟩ trivial⟩
  have hb1_ := dF0 hb1
  refine aq ?_
  exact ⟨(a, b), ⟨ha, hb, by omega, hla, rfl⟩, aE ⟨.refl _, .refl _, trivial⟩ trivial⟩
 clear hla hlb
 generalize hS : wv a + wv b = S
 clear ha hb
 rintro ⟨a, b⟩ ⟨ha, hb, hl, hla, hs⟩
 refine ae hP<|ak rfl<|ab (aU hT rfl rfl rfl rfl)<|bA rfl rfl ?_
 refine ao ai (eX hT rfl rfl rfl rfl rfl rfl rfl rfl (by omega)) ?_
 refine ab (bi (rfl : _ = AV.vec _))<|ag<|ae hP<|ab (aw (rfl : _ = AV.vec _))<|ak rfl<|RK.mut ai (kU hT rfl rfl rfl rfl rfl rfl rfl (by simp) (ws' := a ++ [0]) (by rw [x7])) ?_
 refine ag<|ae hP<|aj rfl<|ag<|an<|ae hP<|ab (aw (rfl : _ = AV.vec _))<|ab (fu hT rfl rfl rfl rfl)<|ak rfl<|ag<|aA ?_
 have hA : okW (a ++ [0]) := ha.snoc (by omega)
 refine bq (ι := List Nat × Nat) (fun ⟨l, c⟩ => stL [(1, .p (.c (W b))), (5, .vec 19), (6, .p (.c (w32 c))), (24, Z (((a ++ [0]).length : Nat) : Int)), (25, Z ((l.length : Nat) : Int))] [(19, WB 105 (l ++ (a ++ [0]).drop l.length))]) (fun ⟨l, c⟩ => l.length ≤ (a ++ [0]).length ∧ okW l ∧ c < 2 ∧ wv l + 4294967296 ^ l.length * c = wv ((a ++ [0]).take l.length) + wv (b.take l.length)) (fun ⟨l, _⟩ => (a ++ [0]).length - l.length) ([], 0) ⟨Nat.zero_le _, okW.nil, by omega, by simp [wv]⟩ (aE ⟨.refl _, .refl _, .refl _, .refl _, .refl _, trivial⟩ ⟨rfl, trivial⟩) ?_
 rintro ⟨l, c⟩ ⟨hll, hol, hc, hv⟩
 have hmid := to hll
 have hAlen : (a ++ [0]).length = a.length + 1 := by simp
 refine ae hP<|ab (a7 rfl rfl)<|ag<|an ?_
 refine az rfl (fun hb2 => ?_) (fun hb2 => ?_)
 ·have hb2_ := dT0 hb2
  have hlt : l.length < (a ++ [0]).length := by omega
  refine aq<|an<|aA<|ae hP<|ak rfl<|aj rfl<|ag<|ae hP<|aj rfl<|ag<|cy (ι := Unit) (fun _ => stL [(1, .p (.c (W b))), (5, .vec 19), (6, .p (.c (w32 c))), (24, Z (((a ++ [0]).length : Nat) : Int)), (25, Z ((l.length : Nat) : Int)), (7, Z ((l.length : Nat) : Int)), (8, .p (.c (w32 (b.getD l.length 0))))] [(19, WB 105 (l ++ (a ++ [0]).drop l.length))]) (fun _ => True) ?_ ?_
  ·refine ae hP<|ak rfl<|ak rfl<|ab (aU hT rfl rfl rfl rfl)<|ab (a7 rfl rfl)<|ag ?_
   refine az rfl (fun hb3 => ?_) (fun hb3 => ?_)
   ·have hb3_ := dT0 hb3
    refine av hP<|ak rfl<|ak rfl<|cW ?_
    refine cr hT rfl rfl rfl ?_
    refine aj rfl<|ag ?_
    exact ⟨(), trivial, aE ⟨.refl _, .refl _, .refl _, .refl _, .refl _, .refl _, .refl _, trivial⟩ ⟨rfl, trivial⟩⟩
   have hb3_ := dF0 hb3
   refine aq ?_
   exact ⟨(), trivial, aE ⟨.refl _, .refl _, .refl _, .refl _, .refl _, .refl _, aD (by rw [nR (by omega)]; rfl), trivial⟩ ⟨rfl, trivial⟩⟩
  rintro _ -
  refine av hP<|ab (aw (rfl : _ = AV.vec _))<|ak rfl<|ab (aw (rfl : _ = AV.vec _))<|ak rfl<|db ?_
  refine ab (dx hT rfl rfl rfl rfl (by first | omega | (simp; omega)) (tq hlt)) ?_
  refine ak rfl<|ak rfl<|ab (ah (Ay _ _ _ (hA.getD _) (hb.getD _) (by omega))) ?_
  refine ab (aw (rfl : _ = AV.t _))<|ab (ay rfl (v := .c _) rfl)<|ab (ay rfl (v := .c _) rfl)<|db ?_
  refine di ai (cU hT rfl rfl rfl rfl rfl (by first | omega | (simp; omega)) (tn hlt)) ?_
  refine aj rfl<|ag<|av hP<|bA rfl rfl ?_
  refine ak rfl<|ag ?_
  have hs1 := hA.getD l.length
  have hs2 := hb.getD l.length
  have hr := w5 (A := (a ++ [0])) (b := b) (_r := []) hlt rfl hv _ rfl
  refine ⟨(l ++ [((a ++ [0]).getD l.length 0 + b.getD l.length 0 + c) % 4294967296], ((a ++ [0]).getD l.length 0 + b.getD l.length 0 + c) / 4294967296), ⟨by simp; omega, hol.snoc (Nat.mod_lt _ (by omega)), by omega, by simpa using hr⟩, by simp; omega, aE ⟨.refl _, .refl _, .refl _, .refl _, aO (by simp), trivial⟩ ⟨rfl, trivial⟩⟩
 have hb2_ := dF0 hb2
 have hge : l.length = (a ++ [0]).length := by omega
 have hfin := hol.app (hA.drop l.length)
 have hval := w6 hge hl ha hb hol hv
 refine a6<|dL (t := 5) rfl rfl ?_
 refine ae hP<|ak rfl<|ab (ah (eb _ hfin)) ?_
 refine aj rfl<|ag<|am<|E1 rfl rfl ?_
 exact aD (by rw [hval, hs])
end
section
open Go Go.AM
theorem tm (a b : List Nat) (ha : okW a) (hb : okW b) (hla : a.length ≤ 1099511627776) (hab : b.length ≤ a.length) (hle : wv b ≤ wv a) :
  aF Tryz.prog 107 [.p (.c (W a)), .p (.c (W b))] (.p (.c (nt (wv a - wv b)))) := by
 refine aK Tryz.func107 rfl rfl rfl rfl ?_
 have h0l : (0 : Nat) ≤ a.length := Nat.zero_le _
 refine ae hP<|aj rfl<|ag<|ae hP<|ak rfl<|ab (aU hT rfl rfl rfl rfl)<|ao ai (eX hT rfl rfl rfl rfl rfl rfl rfl rfl (by omega)) ?_
 refine ab (bi (rfl : _ = AV.vec _))<|ag<|ae hP<|ab (aw (rfl : _ = AV.vec _))<|ak rfl<|RK.mut ai (kU hT rfl rfl rfl rfl rfl rfl rfl (by simp) (ws' := a) (by rw [x8, List.append_nil])) ?_
 refine ag<|ae hP<|aj rfl<|ag<|an<|ae hP<|ab (aw (rfl : _ = AV.vec _))<|ab (fu hT rfl rfl rfl rfl)<|ak rfl<|ag<|aA<|bq (ι := List Nat × Nat) (fun ⟨l, c⟩ => stL [(1, .p (.c (W b))), (5, .vec 11), (6, .p (.c (w32 c))), (16, Z ((a.length : Nat) : Int)), (17, Z ((l.length : Nat) : Int))] [(11, WB 105 (l ++ a.drop l.length))]) (fun ⟨l, c⟩ => l.length ≤ a.length ∧ okW l ∧ c < 2 ∧ wv l + wv (b.take l.length) = wv (a.take l.length) + 4294967296 ^ l.length * c) (fun ⟨l, _⟩ => a.length - l.length) ([], 0) ⟨Nat.zero_le _, okW.nil, by omega, by simp [wv]⟩ (aE ⟨.refl _, .refl _, .refl _, .refl _, .refl _, trivial⟩ ⟨rfl, trivial⟩) ?_
 rintro ⟨l, c⟩ ⟨hll, hol, hc, hv⟩
 have hmid := to hll
 refine ae hP<|ab (a7 rfl rfl)<|ag<|an ?_
 refine az rfl (fun hb1 => ?_) (fun hb1 => ?_)
 ·have hb1_ := dT0 hb1
  have hlt : l.length < a.length := by omega
  refine aq<|an<|aA<|ae hP<|ak rfl<|aj rfl<|ag<|ae hP<|aj rfl<|ag<|cy (ι := Unit) (fun _ => stL [(1, .p (.c (W b))), (5, .vec 11), (6, .p (.c (w32 c))), (16, Z ((a.length : Nat) : Int)), (17, Z ((l.length : Nat) : Int)), (7, Z ((l.length : Nat) : Int)), (8, .p (.c (w32 (b.getD l.length 0))))] [(11, WB 105 (l ++ a.drop l.length))]) (fun _ => True) ?_ ?_
  ·refine ae hP<|ak rfl<|ak rfl<|ab (aU hT rfl rfl rfl rfl)<|ab (a7 rfl rfl)<|ag ?_
   refine az rfl (fun hb2 => ?_) (fun hb2 => ?_)
   ·have hb2_ := dT0 hb2
    refine av hP<|ak rfl<|ak rfl<|cW ?_
    refine cr hT rfl rfl rfl ?_
    refine aj rfl<|ag ?_
    exact ⟨(), trivial, aE ⟨.refl _, .refl _, .refl _, .refl _, .refl _, .refl _, .refl _, trivial⟩ ⟨rfl, trivial⟩⟩
   have hb2_ := dF0 hb2
   refine aq ?_
   exact ⟨(), trivial, aE ⟨.refl _, .refl _, .refl _, .refl _, .refl _, .refl _, aD (by rw [nR (by omega)]; rfl), trivial⟩ ⟨rfl, trivial⟩⟩
  rintro _ -
  refine av hP<|ab (aw (rfl : _ = AV.vec _))<|ak rfl<|ab (aw (rfl : _ = AV.vec _))<|ak rfl<|db ?_
  refine ab (dx hT rfl rfl rfl rfl (by first | omega | (simp; omega)) (tq hlt)) ?_
  refine ak rfl<|ak rfl<|ab (ah (tV _ _ _ (ha.getD _) (hb.getD _) hc)) ?_
  refine ab (aw (rfl : _ = AV.t _))<|ab (ay rfl (v := .c _) rfl)<|ab (ay rfl (v := .c _) rfl)<|db ?_
  refine di ai (cU hT rfl rfl rfl rfl rfl (by first | omega | (simp; omega)) (tn hlt)) ?_
  refine aj rfl<|ag<|av hP<|bA rfl rfl ?_
  refine ak rfl<|ag ?_
  have hr := vt rfl hc ha hb hv
  refine ⟨(l ++ [(a.getD l.length 0 + 8589934592 - b.getD l.length 0 - c) % 4294967296], if a.getD l.length 0 < b.getD l.length 0 + c then 1 else 0), ⟨by simp; omega, hol.snoc (Nat.mod_lt _ (by omega)), by split <;> omega, by simpa using hr⟩, by simp; omega, aE ⟨.refl _, .refl _, .refl _, .refl _, aO (by simp), trivial⟩ ⟨rfl, trivial⟩⟩
 have hb1_ := dF0 hb1
 have hge : l.length = a.length := by omega
 have hfin := hol.app (ha.drop l.length)
 have hval := vu hge hab hle hol hv
 refine a6<|dL (t := 5) rfl rfl ?_
 refine ae hP<|ak rfl<|ab (ah (eb _ hfin)) ?_
 refine aj rfl<|ag<|am<|E1 rfl rfl ?_
 exact aD (by rw [hval])
theorem Ce (a b : List Nat) (ha : okW a) (hb : okW b) (hla : a.length ≤ 1099511627776) (hlb : b.length ≤ 1099511627776) :
  aF Tryz.prog 64 [.p (.c (W a)), .p (.c (W b))] (.p (.c (nt (wv a * wv b)))) := by
 refine aK Tryz.func64 rfl rfl rfl rfl ?_
 refine ae hP<|aj rfl<|ag<|ae hP<|ak rfl<|ab (aU hT rfl rfl rfl rfl)<|ak rfl<|ab (aU hT rfl rfl rfl rfl)<|bA rfl rfl ?_
 refine ao ai (eX hT rfl rfl rfl rfl rfl rfl rfl rfl (by omega)) ?_
 refine ab (bi (rfl : _ = AV.vec _))<|ag<|an<|ae hP<|ak rfl<|ab (aU hT rfl rfl rfl rfl)<|ak rfl<|ag<|aA<|bq (ι := List Nat × Nat) (fun ⟨o, i⟩ => stL [(1, .p (.c (W b))), (5, .vec 17), (18, .p (.c (W a))), (19, Z ((a.length : Nat) : Int)), (20, Z (i : Int))] [(17, WB 105 o)]) (fun ⟨o, i⟩ => i ≤ a.length ∧ o.length = a.length + b.length ∧ okW o ∧ wv o = wv (a.take i) * wv b ∧ ∀ j, i + b.length ≤ j → o.getD j 0 = 0) (fun ⟨_, i⟩ => a.length - i) (List.replicate ((a.length : Int) + (b.length : Int)).toNat 0, 0) ⟨Nat.zero_le _, by simp; omega, okW.rep _, by rw [mA]; simp [wv], fun j _ => mq _ _⟩ (aE ⟨.refl _, .refl _, .refl _, .refl _, .refl _, trivial⟩ ⟨rfl, trivial⟩) ?_
 rintro ⟨o, i⟩ ⟨hi, hlo, ho, hv, hz⟩
 refine ae hP<|ab (a7 rfl rfl)<|ag<|an ?_
 refine az rfl (fun hb1 => ?_) (fun hb1 => ?_)
 ·have hb1_ := dT0 hb1
  have hlt0 : i < a.length := by omega
  refine aq<|an<|aA<|ae hP<|ak rfl<|cW ?_
  refine cr hT rfl rfl rfl ?_
  refine aj rfl<|aj rfl<|ag<|ae hP<|aj rfl<|ag<|an<|ae hP<|ak rfl<|ab (aU hT rfl rfl rfl rfl)<|ak rfl<|ag<|aA ?_
  obtain ⟨o0, ho0⟩ : ∃ o0, o0 = o := ⟨_, rfl⟩
  have hv0 := hv
  rw [← ho0] at hv
  refine bq (ι := List Nat × Nat × Nat) (fun ⟨o, k, c⟩ => stL [(1, .p (.c (W b))), (5, .vec 17), (18, .p (.c (W a))), (19, Z ((a.length : Nat) : Int)), (20, Z (i : Int)), (6, Z (i : Int)), (7, .p (.c (w32 (a.getD i 0)))), (8, .p (.c (.v (.int .u64 (c : Nat))))), (25, .p (.c (W b))), (26, Z ((b.length : Nat) : Int)), (27, Z (k : Int))] [(17, WB 105 o)]) (fun ⟨o, k, c⟩ => k ≤ b.length ∧ o.length = a.length + b.length ∧ okW o ∧ c < 4294967296 ∧ wv o + 4294967296 ^ (i + k) * c = wv o0 + 4294967296 ^ i * (a.getD i 0 * wv (b.take k)) ∧ ∀ j, i + b.length ≤ j → o.getD j 0 = 0) (fun ⟨_, k, _⟩ => b.length - k) (o, 0, 0) ⟨Nat.zero_le _, hlo, ho, by omega, by rw [ho0]; simp [wv], hz⟩ (aE ⟨.refl _, .refl _, .refl _, .refl _, .refl _, .refl _, .refl _, .refl _, .refl _, .refl _, .refl _, trivial⟩ ⟨rfl, trivial⟩) ?_
  clear hlo ho hz hv0 ho0
  rintro ⟨o, k, c⟩ ⟨hk, hlo, ho, hc, hkv, hz⟩
  refine ae hP<|ab (a7 rfl rfl)<|ag<|an ?_
  refine az rfl (fun hb2 => ?_) (fun hb2 => ?_)
  ·have hb2_ := dT0 hb2
   have hlt : k < b.length := by omega
   have ha1 := ha.getD i
   have hb1v := hb.getD k
   have hp1 := Nat.mul_le_mul (Nat.le_sub_one_of_lt (ha.getD i)) (Nat.le_sub_one_of_lt (hb.getD k))
   have ho1 := ho.getD (i + k)
   refine aq<|an<|aA<|ae hP<|ak rfl<|cW ?_
   refine cr hT rfl rfl rfl ?_
   refine aj rfl<|aj rfl<|ag<|ae hP<|ak rfl<|ab (bh hT rfl rfl rfl rfl (dF (by omega))) ?_
   refine ak rfl<|ab (bh hT rfl rfl rfl rfl (dF (by omega))) ?_
   refine ab (bK rfl rfl (c := ((a.getD i 0 * b.getD k 0 : Nat) : Int)) (by rw [← Int.natCast_mul, dF (by omega)])) ?_
   refine ab (aw (rfl : _ = AV.vec _))<|ak rfl<|ak rfl<|ab (bL rfl rfl (c := ((i + k : Nat) : Int)) (by rw [iW0 _ (by omega)]; omega)) ?_
   refine db ?_
   refine ab (dx hT rfl rfl rfl rfl (by first | omega | (simp; omega)) rfl) ?_
   refine ab (bh hT rfl rfl rfl rfl (dF (by omega))) ?_
   refine ab (bL rfl rfl (c := ((a.getD i 0 * b.getD k 0 + o.getD (i + k) 0 : Nat) : Int)) (by rw [← Int.natCast_add, dF (by omega)])) ?_
   refine ak rfl<|ab (bL rfl rfl (c := ((a.getD i 0 * b.getD k 0 + o.getD (i + k) 0 + c : Nat) : Int)) (by rw [← Int.natCast_add, dF (by omega)])) ?_
   refine aj rfl<|ag<|av hP<|ab (aw (rfl : _ = AV.vec _))<|ak rfl<|ak rfl<|ab (bL rfl rfl (c := ((i + k : Nat) : Int)) (by rw [iW0 _ (by omega)]; omega)) ?_
   refine ak rfl<|ab (bh hT rfl rfl rfl rfl (c := (((a.getD i 0 * b.getD k 0 + o.getD (i + k) 0 + c) % 4294967296 : Nat) : Int)) (by rw [IntKind.wrap_u32]; omega)) ?_
   refine ak rfl<|ab (dT (j := 32) rfl rfl (by first | decide | omega)) ?_
   refine db ?_
   refine di ai (cU hT rfl rfl rfl rfl rfl (by first | omega | (simp; omega)) rfl) ?_
   refine aj rfl<|ag<|av hP<|bA rfl rfl ?_
   refine ak rfl<|ag ?_
   have hr := v7 (b := b) (x := a.getD i 0) (i := i) (k := k) (t := a.getD i 0 * b.getD k 0 + o.getD (i + k) 0 + c) (by omega) rfl hkv
   refine ⟨(o.set (i + k) ((a.getD i 0 * b.getD k 0 + o.getD (i + k) 0 + c) % 4294967296), k + 1, (a.getD i 0 * b.getD k 0 + o.getD (i + k) 0 + c) / 4294967296), ⟨by omega, by simpa using hlo, ho.set (Nat.mod_lt _ (by omega)), (Nat.div_lt_iff_lt_mul (by omega)).2 (by omega), hr, fun j hj => ?_⟩, by show b.length - (k + 1) < b.length - k; omega, aE ⟨.refl _, .refl _, .refl _, .refl _, .refl _, .refl _, .refl _, .refl _, .refl _, .refl _, .refl _, trivial⟩ ⟨rfl, trivial⟩⟩
   rw [fE _ _ _ _ (by omega), if_neg (by omega)]
   exact hz j (by omega)
  have hb2_ := dF0 hb2
  have hke : k = b.length := by omega
  subst hke
  refine a6<|av hP<|ab (aw (rfl : _ = AV.vec _))<|ak rfl<|ak rfl<|ab (aU hT rfl rfl rfl rfl)<|ab (bL rfl rfl (c := ((i + b.length : Nat) : Int)) (by rw [iW0 _ (by omega)]; omega)) ?_
  refine ak rfl<|ab (bh hT rfl rfl rfl rfl (nu (by omega))) ?_
  refine db ?_
  refine di ai (cU hT rfl rfl rfl rfl rfl (by first | omega | (simp; omega)) rfl) ?_
  refine ag<|av hP<|bA rfl rfl ?_
  refine ak rfl<|ag ?_
  have hov := v8 (o := o0) (a := a) (by omega) (hz _ (Nat.le_refl _)) rfl hv hkv
  refine ⟨(o.set (i + b.length) c, i + 1), ⟨by omega, by simpa using hlo, ho.set (by omega), hov, fun j hj => ?_⟩, by show a.length - (i + 1) < a.length - i; omega, aE ⟨.refl _, .refl _, .refl _, .refl _, .refl _, trivial⟩ ⟨rfl, trivial⟩⟩
  rw [fE _ _ _ _ (by omega), if_neg (by omega)]
  exact hz j (by omega)
 have hb1_ := dF0 hb1
 have hie : i = a.length := by omega
 refine a6<|dL (t := 5) rfl rfl ?_
 refine ae hP<|ak rfl<|ab (ah (eb _ ho)) ?_
 refine aj rfl<|ag<|am<|E1 rfl rfl ?_
 exact aD (by rw [hv, hie, List.take_length])
end
section
open Go Go.AM
theorem nK (a : List Nat) (k : Nat) (ha : okW a) (hla : a.length ≤ 1099511627776) (hk : k ≤ 1099511627776) :
  aF Tryz.prog 207 [.p (.c (W a)), Z (k : Int)] (.p (.c (nt (wv a * 2 ^ k)))) := by
 refine aK Tryz.func207 rfl rfl rfl rfl ?_
 obtain ⟨q, hq⟩ : ∃ q, q = k / 32 := ⟨_, rfl⟩
 obtain ⟨s, hs⟩ : ∃ s, s = k % 32 := ⟨_, rfl⟩
 have hks : k = 32 * q + s := by omega
 have hs32 : s < 32 := by omega
 refine ae hP<|aj rfl<|ag<|ae hP<|ak rfl<|ab (aU hT rfl rfl rfl rfl)<|ak rfl<|ab (eh rfl rfl (by decide) (c := ((q : Nat) : Int)) (by rw [Int.tdiv_eq_ediv_of_nonneg (by omega), iW0 _ (by omega)]; omega)) ?_
 refine ab (bL rfl rfl (c := ((a.length + q : Nat) : Int)) (by rw [iW0 _ (by omega)]; omega)) ?_
 refine ab (bL rfl rfl (c := ((a.length + q + 1 : Nat) : Int)) (by rw [iW0 _ (by omega)]; omega)) ?_
 refine ao ai (eX hT rfl rfl rfl rfl rfl rfl rfl rfl (by omega)) ?_
 refine ab (bi (rfl : _ = AV.vec _))<|ag<|an<|ae hP<|ak rfl<|ab (aU hT rfl rfl rfl rfl)<|ak rfl<|ag<|aA<|bq (ι := List Nat × Nat) (fun ⟨o, i⟩ => stL [(1, Z (k : Int)), (5, .vec 15), (16, .p (.c (W a))), (17, Z ((a.length : Nat) : Int)), (18, Z (i : Int))] [(15, WB 105 o)]) (fun ⟨o, i⟩ => i ≤ a.length ∧ o.length = a.length + q + 1 ∧ okW o ∧ wv o = wv (a.take i) * 2 ^ k ∧ o.getD (i + q) 0 < 2 ^ s ∧ ∀ j, i + q < j → o.getD j 0 = 0) (fun ⟨_, i⟩ => a.length - i) (List.replicate ((a.length + q + 1 : Nat) : Int).toNat 0, 0) ⟨Nat.zero_le _, by simp; omega, okW.rep _, by rw [mA]; simp [wv], by rw [mq]; exact Nat.two_pow_pos s, fun j _ => mq _ _⟩ (aE ⟨.refl _, .refl _, .refl _, .refl _, .refl _, trivial⟩ ⟨rfl, trivial⟩) ?_
 rintro ⟨o, i⟩ ⟨hi, hlo, ho, hv, hlow, hz⟩
 refine ae hP<|ab (a7 rfl rfl)<|ag<|an ?_
 refine az rfl (fun hb1 => ?_) (fun hb1 => ?_)
 ·have hb1_ := dT0 hb1
  have hlt : i < a.length := by omega
  have hai := ha.getD i
  have hoi := ho.getD (i + q)
  have hti : a.getD i 0 * 2 ^ s / 4294967296 < 4294967296 := vB hai hs32
  refine aq<|an<|aA<|ae hP<|ak rfl<|cW ?_
  refine cr hT rfl rfl rfl ?_
  refine aj rfl<|aj rfl<|ag<|ae hP<|ak rfl<|ab (bh hT rfl rfl rfl rfl (dF (by omega))) ?_
  refine ak rfl<|ab (cQ rfl rfl (by decide) (c := ((s : Nat) : Int)) (by rw [Int.tmod_eq_emod_of_nonneg (by omega)]; omega)) ?_
  refine ab (qE rfl rfl (by omega) (c := ((a.getD i 0 * 2 ^ s : Nat) : Int)) (GQ hai hs32)) ?_
  refine aj rfl<|ag<|ae hP<|ab (aw (rfl : _ = AV.vec _))<|ak rfl<|ak rfl<|ab (eh rfl rfl (by decide) (c := ((q : Nat) : Int)) (by rw [Int.tdiv_eq_ediv_of_nonneg (by omega), iW0 _ (by omega)]; omega)) ?_
  refine ab (bL rfl rfl (c := ((i + q : Nat) : Int)) (by rw [iW0 _ (by omega)]; omega)) ?_
  refine db ?_
  refine ab (dx hT rfl rfl rfl rfl (by first | omega | (simp; omega)) rfl) ?_
  refine ak rfl<|ab (bh hT rfl rfl rfl rfl (c := ((a.getD i 0 * 2 ^ s % 4294967296 : Nat) : Int)) (by rw [IntKind.wrap_u32]; omega)) ?_
  refine ab (vW rfl rfl rfl (ie hoi) (ie (Nat.mod_lt _ (by omega)))) ?_
  refine db ?_
  refine di ai (cU hT rfl rfl rfl rfl rfl (by first | omega | (simp; omega)) rfl) ?_
  refine ag<|av hP<|ab (aw (rfl : _ = AV.vec _))<|ak rfl<|ak rfl<|ab (eh rfl rfl (by decide) (c := ((q : Nat) : Int)) (by rw [Int.tdiv_eq_ediv_of_nonneg (by omega), iW0 _ (by omega)]; omega)) ?_
  refine ab (bL rfl rfl (c := ((i + q : Nat) : Int)) (by rw [iW0 _ (by omega)]; omega)) ?_
  refine ab (bL rfl rfl (c := ((i + q + 1 : Nat) : Int)) (by rw [iW0 _ (by omega)]; omega)) ?_
  refine ak rfl<|ab (dT (j := 32) rfl rfl (by decide)) ?_
  refine ab (bh hT rfl rfl rfl rfl (c := ((a.getD i 0 * 2 ^ s / 4294967296 : Nat) : Int)) (nu hti)) ?_
  refine db ?_
  refine di ai (cU hT rfl rfl rfl rfl rfl (by first | omega | (simp; omega)) rfl) ?_
  refine ag<|av hP<|bA rfl rfl ?_
  refine ak rfl<|ag ?_
  have hr := vA (a := a) (x := a.getD i 0) hks hs32 (by omega) rfl hlow (hz _ (by omega)) hv
  have hts : a.getD i 0 * 2 ^ s / 4294967296 < 2 ^ s := by
   rw [Nat.div_lt_iff_lt_mul (by omega), Nat.mul_comm]; exact Nat.mul_lt_mul_of_pos_left hai (Nat.two_pow_pos s)
  refine ⟨((o.set (i + q) (o.getD (i + q) 0 ||| a.getD i 0 * 2 ^ s % 4294967296)).set (i + q + 1) (a.getD i 0 * 2 ^ s / 4294967296), i + 1), ⟨by omega, by simpa using hlo, (ho.set (Nat.or_lt_two_pow (n := 32) hoi (Nat.mod_lt _ (by omega)))).set hti, hr, ?_, fun j hj => ?_⟩, by show a.length - (i + 1) < a.length - i; omega, aE ⟨.refl _, .refl _, .refl _, .refl _, .refl _, trivial⟩ ⟨rfl, trivial⟩⟩
  ·rw [show i + 1 + q = i + q + 1 by omega, fE _ _ _ _ (by simp; omega), if_pos rfl]; exact hts
  rw [fE _ _ _ _ (by simp; omega), if_neg (by omega), fE _ _ _ _ (by omega), if_neg (by omega)]
  exact hz j (by omega)
 have hb1_ := dF0 hb1
 have hie : i = a.length := by omega
 refine a6<|dL (t := 5) rfl rfl ?_
 refine ae hP<|ak rfl<|ab (ah (eb _ ho)) ?_
 refine aj rfl<|ag<|am<|E1 rfl rfl ?_
 exact aD (by rw [hv, hie, List.take_length])
theorem Cd (a : List Nat) (k : Nat) (ha : okW a) (hla : a.length ≤ 1099511627776) (hk : k < 32) :
  aF Tryz.prog 208 [.p (.c (W a)), Z (k : Int)] (.p (.c (nt (wv a / 2 ^ k)))) := by
 refine aK Tryz.func208 rfl rfl rfl rfl ?_
 have h0l : (0 : Nat) ≤ a.length := Nat.zero_le _
 refine ae hP<|aj rfl<|ag<|ae hP<|ak rfl<|ab (aU hT rfl rfl rfl rfl)<|ao ai (eX hT rfl rfl rfl rfl rfl rfl rfl rfl (by omega)) ?_
 refine ab (bi (rfl : _ = AV.vec _))<|ag<|an<|ae hP<|ab (aw (rfl : _ = AV.vec _))<|ab (fu hT rfl rfl rfl rfl)<|ak rfl<|ag<|aA<|bq (ι := List Nat × Nat) (fun ⟨o, i⟩ => stL [(0, .p (.c (W a))), (1, Z (k : Int)), (5, .vec 10), (12, Z ((a.length : Nat) : Int)), (13, Z (i : Int))] [(10, WB 105 o)]) (fun ⟨o, i⟩ => i ≤ a.length ∧ o.length = a.length ∧ ∀ j, j < i → o.getD j 0 = gp a k j) (fun ⟨_, i⟩ => a.length - i) (List.replicate ((a.length : Nat) : Int).toNat 0, 0) ⟨Nat.zero_le _, by simp, fun j hj => by omega⟩ (aE ⟨.refl _, .refl _, .refl _, aO (by simp), .refl _, trivial⟩ ⟨rfl, trivial⟩) ?_
 rintro ⟨o, i⟩ ⟨hi, hlo, hv⟩
 refine ae hP<|ab (a7 rfl rfl)<|ag<|an ?_
 refine az rfl (fun hb1 => ?_) (fun hb1 => ?_)
 ·have hb1_ := dT0 hb1
  have hlt : i < a.length := by omega
  have hai := ha.getD i
  refine aq<|an<|aA<|ae hP<|ak rfl<|aj rfl<|ag<|ae hP<|ak rfl<|ak rfl<|cW ?_
  refine cr hT rfl rfl rfl ?_
  refine ab (bh hT rfl rfl rfl rfl (dF (by omega))) ?_
  refine aj rfl<|ag<|cy (ι := Unit) (fun _ => stL [(0, .p (.c (W a))), (1, Z (k : Int)), (5, .vec 10), (12, Z ((a.length : Nat) : Int)), (13, Z (i : Int)), (6, Z (i : Int)), (7, .p (.c (.v (.int .u64 ((a.getD i 0 + 4294967296 * a.getD (i + 1) 0 : Nat) : Int)))))] [(10, WB 105 o)]) (fun _ => True) ?_ ?_
  ·refine ae hP<|ak rfl<|ab (bL rfl rfl (c := ((i + 1 : Nat) : Int)) (by rw [iW0 _ (by omega)]; omega)) ?_
   refine ak rfl<|ab (aU hT rfl rfl rfl rfl)<|ab (a7 rfl rfl)<|ag ?_
   refine az rfl (fun hb2 => ?_) (fun hb2 => ?_)
   ·have hb2_ := dT0 hb2
    refine av hP<|ak rfl<|ak rfl<|ak rfl<|ab (bL rfl rfl (c := ((i + 1 : Nat) : Int)) (by rw [iW0 _ (by omega)]; omega)) ?_
    refine cW ?_
    refine cr hT rfl rfl rfl ?_
    refine ab (bh hT rfl rfl rfl rfl (dF (by have := ha.getD (i + 1); omega))) ?_
    refine ab (lI (j := 32) rfl rfl (by decide) rfl) ?_
    refine ab (lJ rfl rfl (c := ((a.getD i 0 + 4294967296 * a.getD (i + 1) 0 : Nat) : Int)) (by rw [wV hai (ha.getD (i + 1))])) ?_
    refine aj rfl<|ag ?_
    exact ⟨(), trivial, aE ⟨.refl _, .refl _, .refl _, .refl _, .refl _, .refl _, .refl _, trivial⟩ ⟨rfl, trivial⟩⟩
   have hb2_ := dF0 hb2
   refine aq ?_
   exact ⟨(), trivial, aE ⟨.refl _, .refl _, .refl _, .refl _, .refl _, .refl _, aO (by rw [nR (k := i + 1) (by omega)]; omega), trivial⟩ ⟨rfl, trivial⟩⟩
  rintro _ -
  have hai2 := ha.getD (i + 1)
  refine av hP<|ab (aw (rfl : _ = AV.vec _))<|ak rfl<|ak rfl<|ak rfl<|ab (dT (j := k) rfl rfl (by show k ≤ 64; omega)) ?_
  refine ab (bh hT rfl rfl rfl rfl (c := ((gp a k i : Nat) : Int)) (by rw [IntKind.wrap_u32]; unfold gp; omega)) ?_
  refine db ?_
  refine di ai (cU hT rfl rfl rfl rfl rfl (by first | omega | (simp; omega)) rfl) ?_
  refine ag<|av hP<|bA rfl rfl ?_
  refine ak rfl<|ag ?_
  refine ⟨(o.set i (gp a k i), i + 1), ⟨by omega, by simpa using hlo, fun j hj => ?_⟩, by show a.length - (i + 1) < a.length - i; omega, aE ⟨.refl _, .refl _, .refl _, .refl _, .refl _, trivial⟩ ⟨rfl, trivial⟩⟩
  rw [fE _ _ _ _ (by omega)]
  split
  ·subst_vars; rfl
  exact hv j (by omega)
 have hb1_ := dF0 hb1
 have hie : i = a.length := by omega
 have hoe := BA (hie ▸ hv) hlo
 have hook := Eb a k
 refine a6<|dL (t := 5) rfl rfl ?_
 refine ae hP<|ak rfl<|ab (ah (eb _ (hoe ▸ hook))) ?_
 refine aj rfl<|ag<|am<|E1 rfl rfl ?_
 exact aD (by rw [hoe, sR k hk a ha])
theorem ss (a : List Nat) (d : Nat) (ha : okW a) (hla : a.length ≤ 1099511627776) (hd : 0 < d) (hd2 : d < 4294967296) :
  aF Tryz.prog 205 [.p (.c (W a)), .p (.c (w32 d))] (.t [.c (nt (wv a / d)), .c (w32 (wv a % d))]) := by
 refine aK Tryz.func205 rfl rfl rfl rfl ?_
 have h0l : (0 : Nat) ≤ a.length := Nat.zero_le _
 refine ae hP<|aj rfl<|aj rfl<|ag<|ae hP<|ak rfl<|ab (aU hT rfl rfl rfl rfl)<|ao ai (eX hT rfl rfl rfl rfl rfl rfl rfl rfl (by omega)) ?_
 refine ab (bi (rfl : _ = AV.vec _))<|ag<|ae hP<|aj rfl<|ag<|an<|ae hP<|ak rfl<|ab (aU hT rfl rfl rfl rfl)<|ab (bI rfl rfl (by first | exact iW0 _ (by omega) | rfl)) ?_
 refine aj rfl<|ag<|aA<|bq (ι := List Nat × Nat × Nat) (fun ⟨o, i, r⟩ => stL [(0, .p (.c (W a))), (1, .p (.c (w32 d))), (6, .vec 11), (7, .p (.c (w32 r))), (8, Z ((i : Int) - 1))] [(11, WB 105 o)]) (fun ⟨o, i, r⟩ => i ≤ a.length ∧ o.length = a.length ∧ okW o ∧ r < d ∧ wv (a.drop i) = d * wv (o.drop i) + r) (fun ⟨_, i, _⟩ => i) (List.replicate ((a.length : Nat) : Int).toNat 0, a.length, 0) ⟨Nat.le_refl _, by simp, okW.rep _, hd, by simp [wv]⟩ (aE ⟨.refl _, .refl _, .refl _, .refl _, .refl _, trivial⟩ ⟨rfl, trivial⟩) ?_
 rintro ⟨o, i, r⟩ ⟨hi, hlo, ho, hr, hv⟩
 refine an<|ae hP<|ak rfl<|ab (dB rfl rfl)<|ag ?_
 refine az rfl (fun hb1 => ?_) (fun hb1 => ?_)
 ·have hb1_ := dT0 hb1
  obtain ⟨i, rfl⟩ : ∃ k, i = k + 1 := ⟨i - 1, by omega⟩
  have hc : ((i + 1 : Nat) : Int) - 1 = (i : Int) := by omega
  have hai := ha.getD i
  have hq : (r * 4294967296 + a.getD i 0) / d < 4294967296 := (Nat.div_lt_iff_lt_mul hd).2 (by have : (r + 1) * 4294967296 ≤ d * 4294967296 := Nat.mul_le_mul_right _ hr; omega)
  refine dj (t := stL [(0, .p (.c (W a))), (1, .p (.c (w32 d))), (6, .vec 11), (7, .p (.c (w32 r))), (8, Z (i : Int))] [(11, WB 105 o)]) (aE ⟨.refl _, .refl _, .refl _, .refl _, aO hc, trivial⟩ ⟨rfl, trivial⟩) ?_
  refine aq<|an<|aA<|av hP<|ab (aw (rfl : _ = AV.vec _))<|ak rfl<|ak rfl<|ak rfl<|ak rfl<|cW ?_
  refine cr hT rfl rfl rfl ?_
  refine ak rfl<|ab (ah (H0 _ _ _ hd2 hr hai)) ?_
  refine ab (aw (rfl : _ = AV.t _))<|ab (ay rfl (v := .c _) rfl)<|ab (ay rfl (v := .c _) rfl)<|db ?_
  refine di ai (cU hT rfl rfl rfl rfl rfl (by first | omega | (simp; omega)) rfl) ?_
  refine aj rfl<|ag<|av hP<|ak rfl<|ab (bI rfl rfl (by first | exact iW0 _ (by omega) | rfl)) ?_
  refine aj rfl<|ag ?_
  refine ⟨(o.set i ((r * 4294967296 + a.getD i 0) / d), i, (r * 4294967296 + a.getD i 0) % d), ⟨by omega, by simpa using hlo, ho.set hq, Nat.mod_lt _ hd, uR (by omega) hlo hv hd⟩, by show i < i + 1; omega, aE ⟨.refl _, .refl _, .refl _, .refl _, aO (by omega), trivial⟩ ⟨rfl, trivial⟩⟩
 have hb1_ := dF0 hb1
 have hie : i = 0 := by omega
 subst hie
 refine a6<|dL (t := 6) rfl rfl ?_
 refine ae hP<|ak rfl<|ab (ah (eb _ ho)) ?_
 refine ak rfl<|aj rfl<|aj rfl<|ag<|am<|E11 rfl rfl rfl ?_
 rw [List.drop_zero, List.drop_zero] at hv
 have e1 : wv a / d = wv o := by rw [hv, Nat.mul_add_div hd, Nat.div_eq_of_lt hr, Nat.add_zero]
 have e2 : wv a % d = r := by rw [hv, Nat.mul_add_mod, Nat.mod_eq_of_lt hr]
 exact aD (by rw [e1, e2])
end
section
open Go Go.AM
theorem Cf (a b : Nat) (hla : (wl a).length ≤ 1099511627776) (hb : 0 < b) :
  aF Tryz.prog 171 [.p (.c (nt a)), .p (.c (nt b))] (.t [.c (nt (a / b)), .c (nt (a % b))]) := by
 refine aK Tryz.func171 rfl rfl rfl rfl ?_
 have h0l : (0 : Nat) ≤ (wl a).length := Nat.zero_le _
 have hbl := fG b
 refine ae hP<|aj rfl<|aj rfl<|ag<|an<|ae hP<|ak rfl<|ak rfl<|ab (ah (nM a b)) ?_
 refine ab (a7 rfl rfl)<|ag ?_
 refine az rfl (fun hb1 => ?_) (fun hb1 => ?_)
 ·have hb1_ := dT0 hb1
  have hlt : a < b := by
   unfold bu at *; split at * <;> first | omega | (split at * <;> omega)
  refine ae hP<|ak rfl<|aj rfl<|aj rfl<|ag<|am<|E11 rfl rfl rfl ?_
  exact Sub.tup ⟨fun _ _ h => DSub.of_eq (by rw [Nat.div_eq_of_lt hlt]; rfl) _ _ (DSub.nil_sl _ _ h), DSub.of_eq (by rw [Nat.mod_eq_of_lt hlt]), trivial⟩
 have hb1_ := dF0 hb1
 have hab : b ≤ a := by
  unfold bu at *; split at * <;> first | omega | (split at * <;> omega)
 have hll := gM hab
 refine aq<|an<|ae hP<|ak rfl<|ab (aU hT rfl rfl rfl rfl)<|ab (bo rfl rfl)<|ag ?_
 refine az rfl (fun hb2 => ?_) (fun hb2 => ?_)
 ·have hb2_ := bT hb2
  have h1 : (wl b).length = 1 := by omega
  have hd2 := (bS b).getD 0
  have hbe : b = (wl b).getD 0 0 := by
   have := lF (n := 0) h1
   rw [bJ] at this; simpa [wv] using this
  have hmod : wv (wl a) % (wl b).getD 0 0 < 4294967296 := Nat.lt_trans (Nat.mod_lt _ (by omega)) hd2
  have hr1 : okW [wv (wl a) % (wl b).getD 0 0] := by intro x hx; rw [List.mem_singleton.1 hx]; exact hmod
  have hd1 : 0 < (wl b).getD 0 0 := by omega
  have hdiv : a / (wl b).getD 0 0 = a / b ∧ a % (wl b).getD 0 0 = a % b := by rw [← hbe]; exact ⟨rfl, rfl⟩
  refine ae hP<|ak rfl<|ak rfl<|cW ?_
  refine cr hT rfl rfl rfl ?_
  refine ab (ah (ss (wl a) ((wl b).getD 0 0) (bS a) hla hd1 hd2)) ?_
  refine ab (aw (rfl : _ = AV.t _))<|ab (ay rfl (v := .c _) rfl)<|ab (ay rfl (v := .c _) rfl)<|aj rfl<|aj rfl<|ag<|ae hP<|ak rfl<|ak rfl<|ab (bd hT rfl rfl rfl (es := [_]) rfl rfl rfl)<|ab (ah (eb [_] hr1)) ?_
  refine aj rfl<|aj rfl<|ag<|am<|E11 rfl rfl rfl ?_
  exact aD (by rw [bJ, hdiv.1, hdiv.2]; simp [wv])
 have hb2_ := bF hb2
 obtain ⟨k, hk⟩ : ∃ k, (wl b).length = k + 1 + 1 := by
  refine ⟨(wl b).length - 2, ?_⟩
  have : (wl b).length ≠ 0 := by intro h; rw [h] at hbl; omega
  omega
 obtain ⟨s, hs⟩ : ∃ s, s = 32 - bv ((wl b).getD (k + 1) 0) := ⟨_, rfl⟩
 obtain ⟨hn1, hn2, hs32, hbp⟩ := uy hk hs
 have hb3 : bv ((wl b).getD (k + 1) 0) ≤ 32 := gG (k := 32) (by simpa using (bS b).getD (k + 1))
 have hsl := BB (m := a) hs32
 have hva := bJ a
 have hvb := bJ b
 obtain ⟨v, hv⟩ : ∃ v, v = wl (b * 2 ^ s) := ⟨_, rfl⟩
 obtain ⟨x, hx⟩ : ∃ x, x = wl (a * 2 ^ s) := ⟨_, rfl⟩
 have okv : okW v := hv ▸ bS _
 have okx : okW x := hx ▸ bS _
 have hwv : wv v = b * 2 ^ s := by rw [hv, bJ]
 have hwx : wv x = a * 2 ^ s := by rw [hx, bJ]
 have cb : aF Tryz.prog 207 [.p (.c (nt b)), Z (s : Int)] (.p (.c (W v))) := by
  have := nK (wl b) s (bS b) (by omega) (by omega)
  rw [hvb] at this; rw [hv]; exact this
 have ca : aF Tryz.prog 207 [.p (.c (nt a)), Z (s : Int)] (.p (.c (W x))) := by
  have := nK (wl a) s (bS a) (by omega) (by omega)
  rw [hva] at this; rw [hx]; exact this
 rw [← hv] at hn1 hn2
 rw [← hx] at hsl
 obtain ⟨u0, hu0⟩ : ∃ u0, u0 = x ++ (List.replicate ((((wl a).length : Nat) : Int) + 1).toNat 0).drop x.length := ⟨_, rfl⟩
 have hu0l : u0.length = (wl a).length + 1 := by rw [hu0]; simp; omega
 have oku0 : okW u0 := by rw [hu0]; exact okx.app ((okW.rep _).drop _)
 have hwu0 : wv u0 = a * 2 ^ s := by
  rw [hu0, eS, List.drop_replicate, mA, Nat.mul_zero, Nat.add_zero, hwx]
 refine aq<|ae hP<|ak rfl<|ak rfl<|ab (aU hT rfl rfl rfl rfl)<|ab (bI rfl rfl (c := ((k + 1 : Nat) : Int)) (by rw [iW0 _ (by omega)]; omega)) ?_
 refine cW ?_
 refine cr hT rfl rfl rfl ?_
 refine ab (ah (IX _ ((bS b).getD _))) ?_
 refine aj rfl<|ag<|dj (t := stL [(0, .p (.c (nt a))), (1, .p (.c (nt b))), (8, Z (s : Int))] []) (aE ⟨.refl _, .refl _, aO (by omega), trivial⟩ trivial) ?_
 refine ae hP<|ak rfl<|ak rfl<|ab (ah cb) ?_
 refine aj rfl<|ag<|ae hP<|ak rfl<|ab (aU hT rfl rfl rfl rfl)<|aj rfl<|ag<|ae hP<|ak rfl<|ab (aU hT rfl rfl rfl rfl)<|bA rfl rfl ?_
 refine ao ai (eX hT rfl rfl rfl rfl rfl rfl rfl rfl (by omega)) ?_
 refine ab (bi (rfl : _ = AV.vec _))<|ag<|ae hP<|ab (aw (rfl : _ = AV.vec _))<|ak rfl<|ak rfl<|ab (ah ca) ?_
 refine RK.mut ai (kU hT rfl rfl rfl rfl rfl rfl rfl (by simp; omega) (ws' := u0) hu0.symm) ?_
 refine ag<|ae hP<|ab (aw (rfl : _ = AV.vec _))<|ab (fu hT rfl rfl rfl rfl)<|ak rfl<|ab (bI rfl rfl (c := (((wl a).length + 1 - (k + 2) : Nat) : Int)) (by rw [iW0 _ (by rw [hu0l]; omega), hu0l]; omega)) ?_
 refine ao ai (eX hT rfl rfl rfl rfl rfl rfl rfl rfl (by omega)) ?_
 refine ab (bi (rfl : _ = AV.vec _))<|ag<|an<|ae hP<|ab (aw (rfl : _ = AV.vec _))<|ab (fu hT rfl rfl rfl rfl)<|ab (bI rfl rfl (c := (((wl a).length + 1 - (k + 2) : Nat) : Int) - 1) (by simp only [List.length_replicate, Int.toNat_natCast]; exact iW0 _ (by omega))) ?_
 refine aj rfl<|ag<|aA<|bq (ι := List Nat × List Nat × Nat) (fun ⟨u, q, i⟩ => stL [(8, Z (s : Int)), (9, .p (.c (W v))), (10, Z ((k + 2 : Nat) : Int)), (11, .vec 60), (12, .vec 70), (13, Z ((i : Int) - 1))] [(60, WB 105 u), (70, WB 105 q)]) (fun ⟨u, q, i⟩ => u.length = (wl a).length + 1 ∧ okW u ∧ q.length = (wl a).length + 1 - (k + 2) ∧ okW q ∧ i ≤ q.length ∧ wv (u.drop i) < wv v ∧ a * 2 ^ s = wv v * (4294967296 ^ i * wv (q.drop i)) + wv u) (fun ⟨_, _, i⟩ => i) (u0, List.replicate (((wl a).length + 1 - (k + 2) : Nat) : Int).toNat 0, (wl a).length + 1 - (k + 2)) ⟨hu0l, oku0, by simp, okW.rep _, by simp, by rw [hwv]; exact wH hwu0 hu0l hbp (by omega), by rw [hwu0, List.drop_replicate, mA]; simp⟩ (aE ⟨.refl _, .refl _, aO (by omega), .refl _, .refl _, .refl _, trivial⟩ ⟨rfl, rfl, trivial⟩) ?_
 rintro ⟨u, q, i⟩ ⟨hlu, hok, hlq, hqok, hi, hlow, hM⟩
 have hiq := hi
 refine an<|ae hP<|ak rfl<|ab (dB rfl rfl)<|ag ?_
 refine az rfl (fun hb3 => ?_) (fun hb3 => ?_)
 ·have hb3_ := dT0 hb3
  obtain ⟨j, rfl⟩ : ∃ k, i = k + 1 := ⟨i - 1, by omega⟩
  have hc : ((j + 1 : Nat) : Int) - 1 = (j : Int) := by omega
  have dg : Dig v u k j := ⟨hn1, okv, hn2, hok, by omega, hlow⟩
  have hq1 := hok.getD (j + k + 2)
  have hq2 := hok.getD (j + k + 1)
  have hq3 := hok.getD (j + k)
  have hv1 := okv.getD (k + 1)
  have hv2 := okv.getD k
  have hN64 : (u.getD (j + k + 2) 0 * 4294967296 + u.getD (j + k + 1) 0) < 18446744073709551616 := by omega
  have hdl : (u.getD (j + k + 2) 0 * 4294967296 + u.getD (j + k + 1) 0) / v.getD (k + 1) 0 ≤ (u.getD (j + k + 2) 0 * 4294967296 + u.getD (j + k + 1) 0) := Nat.div_le_self _ _
  have hml : (u.getD (j + k + 2) 0 * 4294967296 + u.getD (j + k + 1) 0) % v.getD (k + 1) 0 < v.getD (k + 1) 0 := Nat.mod_lt _ (by omega)
  refine dj (t := stL [(8, Z (s : Int)), (9, .p (.c (W v))), (10, Z ((k + 2 : Nat) : Int)), (11, .vec 60), (12, .vec 70), (13, Z ((j : Nat) : Int))] [(60, WB 105 u), (70, WB 105 q)]) (aE ⟨.refl _, .refl _, .refl _, .refl _, .refl _, aO hc, trivial⟩ ⟨rfl, rfl, trivial⟩) ?_
  refine aq<|an<|aA<|ae hP<|ab (aw (rfl : _ = AV.vec _))<|ak rfl<|ak rfl<|ab (bL rfl rfl (c := ((j + k + 2 : Nat) : Int)) (by rw [iW0 _ (by omega)]; omega)) ?_
  refine db ?_
  refine ab (dx hT rfl rfl rfl rfl (by first | omega | (simp; omega)) rfl) ?_
  refine ab (bh hT rfl rfl rfl rfl (dF (by omega))) ?_
  refine ab (lI (j := 32) rfl rfl (by first | decide | omega) rfl) ?_
  refine ab (aw (rfl : _ = AV.vec _))<|ak rfl<|ak rfl<|ab (bL rfl rfl (c := ((j + k + 2 : Nat) : Int)) (by rw [iW0 _ (by omega)]; omega)) ?_
  refine ab (bI rfl rfl (c := ((j + k + 1 : Nat) : Int)) (by rw [iW0 _ (by omega)]; omega)) ?_
  refine db ?_
  refine ab (dx hT rfl rfl rfl rfl (by first | omega | (simp; omega)) rfl) ?_
  refine ab (bh hT rfl rfl rfl rfl (dF (by omega))) ?_
  refine ab (lJ rfl rfl (lq hq1 hq2)) ?_
  refine aj rfl<|ag<|ae hP<|ak rfl<|ak rfl<|ak rfl<|ab (bI rfl rfl (c := ((k + 1 : Nat) : Int)) (by rw [iW0 _ (by omega)]; omega)) ?_
  refine cW ?_
  refine cr hT rfl rfl rfl ?_
  refine ab (bh hT rfl rfl rfl rfl (dF (by omega))) ?_
  refine ab (eh rfl rfl (by omega) (c := (((u.getD (j + k + 2) 0 * 4294967296 + u.getD (j + k + 1) 0) / v.getD (k + 1) 0 : Nat) : Int)) (by rw [Int.tdiv_eq_ediv_of_nonneg (by omega), ← Int.natCast_ediv, dF (by omega)])) ?_
  refine ak rfl<|ak rfl<|ak rfl<|ab (bI rfl rfl (c := ((k + 1 : Nat) : Int)) (by rw [iW0 _ (by omega)]; omega)) ?_
  refine cW ?_
  refine cr hT rfl rfl rfl ?_
  refine ab (bh hT rfl rfl rfl rfl (dF (by omega))) ?_
  refine ab (cQ rfl rfl (by omega) (c := (((u.getD (j + k + 2) 0 * 4294967296 + u.getD (j + k + 1) 0) % v.getD (k + 1) 0 : Nat) : Int)) (by rw [Int.tmod_eq_emod_of_nonneg (by omega), ← Int.natCast_emod])) ?_
  refine aj rfl<|aj rfl<|ag<|cy (ι := Nat) (fun g => stL [(8, Z (s : Int)), (9, .p (.c (W v))), (10, Z ((k + 2 : Nat) : Int)), (11, .vec 60), (12, .vec 70), (13, Z ((j : Nat) : Int)), (15, .p (.c (.v (.int .u64 ((g : Nat) : Int)))))] [(60, WB 105 u), (70, WB 105 q)]) (fun g => g < 4294967296 ∧ c8 v u j ≤ g ∧ g ≤ c8 v u j + 1) ?_ ?_
  ·refine aA<|bq (ι := Nat × Nat) (fun ⟨g, r⟩ => stL [(8, Z (s : Int)), (9, .p (.c (W v))), (10, Z ((k + 2 : Nat) : Int)), (11, .vec 60), (12, .vec 70), (13, Z ((j : Nat) : Int)), (15, .p (.c (.v (.int .u64 ((g : Nat) : Int))))), (16, .p (.c (.v (.int .u64 ((r : Nat) : Int)))))] [(60, WB 105 u), (70, WB 105 q)]) (fun ⟨g, r⟩ => g * v.getD (k + 1) 0 + r = (u.getD (j + k + 2) 0 * 4294967296 + u.getD (j + k + 1) 0) ∧ r < 4294967296 ∧ g < 18446744073709551616 ∧ c8 v u j ≤ g) (fun ⟨g, _⟩ => g) ((u.getD (j + k + 2) 0 * 4294967296 + u.getD (j + k + 1) 0) / v.getD (k + 1) 0, (u.getD (j + k + 2) 0 * 4294967296 + u.getD (j + k + 1) 0) % v.getD (k + 1) 0) ⟨by rw [Nat.mul_comm]; exact Nat.div_add_mod _ _, by omega, by omega, dg.init⟩ (aE ⟨.refl _, .refl _, .refl _, .refl _, .refl _, .refl _, .refl _, .refl _, trivial⟩ ⟨rfl, rfl, trivial⟩) ?_
   rintro ⟨g, r⟩ ⟨hg, hr, hg64, hdq⟩
   refine an<|ae hP<|ak rfl<|ab (bU rfl rfl)<|ak rfl ?_
   refine aZ (t := 113) rfl (fun hg4 => ?_) (fun hg4 => ?_)
   ·have hg4_ := dT0 hg4
    have hdec : c8 v u j < g := dg.dec hg (Or.inl (by omega))
    have hstep : (g - 1) * v.getD (k + 1) 0 + (r + v.getD (k + 1) 0) = (u.getD (j + k + 2) 0 * 4294967296 + u.getD (j + k + 1) 0) := by
     rw [← hg, ← Nat.add_assoc, Nat.add_right_comm, ← Nat.succ_mul, show (g - 1).succ = g by omega]
    iterate 20 refine aW hg4 ?_
    refine ab (aM rfl hg4 (rfl : _ = AV.p (.c _)))<|ag<|aS rfl rfl<|aq<|aA<|ae hP<|ak rfl<|ab (bI rfl rfl (c := ((g - 1 : Nat) : Int)) (by rw [IntWalk.u64_in _ (by omega)]; omega)) ?_
    refine aj rfl<|ag<|ae hP<|ak rfl<|ak rfl<|ak rfl<|ab (bI rfl rfl (c := ((k + 1 : Nat) : Int)) (by rw [iW0 _ (by omega)]; omega)) ?_
    refine cW ?_
    refine cr hT rfl rfl rfl ?_
    refine ab (bh hT rfl rfl rfl rfl (dF (by omega))) ?_
    refine ab (bL rfl rfl (c := ((r + v.getD (k + 1) 0 : Nat) : Int)) (by rw [IntWalk.u64_in _ (by omega)]; omega)) ?_
    refine aj rfl<|ag<|ae hP<|ak rfl<|ab (bU rfl rfl)<|ag ?_
    refine az rfl (fun hb5 => ?_) (fun hb5 => ?_)
    ·have hb5_ := dT0 hb5
     have hex := dg.exit hstep (Or.inr (by omega))
     refine a6 ?_
     exact ⟨g - 1, ⟨hex.1, by omega, hex.2⟩, (aE ⟨.refl _, .refl _, .refl _, .refl _, .refl _, .refl _, .refl _, trivial⟩ ⟨rfl, rfl, trivial⟩)⟩
    have hb5_ := dF0 hb5
    refine aq ?_
    exact ⟨(g - 1, r + v.getD (k + 1) 0), ⟨hstep, by omega, by omega, by omega⟩, by show g - 1 < g; omega, (aE ⟨.refl _, .refl _, .refl _, .refl _, .refl _, .refl _, .refl _, .refl _, trivial⟩ ⟨rfl, rfl, trivial⟩)⟩
   have hg4_ := dF0 hg4
   have hgB : g < 4294967296 := by omega
   have hp2 := Nat.mul_le_mul (Nat.le_sub_one_of_lt hgB) (Nat.le_sub_one_of_lt hv2)
   iterate 3 refine aC hg4 (aw (rfl : _ = AV.p (.c _))) ?_
   refine aC hg4 (bI rfl rfl (c := ((k : Nat) : Int)) (by rw [iW0 _ (by omega)]; omega)) ?_
   refine aC hg4 (by first | exact fv hT rfl rfl rfl rfl rfl rfl (by omega) | exact bW hT rfl rfl rfl rfl rfl rfl (by omega) (by first | exact gH (by omega) | simp)) ?_
   refine aC hg4 (cf hT rfl rfl rfl (by first | rfl | exact mc (by omega))) ?_
   refine aC hg4 (bh hT rfl rfl rfl rfl (dF (by omega))) ?_
   refine aC hg4 (bK rfl rfl (c := ((g * v.getD k 0 : Nat) : Int)) (by rw [← Int.natCast_mul, dF (by omega)])) ?_
   refine aC hg4 (aw (rfl : _ = AV.p (.c _))) ?_
   refine aC hg4 (lI (j := 32) rfl rfl (by first | decide | omega) rfl) ?_
   refine aC hg4 (aw (rfl : _ = AV.vec _)) ?_
   refine aC hg4 (aw (rfl : _ = AV.p (.c _))) ?_
   refine aC hg4 (aw (rfl : _ = AV.p (.c _))) ?_
   refine aC hg4 (bL rfl rfl (c := ((j + k + 2 : Nat) : Int)) (by rw [iW0 _ (by omega)]; omega)) ?_
   refine aC hg4 (bI rfl rfl (c := ((j + k : Nat) : Int)) (by rw [iW0 _ (by omega)]; omega)) ?_
   refine aC hg4 (by first | exact jU hT rfl rfl rfl rfl rfl rfl rfl (by first | omega | (simp; omega)) | exact gZ hT rfl rfl rfl rfl rfl rfl rfl (by first | omega | (simp; omega))) ?_
   refine aC hg4 (dx hT rfl rfl rfl rfl (by first | omega | (simp; omega)) rfl) ?_
   refine aC hg4 (bh hT rfl rfl rfl rfl (dF (by omega))) ?_
   refine aC hg4 (lJ rfl rfl (lq hr hq3)) ?_
   refine aC hg4 (bU rfl rfl) ?_
   refine ab (aL rfl hg4 (rfl : _ = AV.p (.c _)))<|ag ?_
   refine az rfl (fun hb6 => ?_) (fun hb6 => ?_)
   ·have hb6_ := dT0 hb6
    have hdec : c8 v u j < g := dg.dec hg (Or.inr (Int.ofNat_lt.1 (by assumption)))
    have hstep : (g - 1) * v.getD (k + 1) 0 + (r + v.getD (k + 1) 0) = (u.getD (j + k + 2) 0 * 4294967296 + u.getD (j + k + 1) 0) := by
     rw [← hg, ← Nat.add_assoc, Nat.add_right_comm, ← Nat.succ_mul, show (g - 1).succ = g by omega]
    refine aq<|aA<|ae hP<|ak rfl<|ab (bI rfl rfl (c := ((g - 1 : Nat) : Int)) (by rw [IntWalk.u64_in _ (by omega)]; omega)) ?_
    refine aj rfl<|ag<|ae hP<|ak rfl<|ak rfl<|ak rfl<|ab (bI rfl rfl (c := ((k + 1 : Nat) : Int)) (by rw [iW0 _ (by omega)]; omega)) ?_
    refine cW ?_
    refine cr hT rfl rfl rfl ?_
    refine ab (bh hT rfl rfl rfl rfl (dF (by omega))) ?_
    refine ab (bL rfl rfl (c := ((r + v.getD (k + 1) 0 : Nat) : Int)) (by rw [IntWalk.u64_in _ (by omega)]; omega)) ?_
    refine aj rfl<|ag<|ae hP<|ak rfl<|ab (bU rfl rfl)<|ag ?_
    refine az rfl (fun hb7 => ?_) (fun hb7 => ?_)
    ·have hb7_ := dT0 hb7
     have hex := dg.exit hstep (Or.inr (by omega))
     refine a6 ?_
     exact ⟨g - 1, ⟨hex.1, by omega, hex.2⟩, (aE ⟨.refl _, .refl _, .refl _, .refl _, .refl _, .refl _, .refl _, trivial⟩ ⟨rfl, rfl, trivial⟩)⟩
    have hb7_ := dF0 hb7
    refine aq ?_
    exact ⟨(g - 1, r + v.getD (k + 1) 0), ⟨hstep, by omega, by omega, by omega⟩, by show g - 1 < g; omega, (aE ⟨.refl _, .refl _, .refl _, .refl _, .refl _, .refl _, .refl _, .refl _, trivial⟩ ⟨rfl, rfl, trivial⟩)⟩
   have hb6_ := dF0 hb6
   have hex := dg.exit hg (Or.inl ⟨by omega, by omega⟩)
   refine a6 ?_
   exact ⟨g, ⟨hex.1, hdq, hex.2⟩, (aE ⟨.refl _, .refl _, .refl _, .refl _, .refl _, .refl _, .refl _, trivial⟩ ⟨rfl, rfl, trivial⟩)⟩
  rintro g ⟨hgB, hg1, hg2⟩
  refine ae hP<|aj rfl<|ag<|ae hP<|aj rfl<|ag<|an<|ae hP<|ak rfl<|ab (aU hT rfl rfl rfl rfl)<|ak rfl<|ag<|aA<|bq (ι := List Nat × Nat × Nat × Nat) (fun ⟨o, i, c, e⟩ => stL [(8, Z (s : Int)), (9, .p (.c (W v))), (10, Z ((k + 2 : Nat) : Int)), (11, .vec 60), (12, .vec 70), (13, Z ((j : Nat) : Int)), (15, .p (.c (.v (.int .u64 ((g : Nat) : Int))))), (17, .p (.c (.v (.int .u64 ((c : Nat) : Int))))), (18, .p (.c (w32 (e)))), (147, .p (.c (W v))), (148, Z ((v.length : Nat) : Int)), (149, Z ((i : Nat) : Int))] [(60, WB 105 o), (70, WB 105 q)]) (fun ⟨o, i, c, e⟩ => i ≤ v.length ∧ o.length = u.length ∧ okW o ∧ c < 4294967296 ∧ e < 2 ∧ o.drop (j + k + 3) = u.drop (j + k + 3) ∧ wv o + 4294967296 ^ j * (g * wv (v.take i)) = wv u + 4294967296 ^ (j + i) * (c + e)) (fun ⟨_, i, _, _⟩ => v.length - i) (u, 0, 0, 0) ⟨Nat.zero_le _, rfl, hok, by omega, by omega, rfl, by simp [wv]⟩ (aE ⟨.refl _, .refl _, .refl _, .refl _, .refl _, .refl _, .refl _, .refl _, .refl _, .refl _, .refl _, .refl _, trivial⟩ ⟨rfl, rfl, trivial⟩) ?_
  rintro ⟨o, i, c, e⟩ ⟨hi, hlo, ho, hc, he, hd, hS⟩
  refine ae hP<|ab (a7 rfl rfl)<|ag<|an ?_
  refine az rfl (fun hb8 => ?_) (fun hb8 => ?_)
  ·have hb8_ := dT0 hb8
   have hlt : i < v.length := by omega
   have hvi := okv.getD i
   have hp1 := Nat.mul_le_mul (Nat.le_sub_one_of_lt hgB) (Nat.le_sub_one_of_lt (okv.getD i))
   have htB : (g * v.getD i 0 + c) / 4294967296 < 4294967296 := (Nat.div_lt_iff_lt_mul (by omega)).2 (by omega)
   refine aq<|an<|aA<|ae hP<|ak rfl<|cW ?_
   refine cr hT rfl rfl rfl ?_
   refine aj rfl<|aj rfl<|ag<|ae hP<|ak rfl<|ak rfl<|ab (bh hT rfl rfl rfl rfl (dF (by omega))) ?_
   refine ab (bK rfl rfl (c := ((g * v.getD i 0 : Nat) : Int)) (by rw [← Int.natCast_mul, dF (by omega)])) ?_
   refine ak rfl<|ab (bL rfl rfl (c := ((g * v.getD i 0 + c : Nat) : Int)) (by rw [← Int.natCast_add, dF (by omega)])) ?_
   refine aj rfl<|ag<|ae hP<|ak rfl<|ab (dT (j := 32) rfl rfl (by first | decide | omega)) ?_
   refine aj rfl<|ag<|av hP<|ab (aw (rfl : _ = AV.vec _))<|ak rfl<|ak rfl<|ab (bL rfl rfl (c := ((j + i : Nat) : Int)) (by rw [iW0 _ (by omega)]; omega)) ?_
   refine ab (aw (rfl : _ = AV.vec _))<|ak rfl<|ak rfl<|ab (bL rfl rfl (c := ((j + i : Nat) : Int)) (by rw [iW0 _ (by omega)]; omega)) ?_
   refine db ?_
   refine ab (dx hT rfl rfl rfl rfl (by first | omega | (simp; omega)) rfl) ?_
   refine ak rfl<|ab (bh hT rfl rfl rfl rfl (c := (((g * v.getD i 0 + c) % 4294967296 : Nat) : Int)) (by rw [IntKind.wrap_u32]; omega)) ?_
   refine ak rfl<|ab (ah (tV _ _ _ (ho.getD _) (Nat.mod_lt _ (by omega)) he)) ?_
   refine ab (aw (rfl : _ = AV.t _))<|ab (ay rfl (v := .c _) rfl)<|ab (ay rfl (v := .c _) rfl)<|db ?_
   refine di ai (cU hT rfl rfl rfl rfl rfl (by first | omega | (simp; omega)) rfl) ?_
   refine aj rfl<|ag<|av hP<|bA rfl rfl ?_
   refine ak rfl<|ag ?_
   have hr := uB (v := v) (g := g) (by omega) ho he rfl hS
   exact ⟨(o.set (j + i) ((o.getD (j + i) 0 + 8589934592 - (g * v.getD i 0 + c) % 4294967296 - e) % 4294967296), i + 1, (g * v.getD i 0 + c) / 4294967296, if o.getD (j + i) 0 < (g * v.getD i 0 + c) % 4294967296 + e then 1 else 0), ⟨by omega, by simpa using hlo, ho.set (Nat.mod_lt _ (by omega)), htB, by split <;> omega, by rw [List.drop_set_of_lt (by omega)]; exact hd, hr⟩, by show v.length - (i + 1) < v.length - i; omega, (aE ⟨.refl _, .refl _, .refl _, .refl _, .refl _, .refl _, .refl _, .refl _, .refl _, .refl _, .refl _, .refl _, trivial⟩ ⟨rfl, rfl, trivial⟩)⟩
  have hb8_ := dF0 hb8
  have hie : i = v.length := by omega
  subst hie
  rw [List.take_length, hn1] at hS
  have hml1 := wb (o := o) (p := j + k + 2) (c := c) (e := e) (A := 4294967296 ^ j * (g * wv v)) (S := wv u) (by omega) ho hc he (by rw [show j + k + 2 = j + (k + 2) by omega]; exact hS)
  obtain ⟨o1, ho1⟩ : ∃ o1, o1 = o.set (j + k + 2) ((o.getD (j + k + 2) 0 + 8589934592 - c - e) % 4294967296) := ⟨_, rfl⟩
  have hok1 : okW o1 := by rw [ho1]; exact ho.set (Nat.mod_lt _ (by omega))
  have hlo1 : o1.length = u.length := by rw [ho1]; simpa using hlo
  have hd1 : o1.drop (j + k + 3) = u.drop (j + k + 3) := by rw [ho1, List.drop_set_of_lt (by omega)]; exact hd
  rw [← ho1, show j + k + 2 + 1 = j + k + 3 by omega] at hml1
  refine a6<|cy (ι := List Nat) (fun u1 => stL [(8, Z (s : Int)), (9, .p (.c (W v))), (10, Z ((k + 2 : Nat) : Int)), (11, .vec 60), (12, .vec 70), (13, Z ((j : Nat) : Int)), (15, .p (.c (.v (.int .u64 ((c8 v u j : Nat) : Int)))))] [(60, WB 105 u1), (70, WB 105 q)]) (fun u1 => u1.length = u.length ∧ okW u1 ∧ wv u1 + 4294967296 ^ j * (c8 v u j * wv v) = wv u) ?_ ?_
  ·refine ae hP<|ab (aw (rfl : _ = AV.vec _))<|ak rfl<|ak rfl<|ab (bL rfl rfl (c := ((j + k + 2 : Nat) : Int)) (by rw [iW0 _ (by omega)]; omega)) ?_
   refine ab (aw (rfl : _ = AV.vec _))<|ak rfl<|ak rfl<|ab (bL rfl rfl (c := ((j + k + 2 : Nat) : Int)) (by rw [iW0 _ (by omega)]; omega)) ?_
   refine db ?_
   refine ab (dx hT rfl rfl rfl rfl (by first | omega | (simp; omega)) rfl) ?_
   refine ak rfl<|ab (bh hT rfl rfl rfl rfl (nu hc)) ?_
   refine ak rfl<|ab (ah (tV _ _ _ (ho.getD _) hc he)) ?_
   refine ab (aw (rfl : _ = AV.t _))<|ab (ay rfl (v := .c _) rfl)<|ab (ay rfl (v := .c _) rfl)<|db ?_
   refine di ai (cU hT rfl rfl rfl rfl rfl (by first | omega | (simp; omega)) ho1.symm) ?_
   refine aj rfl<|ag<|ae hP<|ak rfl<|ab (bU rfl rfl)<|ag ?_
   refine az rfl (fun hb9 => ?_) (fun hb9 => ?_)
   ·have hb9_ := dT0 hb9
    have hbo : o.getD (j + k + 2) 0 < c + e := by
     rcases Nat.lt_or_ge (o.getD (j + k + 2) 0) (c + e) with h | h
     ·exact h
     rw [if_neg (by omega)] at *; omega
    rw [if_pos hbo, Nat.mul_one] at hml1
    have hgq := dg.bad hok1 hlo1 hd1 hg2 hml1
    have hg0 : 0 < g := by omega
    refine ae hP<|ak rfl<|ab (bI rfl rfl (c := ((g - 1 : Nat) : Int)) (by rw [IntWalk.u64_in _ (by omega)]; omega)) ?_
    refine aj rfl<|ag<|ae hP<|aj rfl<|ag<|an<|ae hP<|ak rfl<|ab (aU hT rfl rfl rfl rfl)<|ak rfl<|ag<|aA<|bq (ι := List Nat × Nat × Nat) (fun ⟨o, i, c⟩ => stL [(8, Z (s : Int)), (9, .p (.c (W v))), (10, Z ((k + 2 : Nat) : Int)), (11, .vec 60), (12, .vec 70), (13, Z ((j : Nat) : Int)), (15, .p (.c (.v (.int .u64 ((g - 1 : Nat) : Int))))), (22, .p (.c (w32 (c)))), (203, .p (.c (W v))), (204, Z ((v.length : Nat) : Int)), (205, Z ((i : Nat) : Int))] [(60, WB 105 o), (70, WB 105 q)]) (fun ⟨o, i, c⟩ => i ≤ v.length ∧ o.length = u.length ∧ okW o ∧ c < 2 ∧ o.drop (j + k + 3) = u.drop (j + k + 3) ∧ wv o + 4294967296 ^ (j + i) * c = wv o1 + 4294967296 ^ j * wv (v.take i)) (fun ⟨_, i, _⟩ => v.length - i) (o1, 0, 0) ⟨Nat.zero_le _, hlo1, hok1, by omega, hd1, by simp [wv]⟩ (aE ⟨.refl _, .refl _, .refl _, .refl _, .refl _, .refl _, .refl _, .refl _, .refl _, .refl _, .refl _, trivial⟩ ⟨rfl, rfl, trivial⟩) ?_
    clear hbo hS hd he hc ho hlo hi ho1 hd1 hok1 hlo1
    rintro ⟨o, i, c⟩ ⟨hi, hlo, ho, hc, hd, hS2⟩
    refine ae hP<|ab (a7 rfl rfl)<|ag<|an ?_
    refine az rfl (fun hb10 => ?_) (fun hb10 => ?_)
    ·have hb10_ := dT0 hb10
     have hlt : i < v.length := by omega
     have hvi := okv.getD i
     have hoi := ho.getD (j + i)
     have hc2 : (o.getD (j + i) 0 + v.getD i 0 + c) / 4294967296 < 2 := (Nat.div_lt_iff_lt_mul (by omega)).2 (by omega)
     refine aq<|an<|aA<|ae hP<|ak rfl<|cW ?_
     refine cr hT rfl rfl rfl ?_
     refine aj rfl<|aj rfl<|ag<|av hP<|ab (aw (rfl : _ = AV.vec _))<|ak rfl<|ak rfl<|ab (bL rfl rfl (c := ((j + i : Nat) : Int)) (by rw [iW0 _ (by omega)]; omega)) ?_
     refine ab (aw (rfl : _ = AV.vec _))<|ak rfl<|ak rfl<|ab (bL rfl rfl (c := ((j + i : Nat) : Int)) (by rw [iW0 _ (by omega)]; omega)) ?_
     refine db ?_
     refine ab (dx hT rfl rfl rfl rfl (by first | omega | (simp; omega)) rfl) ?_
     refine ak rfl<|ak rfl<|ab (ah (Ay _ _ _ (ho.getD _) (okv.getD _) (by omega))) ?_
     refine ab (aw (rfl : _ = AV.t _))<|ab (ay rfl (v := .c _) rfl)<|ab (ay rfl (v := .c _) rfl)<|db ?_
     refine di ai (cU hT rfl rfl rfl rfl rfl (by first | omega | (simp; omega)) rfl) ?_
     refine aj rfl<|ag<|av hP<|bA rfl rfl ?_
     refine ak rfl<|ag ?_
     have hr := vc (v := v) (i := i) (by omega) rfl hS2
     exact ⟨(o.set (j + i) ((o.getD (j + i) 0 + v.getD i 0 + c) % 4294967296), i + 1, (o.getD (j + i) 0 + v.getD i 0 + c) / 4294967296), ⟨by omega, by simpa using hlo, ho.set (Nat.mod_lt _ (by omega)), hc2, by rw [List.drop_set_of_lt (by omega)]; exact hd, hr⟩, by show v.length - (i + 1) < v.length - i; omega, (aE ⟨.refl _, .refl _, .refl _, .refl _, .refl _, .refl _, .refl _, .refl _, .refl _, .refl _, .refl _, trivial⟩ ⟨rfl, rfl, trivial⟩)⟩
    have hb10_ := dF0 hb10
    have hie : i = v.length := by omega
    subst hie
    rw [List.take_length, hn1] at hS2
    have hbk := dg.back (o := o.set (j + k + 2) ((o.getD (j + k + 2) 0 + c) % 4294967296)) (o1 := o) (c := c) (ho.set (Nat.mod_lt _ (by omega))) (by simpa using hlo) (by rw [List.drop_set_of_lt (by omega)]; exact hd) hgq hml1 (by rw [show j + k + 2 = j + (k + 2) by omega]; exact hS2) ho hc rfl hlo
    refine a6<|av hP<|ab (aw (rfl : _ = AV.vec _))<|ak rfl<|ak rfl<|ab (bL rfl rfl (c := ((j + k + 2 : Nat) : Int)) (by rw [iW0 _ (by omega)]; omega)) ?_
    refine db ?_
    refine ab (dx hT rfl rfl rfl rfl (by first | omega | (simp; omega)) rfl) ?_
    refine ak rfl<|ab (bL rfl rfl (c := (((o.getD (j + k + 2) 0 + c) % 4294967296 : Nat) : Int)) (by rw [IntKind.wrap_u32]; omega)) ?_
    refine db ?_
    refine di ai (cU hT rfl rfl rfl rfl rfl (by first | omega | (simp; omega)) rfl) ?_
    refine ag ?_
    exact ⟨_, ⟨by simpa using hlo, ho.set (Nat.mod_lt _ (by omega)), hbk⟩, (aE ⟨.refl _, .refl _, .refl _, .refl _, .refl _, .refl _, aO (by omega), trivial⟩ ⟨rfl, rfl, trivial⟩)⟩
   have hb9_ := dF0 hb9
   have hbo : ¬ o.getD (j + k + 2) 0 < c + e := by
    intro h
    rw [if_pos h] at *; omega
   rw [if_neg hbo, Nat.mul_zero, Nat.add_zero] at hml1
   have hgq := dg.good hg1 hml1
   refine aq ?_
   exact ⟨o1, ⟨hlo1, hok1, hgq ▸ hml1⟩, (aE ⟨.refl _, .refl _, .refl _, .refl _, .refl _, .refl _, aO (by omega), trivial⟩ ⟨rfl, rfl, trivial⟩)⟩
  rintro u1 ⟨hl1, hok1, hfin⟩
  refine av hP<|ab (aw (rfl : _ = AV.vec _))<|ak rfl<|ak rfl<|ab (bh hT rfl rfl rfl rfl (nu dg.q_lt)) ?_
  refine db ?_
  refine di ai (cU hT rfl rfl rfl rfl rfl (by first | omega | (simp; omega)) rfl) ?_
  refine ag<|av hP<|ak rfl<|ab (bI rfl rfl (by first | exact iW0 _ (by omega) | rfl)) ?_
  refine aj rfl<|ag ?_
  have hdn := dg.done hok1 hl1 hfin
  exact ⟨(u1, q.set j (c8 v u j), j), ⟨by omega, hok1, by simpa using hlq, hqok.set dg.q_lt, by simp; omega, hdn, wI (by omega) hM hfin⟩, by show j < j + 1; omega, (aE ⟨.refl _, .refl _, .refl _, .refl _, .refl _, .refl _, trivial⟩ ⟨rfl, rfl, trivial⟩)⟩
 have hb3_ := dF0 hb3
 have hie : i = 0 := by omega
 subst hie
 rw [List.drop_zero] at hlow hM
 rw [Nat.pow_zero, Nat.one_mul] at hM
 have hE : a / b = wv q ∧ a % b = wv u / 2 ^ s := CV (m := a) (b := b) (s := s) (q := wv q) (r := wv u) (hwv ▸ hM) (hwv ▸ hlow)
 have hlt2 : wv u < 4294967296 ^ (k + 2) := Nat.lt_trans hlow (by have := gL okv; rwa [hn1] at this)
 have htk : wv (u.take (k + 2)) = wv u := by
  have e := dX u (k + 2) (by omega)
  rcases Nat.eq_zero_or_pos (wv (u.drop (k + 2))) with h | h
  ·rw [h, Nat.mul_zero] at e; omega
  have := Nat.le_mul_of_pos_right (4294967296 ^ (k + 2)) h
  omega
 have hshl : (wl (wv (u.take (k + 2)))).length ≤ 1099511627776 := by
  have := fH (htk.symm ▸ hlt2 : wv (u.take (k + 2)) < 4294967296 ^ (k + 2))
  omega
 refine a6<|dL (t := 12) rfl rfl ?_
 refine dL (t := 11) rfl rfl ?_
 refine ae hP<|ak rfl<|ab (ah (eb _ hqok)) ?_
 refine ak rfl<|ak rfl<|ab (jG hT rfl rfl rfl rfl rfl rfl (by omega)) ?_
 refine ab (ah (eb _ (hok.take _))) ?_
 refine ak rfl<|ab (ah (Cd (wl (wv (u.take (k + 2)))) s (bS _) hshl hs32)) ?_
 refine aj rfl<|aj rfl<|ag<|am<|E11 rfl rfl rfl ?_
 exact aD (by rw [bJ, htk, hE.1, hE.2])
end
section
open Go Go.AM
theorem yq (m : Nat) :
  aF Tryz.prog 254 [.p (.c (nt m))] (Z (bv m)) := by
 refine aK Tryz.func254 rfl rfl rfl rfl ?_
 refine gI (t := 0) rfl rfl (fun hlen => ?_)
 have hb32 : ∀ x : Nat, x < 4294967296 → bv x ≤ 32 := fun x h => gG (k := 32) h
 refine ae hP<|aj rfl<|ag<|an<|ae hP<|ak rfl<|ab (aU hT rfl rfl rfl rfl)<|ab (bo rfl rfl)<|ag ?_
 refine az rfl (fun hb1 => ?_) (fun hb1 => ?_)
 ·have hb1_ := bT hb1
  refine ae hP<|aj rfl<|ag<|am<|E1 rfl rfl ?_
  have h0 : wl m = [] := by
   rcases h : wl m with _ | ⟨x, r⟩
   ·rfl
   rw [h] at hb1_; simp at hb1_; omega
  have : m = 0 := by rw [← bJ m, h0]; rfl
  exact aO (by rw [this]; rfl)
 have hb1_ := bF hb1
 refine aq<|ae hP<|ak rfl<|ab (aU hT rfl rfl rfl rfl)<|ab (bI rfl rfl (by first | exact iW0 _ (by omega) | rfl)) ?_
 refine ab (bK rfl rfl (by first | exact iW0 _ (by omega) | rfl)) ?_
 refine ak rfl<|ak rfl<|ab (aU hT rfl rfl rfl rfl)<|ab (bI rfl rfl (by first | exact iW0 _ (by omega) | rfl)) ?_
 refine cW ?_
 refine cr hT rfl rfl rfl ?_
 refine ab (ah (Ak _ ((bS m).getD _))) ?_
 refine ab (bL rfl rfl (iW0 _ (by have := hb32 _ ((bS m).getD (((wl m).length : Int) - 1).toNat); omega))) ?_
 refine aj rfl<|ag<|am<|E1 rfl rfl ?_
 obtain ⟨k, hk⟩ : ∃ k, (wl m).length = k + 1 := ⟨(wl m).length - 1, by omega⟩
 have hkk : (((wl m).length : Int) - 1).toNat = k := by omega
 exact aO (by rw [hkk, zf hk]; omega)
end
section
open Go Go.AM
theorem gW (neg : Bool) (ws : List Nat) (h : okW ws) :
  aF Tryz.prog 63 [B neg, .p (.c (W ws))] (I (sg neg (wv ws))) := by
 refine aK Tryz.func63 rfl rfl rfl rfl ?_
 refine ae hP<|ao ai (aB hT rfl rfl)<|ag<|ae hP<|ak rfl<|ab (ah (eb _ h)) ?_
 refine aj rfl<|ag<|an<|ae hP<|ak rfl<|ab (aU hT rfl rfl rfl rfl)<|ab (bo rfl rfl)<|ag ?_
 refine az rfl (fun hb1 => ?_) (fun hb1 => ?_)
 ·have hb1_ := bT hb1
  refine ae hP<|ab (aV hT rfl rfl rfl (es := [_, _]) rfl)<|aG hT rfl<|ag<|am<|E2 hT rfl rfl rfl rfl rfl rfl rfl ?_
  have h0 : wv ws = 0 := lA (by omega)
  rw [h0, sS]
  exact .refl _
 have hb1_ := bF hb1
 refine aq<|ae hP<|ak rfl<|ak rfl<|ab (aV hT rfl rfl rfl (es := [_, _]) rfl)<|aG hT rfl<|ag<|am<|E2 hT rfl rfl rfl rfl rfl rfl rfl ?_
 have h0 : 0 < wv ws := by
  rcases Nat.eq_zero_or_pos (wv ws) with e | e
  ·rw [e] at hb1_; exact absurd rfl hb1_
  exact e
 exact aD (by show _ = AV.p (.a [zn _, zm _]); rw [zr h0, zt])
theorem lN (x : Int) :
  aF Tryz.prog 62 [I x] (I x.natAbs) := by
 refine aK Tryz.func62 rfl rfl rfl rfl ?_
 refine ae hP<|ao ai (aN rfl rfl)<|ao ai (aB hT rfl rfl)<|ag<|ae hP<|aJ hT rfl<|bj hT rfl rfl rfl rfl ?_
 refine ab (ah (gW _ (wl x.natAbs) (bS _))) ?_
 refine aG hT rfl<|ag<|am<|E2 hT rfl rfl rfl rfl rfl rfl rfl ?_
 exact Sub.I (Gj x)
theorem gB (x : Int) :
  aF Tryz.prog 39 [I x] (I (-x)) := by
 refine aK Tryz.func39 rfl rfl rfl rfl ?_
 refine ae hP<|ao ai (aN rfl rfl)<|ao ai (aB hT rfl rfl)<|ag<|ae hP<|aJ hT rfl<|bj hT rfl rfl rfl rfl ?_
 refine ab (bt rfl)<|aJ hT rfl<|bj hT rfl rfl rfl rfl ?_
 refine ab (ah (gW _ (wl x.natAbs) (bS _))) ?_
 refine aG hT rfl<|ag<|am<|E2 hT rfl rfl rfl rfl rfl rfl rfl ?_
 exact Sub.I (ES x)
theorem dA (x y : Int) (hx : L 45 x) (hy : L 45 y) :
  aF Tryz.prog 38 [I x, I y] (I (x + y)) := by
 refine aK Tryz.func38 rfl rfl rfl rfl ?_
 refine ae hP<|ao ai (aN rfl rfl)<|ao ai (aN rfl rfl)<|ao ai (aB hT rfl rfl)<|ag<|ae hP<|aJ hT rfl<|bj hT rfl rfl rfl rfl ?_
 refine aJ hT rfl<|bj hT rfl rfl rfl rfl ?_
 refine aj rfl<|aj rfl<|ag<|an<|aA<|ae hP<|aJ hT rfl<|bj hT rfl rfl rfl rfl ?_
 refine aJ hT rfl<|bj hT rfl rfl rfl rfl ?_
 refine ab (vY hT rfl rfl rfl rfl)<|aj rfl<|ag ?_
 refine az rfl (fun hb1 => ?_) (fun hb1 => ?_)
 ·refine ae hP<|aJ hT rfl<|bj hT rfl rfl rfl rfl ?_
  refine ak rfl<|ak rfl<|ab (ah (Cg (wl x.natAbs) (wl y.natAbs) (bS _) (bS _) (sz hx) (sz hy))) ?_
  refine ab (ah (gW _ _ (bS _))) ?_
  refine aG hT rfl<|ag<|am<|E2 hT rfl rfl rfl rfl rfl rfl rfl ?_
  exact Sub.I (by rw [bJ]; exact zl (by assumption))
 refine ae hP<|ak rfl<|ak rfl<|ab (ah (nM x.natAbs y.natAbs)) ?_
 refine ab (a7 rfl rfl)<|aj rfl<|ag ?_
 refine az rfl (fun hb2 => ?_) (fun hb2 => ?_)
 ·have hb2_ := dT0 hb2
  have hc := FT (m := x.natAbs) (n := y.natAbs) (by assumption)
  refine ae hP<|aJ hT rfl<|bj hT rfl rfl rfl rfl ?_
  refine ak rfl<|ak rfl<|ab (ah (tm (wl y.natAbs) (wl x.natAbs) (bS _) (bS _) (sz hy) (gM (by omega)) (by rw [bJ, bJ]; omega))) ?_
  refine ab (ah (gW _ _ (bS _))) ?_
  refine aG hT rfl<|ag<|am<|E2 hT rfl rfl rfl rfl rfl rfl rfl ?_
  exact Sub.I (by rw [bJ]; exact Gh (by assumption) hc)
 have hb2_ := dF0 hb2
 have hc := FU (m := x.natAbs) (n := y.natAbs) (by assumption)
 refine aq<|ae hP<|aJ hT rfl<|bj hT rfl rfl rfl rfl ?_
 refine ak rfl<|ak rfl<|ab (ah (tm (wl x.natAbs) (wl y.natAbs) (bS _) (bS _) (sz hx) (gM hc) (by rw [bJ, bJ]; exact hc))) ?_
 refine ab (ah (gW _ _ (bS _))) ?_
 refine aG hT rfl<|ag<|am<|E2 hT rfl rfl rfl rfl rfl rfl rfl ?_
 exact Sub.I (by rw [bJ]; exact Gi (by assumption) hc)
theorem iO (x y : Int) (hx : L 45 x) (hy : L 45 y) :
  aF Tryz.prog 108 [I x, I y] (I (x - y)) := by
 refine aK Tryz.func108 rfl rfl rfl rfl ?_
 refine ae hP<|ao ai (aN rfl rfl)<|ao ai (aN rfl rfl)<|ao ai (aB hT rfl rfl)<|ag<|ae hP<|au hT rfl<|au hT rfl<|ab (ah (gB y)) ?_
 refine ab (ah (dA x (-y) hx hy.neg)) ?_
 refine aG hT rfl<|ag<|am<|E2 hT rfl rfl rfl rfl rfl rfl rfl ?_
 exact Sub.I (by omega)
theorem dp (x y : Int) (hx : L 45 x) (hy : L 45 y) :
  aF Tryz.prog 16 [I x, I y] (I (x * y)) := by
 refine aK Tryz.func16 rfl rfl rfl rfl ?_
 refine ae hP<|ao ai (aN rfl rfl)<|ao ai (aN rfl rfl)<|ao ai (aB hT rfl rfl)<|ag<|ae hP<|aJ hT rfl<|bj hT rfl rfl rfl rfl ?_
 refine aJ hT rfl<|bj hT rfl rfl rfl rfl ?_
 refine ab (kV hT rfl rfl rfl rfl)<|aJ hT rfl<|bj hT rfl rfl rfl rfl ?_
 refine aJ hT rfl<|bj hT rfl rfl rfl rfl ?_
 refine ab (ah (Ce (wl x.natAbs) (wl y.natAbs) (bS _) (bS _) (sz hx) (sz hy))) ?_
 refine ab (ah (gW _ _ (bS _))) ?_
 refine aG hT rfl<|ag<|am<|E2 hT rfl rfl rfl rfl rfl rfl rfl ?_
 exact Sub.I (by rw [bJ]; exact EU x y)
end
section
open Go Go.AM
theorem cE (x : Int) :
  aF Tryz.prog 58 [I x] (Z (sgn x)) := by
 refine aK Tryz.func58 rfl rfl rfl rfl ?_
 refine ae hP<|ao ai (aN rfl rfl)<|aj rfl<|ag<|an<|aA<|ae hP<|aJ hT rfl<|bj hT rfl rfl rfl rfl ?_
 refine ab (aU hT rfl rfl rfl rfl)<|ab (bo rfl rfl)<|aj rfl<|ag ?_
 refine az rfl (fun hb1 => ?_) (fun hb1 => ?_)
 ·have hb1_ := bT hb1
  refine ae hP<|aj rfl<|ag<|am<|E1 rfl rfl ?_
  have h0 := wl_len_zero.1 hb1_
  exact aO (by rw [h0]; rfl)
 have hb1_ := bF hb1
 refine ae hP<|aJ hT rfl<|bj hT rfl rfl rfl rfl ?_
 refine aj rfl<|ag ?_
 refine az rfl (fun hb2 => ?_) (fun hb2 => ?_)
 ·refine ae hP<|aj rfl<|ag<|am<|E1 rfl rfl ?_
  exact aO (lB hb2).symm
 refine aq<|ae hP<|aj rfl<|ag<|am<|E1 rfl rfl ?_
 have h0 : x ≠ 0 := fun e => hb1_ (wl_len_zero.2 e)
 exact aO (BC h0 hb2).symm
theorem c7 (x y : Int) :
  aF Tryz.prog 14 [I x, I y] (Z (bu x y)) := by
 refine aK Tryz.func14 rfl rfl rfl rfl ?_
 refine ae hP<|ao ai (aN rfl rfl)<|ao ai (aN rfl rfl)<|aj rfl<|ag<|an<|ae hP<|aJ hT rfl<|bj hT rfl rfl rfl rfl ?_
 refine aJ hT rfl<|bj hT rfl rfl rfl rfl ?_
 refine ab (kV hT rfl rfl rfl rfl)<|ag ?_
 refine az rfl (fun hb1 => ?_) (fun hb1 => ?_)
 ·refine ae hP<|au hT rfl<|ab (ah (cE _)) ?_
  refine au hT rfl<|ab (ah (cE _)) ?_
  refine ab (ah (l7 _ _)) ?_
  refine aj rfl<|ag<|am<|E1 rfl rfl ?_
  exact aO (zb hb1)
 refine aq<|ae hP<|aJ hT rfl<|bj hT rfl rfl rfl rfl ?_
 refine aJ hT rfl<|bj hT rfl rfl rfl rfl ?_
 refine ab (ah (nM x.natAbs y.natAbs)) ?_
 refine au hT rfl<|ab (ah (cE _)) ?_
 refine ab (bd hT rfl rfl rfl (es := [_, _]) rfl rfl rfl)<|ab (ah (EJ _ _)) ?_
 refine ab (bK rfl rfl (za hb1)) ?_
 refine aj rfl<|ag<|am<|E1 rfl rfl ?_
 exact .refl _
theorem rc (x : Int) :
  aF Tryz.prog 242 [I x] (Z (bv x.natAbs)) := by
 refine aK Tryz.func242 rfl rfl rfl rfl ?_
 refine ae hP<|ao ai (aN rfl rfl)<|aj rfl<|ag<|ae hP<|aJ hT rfl<|bj hT rfl rfl rfl rfl ?_
 refine ab (ah (yq x.natAbs)) ?_
 refine aj rfl<|ag<|am<|E1 rfl rfl ?_
 exact .refl _
theorem kX (x : Int) (hx : L 45 x) :
  aF Tryz.prog 100 [I x] (B true) := by
 have hlen := sz hx
 refine aK Tryz.func100 rfl rfl rfl rfl ?_
 refine ae hP<|ao ai (aN rfl rfl)<|aj rfl<|ag<|an<|ae hP<|aJ hT rfl<|bj hT rfl rfl rfl rfl ?_
 refine ab (aU hT rfl rfl rfl rfl)<|ab (bo rfl rfl)<|ag ?_
 refine az rfl (fun hb1 => ?_) (fun hb1 => ?_)
 ·have hb1_ := bT hb1
  refine ae hP<|aJ hT rfl<|bj hT rfl rfl rfl rfl ?_
  refine ab (bt rfl)<|aj rfl<|ag<|am<|E1 rfl rfl ?_
  have h0 := wl_len_zero.1 hb1_
  exact aD (by rw [h0]; rfl)
 have hb1_ := bF hb1
 refine aq<|ae hP<|aJ hT rfl<|bj hT rfl rfl rfl rfl ?_
 refine aJ hT rfl<|bj hT rfl rfl rfl rfl ?_
 refine ab (aU hT rfl rfl rfl rfl)<|ab (bI rfl rfl (by first | exact iW0 _ (by omega) | rfl)) ?_
 refine cW ?_
 refine cr hT rfl rfl rfl ?_
 refine ab (bl rfl rfl)<|aj rfl<|ag<|am<|E1 rfl rfl ?_
 have h1 : (wl x.natAbs).length ≠ 0 := fun e => hb1_ (by rw [e]; rfl)
 have h2 : (((wl x.natAbs).length : Int) - 1).toNat = (wl x.natAbs).length - 1 := by omega
 rw [h2]
 have h3 := pR (k := x.natAbs) (n := (wl x.natAbs).length - 1) (by omega)
 exact aD (by rw [show ((((wl x.natAbs).getD ((wl x.natAbs).length - 1) 0 : Nat) : Int) != 0) = true from bne_iff_ne.2 (by omega)])
theorem dC (z : Int) (hz : bn z) :
  aF Tryz.prog 136 [.p (.c (.v (.int .i64 z)))] (I z) := by
 have hz1 : z.natAbs < 18446744073709551616 := by unfold bn at hz; omega
 refine aK Tryz.func136 rfl rfl rfl rfl ?_
 refine ae hP<|ao ai (aB hT rfl rfl)<|ag<|ae hP<|ak rfl<|ak rfl<|ab (fL rfl rfl)<|ab (vX rfl rfl)<|ab (bh hT rfl rfl rfl rfl (c := ((z.natAbs : Nat) : Int)) (AL hz)) ?_
 refine aj rfl<|ag<|ae hP<|ak rfl<|ab (a7 rfl rfl)<|ak rfl<|ab (bh hT rfl rfl rfl rfl (jO _)) ?_
 refine ak rfl<|ab (dT (j := 32) rfl rfl (by decide)) ?_
 refine ab (bh hT rfl rfl rfl rfl (c := ((z.natAbs / 2 ^ 32 : Nat) : Int)) (by simp only [IntKind.wrap_u32]; omega)) ?_
 refine ab (bd hT rfl rfl rfl (es := [_, _]) rfl rfl rfl)<|ab (ah (gW _ [z.natAbs % 4294967296, z.natAbs / 2 ^ 32] (nJ (by omega)))) ?_
 refine aG hT rfl<|ag<|am<|E2 hT rfl rfl rfl rfl rfl rfl rfl ?_
 exact Sub.I (by rw [pJ]; exact uu)
theorem nO (neg : Bool) (m : Nat) : aF Tryz.prog 63 [B neg, .p (.c (nt m))] (I (sg neg m)) := by
 have h := gW neg (wl m) (bS m)
 rwa [bJ] at h
theorem da (x y : Int) (hx : L 44 x) (hy : L 44 y) (h0 : y ≠ 0) :
  aF Tryz.prog 113 [I x, I y] (.t [PI (x / y), PI (x % y), PE 0]) := by
 have hq : L 44 (sg (!(decide (x < 0) == decide (y < 0))) (x.natAbs / y.natAbs)) := L.of_le hx (by rw [vC]; exact Nat.div_le_self _ _)
 have hr : L 44 (sg (decide (x < 0)) (x.natAbs % y.natAbs)) := L.of_le hx (by rw [vC]; exact Nat.mod_le _ _)
 refine aK Tryz.func113 rfl rfl rfl rfl ?_
 refine ae hP<|ao ai (aN rfl rfl)<|ao ai (aN rfl rfl)<|ao ai (aB hT rfl rfl)<|ao ai (aB hT rfl rfl)<|aj rfl<|ag<|an<|ae hP<|aJ hT rfl<|bj hT rfl rfl rfl rfl ?_
 refine ab (aU hT rfl rfl rfl rfl)<|ab (bo rfl rfl)<|ag ?_
 refine az rfl (fun hb1 => ?_) (fun hb1 => ?_)
 ·have hb1_ := bT hb1
  exact absurd (wl_len_zero.1 hb1_) h0
 have hb1_ := bF hb1
 refine aq<|ae hP<|aJ hT rfl<|bj hT rfl rfl rfl rfl ?_
 refine aJ hT rfl<|bj hT rfl rfl rfl rfl ?_
 refine ab (ah (Cf x.natAbs y.natAbs (sz (hx.mono (by decide))) (by omega))) ?_
 refine ab (aw (rfl : _ = AV.t _))<|ab (ay rfl (v := .c _) rfl)<|ab (ay rfl (v := .c _) rfl)<|aj rfl<|aj rfl<|ag<|ae hP<|aJ hT rfl<|bj hT rfl rfl rfl rfl ?_
 refine aJ hT rfl<|bj hT rfl rfl rfl rfl ?_
 refine ab (kV hT rfl rfl rfl rfl)<|ak rfl<|ab (ah (nO _ _)) ?_
 refine aJ hT rfl<|bj hT rfl rfl rfl rfl ?_
 refine ak rfl<|ab (ah (nO _ _)) ?_
 refine ao ai (aB hT rfl rfl)<|ao ai (aB hT rfl rfl)<|aG hT rfl<|aG hT rfl<|ag<|an<|ae hP<|aJ hT rfl<|bj hT rfl rfl rfl rfl ?_
 refine ag ?_
 refine az rfl (fun hb2 => ?_) (fun hb2 => ?_)
 ·have e1 := (ng h0 (dT0 hb2)).1
  have e2 := (ng h0 (dT0 hb2)).2
  refine ae hP<|au hT rfl<|au hT rfl<|ab (ah (lN _)) ?_
  refine ab (ah (dA _ _ (hr.mono (by decide)) (hy.abs.mono (by decide)))) ?_
  refine aG hT rfl<|ag<|av hP<|au hT rfl<|au hT rfl<|ab (ah (cE _)) ?_
  refine ab (ah (dC (sgn y) (by unfold sgn; split <;> (try split) <;> decide))) ?_
  refine ab (ah (iO _ _ (hq.mono (by decide)) ((AC y).mono (by decide)))) ?_
  refine aG hT rfl<|ag<|ae hP<|au hT rfl<|au hT rfl<|aG hT rfl<|aG hT rfl<|aj rfl<|ag<|am ?_
  refine dW rfl (.inr rfl) (aT hT rfl rfl rfl rfl (cs := [_, _]) rfl rfl) (aT hT rfl rfl rfl rfl (cs := [_, _]) rfl rfl) (bM rfl) ?_ br
  exact aD (by rw [e1, e2])
 have e1 := (nf h0 (dF0 hb2)).1
 have e2 := (nf h0 (dF0 hb2)).2
 refine aq<|ae hP<|au hT rfl<|au hT rfl<|aG hT rfl<|aG hT rfl<|aj rfl<|ag<|am ?_
 refine dW rfl (.inr rfl) (aT hT rfl rfl rfl rfl (cs := [_, _]) rfl rfl) (aT hT rfl rfl rfl rfl (cs := [_, _]) rfl rfl) (bM rfl) ?_ br
 exact aD (by rw [e1, e2])
theorem CF (x y : Int) (hx : L 44 x) (hy : L 44 y) (h0 : y ≠ 0) :
  aF Tryz.prog 61 [I x, I y] (I (x % y)) := by
 refine aK Tryz.func61 rfl rfl rfl rfl ?_
 refine ae hP<|ao ai (aN rfl rfl)<|ao ai (aN rfl rfl)<|ao ai (aB hT rfl rfl)<|ag<|ae hP<|au hT rfl<|au hT rfl<|ab (ah (da x y hx hy h0)) ?_
 refine ab (aw (rfl : _ = AV.t _))<|ab (ay rfl (v := .a _) rfl)<|ab (ay rfl (v := .a _) rfl)<|ab (ay rfl (v := .c _) rfl)<|ao ai (aB hT rfl rfl)<|ao ai (aB hT rfl rfl)<|aG hT rfl<|aG hT rfl<|aj rfl<|ag<|ae hP<|au hT rfl<|aG hT rfl<|ag<|am<|E2 hT rfl rfl rfl rfl rfl rfl rfl ?_
 exact .refl _
theorem lM (x y : Int) (hx : L 44 x) (hy : L 44 y) :
  aF Tryz.prog 15 [I x, I y] (I (Int.gcd x y)) := by
 refine aK Tryz.func15 rfl rfl rfl rfl ?_
 refine ae hP<|ao ai (aN rfl rfl)<|ao ai (aN rfl rfl)<|ao ai (aB hT rfl rfl)<|ag<|an<|aA<|bq (ι := Int × Int) (fun p => stL [(2, .loc 2 0), (3, .loc 3 0), (4, .loc 4 0)] [(2, ⟨false, 1, 29, [zn (p.1), zm (p.1)]⟩), (3, ⟨false, 1, 29, [zn (p.2), zm (p.2)]⟩), (4, ⟨false, 1, 29, [zn (0), zm (0)]⟩)]) (fun p => L 44 p.1 ∧ L 44 p.2 ∧ Int.gcd p.1 p.2 = Int.gcd x y) (fun p => p.2.natAbs) (x, y) ⟨hx, hy, rfl⟩ (aE ⟨.refl _, .refl _, .refl _, trivial⟩ ⟨rfl, rfl, rfl, trivial⟩) ?_
 rintro ⟨a, b⟩ ⟨ha, hb, hg⟩
 refine an<|ae hP<|aJ hT rfl<|bj hT rfl rfl rfl rfl ?_
 refine ab (aU hT rfl rfl rfl rfl)<|ab (bU rfl rfl)<|ag ?_
 refine az rfl (fun hb1 => ?_) (fun hb1 => ?_)
 ·have hb1_ := dT0 hb1
  have h0 : b ≠ 0 := fun e => by
   have e2 : 0 < ((wl b.natAbs).length : Int) := hb1_
   rw [e] at e2; exact absurd e2 (by decide)
  refine aq<|aA<|av hP<|au hT rfl<|au hT rfl<|au hT rfl<|ab (ah (CF a b ha hb h0)) ?_
  refine aG hT rfl<|aG hT rfl<|ag ?_
  refine ⟨(b, a % b), ⟨hb, (ha.emod hb).mono (by decide), ?_⟩, ?_, aE ⟨.refl _, .refl _, .refl _, trivial⟩ ⟨rfl, rfl, rfl, trivial⟩⟩
  ·rw [← hg]; exact yP a b
  have h1 := Int.emod_nonneg a h0
  have h2 := Int.emod_lt a h0
  show (a % b).natAbs < b.natAbs
  omega
 have hb1_ := dF0 hb1
 refine a6<|ae hP<|au hT rfl<|ab (ah (lN _)) ?_
 refine aG hT rfl<|ag<|am<|E2 hT rfl rfl rfl rfl rfl rfl rfl ?_
 have h0 : b = 0 := by
  have e2 : ¬ 0 < ((wl b.natAbs).length : Int) := hb1_
  have : ((wl b.natAbs).length : Int) = 0 := by omega
  exact wl_len_zero.1 this
 exact Sub.I (by rw [← hg, h0]; simp)
theorem uJ (x : Int) (hx : L 44 x) :
  aF Tryz.prog 243 [I x, Z 1] (I x) := by
 refine aK Tryz.func243 rfl rfl rfl rfl ?_
 refine ae hP<|ao ai (aN rfl rfl)<|ao ai (aB hT rfl rfl)<|ag<|ae hP<|ab (ah (dC 1 (by decide))) ?_
 refine ao ai (aB hT rfl rfl)<|aG hT rfl<|ag<|an<|aA<|dH 2 ?_
 refine an<|ae hP<|ak rfl<|ab (bU rfl rfl)<|ag<|aS rfl (by decide) ?_
 refine aq<|an<|aA<|an<|ae hP<|ak rfl<|ab (cQ rfl rfl (by first | decide | omega) (by first | exact Int.tmod_eq_emod_of_nonneg (by omega) | rfl)) ?_
 refine ab (bo rfl rfl)<|ag<|aS rfl rfl<|av hP<|au hT rfl<|au hT rfl<|ab (ah (dp 1 x (L.mono (n := 0) (by decide) (by decide)) (hx.mono (by decide)))) ?_
 refine aG hT rfl<|ag<|ae hP<|ak rfl<|ab (bU rfl rfl)<|ag<|aP rfl rfl<|aq<|av hP<|ak rfl<|ab (eh rfl rfl (by first | decide | omega) (by first | exact iW0 _ (by omega) | rfl)) ?_
 refine aj rfl<|ag<|an<|ae hP<|ak rfl<|ab (bU rfl rfl)<|ag<|aP rfl (by decide) ?_
 refine a6<|ae hP<|au hT rfl<|aG hT rfl<|ag<|am<|E2 hT rfl rfl rfl rfl rfl rfl rfl ?_
 exact Sub.I (by rw [Int.one_mul])
end
section
open Go Go.AM
theorem wx (x : Int) (hx : L 40 x) :
  aF Tryz.prog 212 [I x, Z 2] (.t [PI (rootV x), PE (jv x)]) := by
 have hbl := F8 hx
 refine aK Tryz.func212 rfl rfl rfl rfl ?_
 refine ae hP<|ao ai (aN rfl rfl)<|ao ai (aB hT rfl rfl)<|aj rfl<|ag<|ae hP<|au hT rfl<|ab (ah (rc x)) ?_
 refine aj rfl<|ag<|an<|aA<|ae hP<|aJ hT rfl<|bj hT rfl rfl rfl rfl ?_
 refine ak rfl ?_
 refine aZ (t := 16) rfl (fun hg1 => ?_) (fun hg1 => ?_)
 ·have hx0 : x < 0 := dT0 hg1
  refine aW hg1 ?_
  refine aW hg1 ?_
  refine ab (aM rfl hg1 (rfl : _ = AV.p (.c _)))<|aj rfl<|ag<|aS rfl rfl<|ae hP<|ab (aV hT rfl rfl rfl (es := [_, _]) rfl)<|aG hT rfl<|aj rfl<|ag<|am ?_
  refine b9 rfl (.inr rfl) (aT hT rfl rfl rfl rfl (cs := [_, _]) rfl rfl) (bM rfl) ?_ br
  exact aD (by rw [(iX hx0).1, (iX hx0).2])
 have hx0 : ¬ x < 0 := dF0 hg1
 refine aC hg1 (aw (rfl : _ = AV.p (.c _))) ?_
 refine aC hg1 (a7 rfl rfl) ?_
 refine ab (aL rfl hg1 (rfl : _ = AV.p (.c _)))<|aj rfl<|ag<|aP rfl rfl<|ae hP<|ak rfl<|ab (bo rfl rfl)<|ak rfl ?_
 refine aZ (t := 24) rfl (fun hg2 => ?_) (fun hg2 => ?_)
 ·have hg2_ := bT hg2
  refine aW hg2 ?_
  refine aW hg2 ?_
  refine ab (aM rfl hg2 (rfl : _ = AV.p (.c _)))<|aj rfl<|ag<|aS rfl rfl<|ae hP<|au hT rfl<|aG hT rfl<|aj rfl<|ag<|am ?_
  refine b9 rfl (.inr rfl) (aT hT rfl rfl rfl rfl (cs := [_, _]) rfl rfl) (bM rfl) ?_ br
  have e := vE hg2_
  exact aD (by rw [e]; rfl)
 have hg2_ := bF hg2
 refine aC hg2 (aw (rfl : _ = AV.p (.c _))) ?_
 refine aC hg2 (bo rfl rfl) ?_
 refine ab (aL rfl hg2 (rfl : _ = AV.p (.c _)))<|aj rfl<|ag<|aP rfl rfl<|ae hP<|ak rfl<|ak rfl<|ab (dB rfl rfl)<|aj rfl<|ag ?_
 refine az rfl (fun hb3 => ?_) (fun hb3 => ?_)
 ·have hb3_ := dT0 hb3
  refine ae hP<|ab (ah (dC _ (by decide))) ?_
  refine aG hT rfl<|aj rfl<|ag<|am ?_
  refine b9 rfl (.inr rfl) (aT hT rfl rfl rfl rfl (cs := [_, _]) rfl rfl) (bM rfl) ?_ br
  exact aD (by rw [uf hx0 hg2_ hb3_, iY hx0])
 have hb3_ := dF0 hb3
 have hx1 : 0 < x := by
  rcases Int.lt_trichotomy x 0 with e | e | e
  ·exact absurd e hx0
  ·rw [e] at hg2_; exact absurd rfl hg2_
  exact e
 refine aq<|ae hP<|ab (bd hT rfl rfl rfl (es := [_]) rfl rfl rfl)<|ak rfl<|ak rfl<|bA rfl rfl ?_
 refine ab (bI rfl rfl (by first | exact iW0 _ (by omega) | rfl)) ?_
 refine ak rfl<|ab (eh rfl rfl (by decide) (IN _ hbl)) ?_
 refine ab (ah (nK [1] ((bv x.natAbs + 1) / 2) Ca (by decide) (by omega))) ?_
 refine ab (ah (nO _ _)) ?_
 refine ao ai (aB hT rfl rfl)<|aG hT rfl<|ag<|aA<|bq (ι := Int) (fun s => stL [(1, Z 2), (2, .loc 2 0), (4, .loc 4 0), (7, .loc 7 0)] [(2, ⟨false, 1, 29, [zn (x), zm (x)]⟩), (4, ⟨false, 1, 29, [zn (0), zm (0)]⟩), (7, ⟨false, 1, 29, [zn (s), zm (s)]⟩)]) (fun s => 0 < s ∧ rootV x ≤ s ∧ s ≤ 2 * x) (fun s => s.toNat) (2 ^ ((bv x.natAbs + 1) / 2) : Nat) ?_ (aE ⟨.refl _, .refl _, .refl _, .refl _, trivial⟩ ⟨rfl, rfl, ?_, trivial⟩) ?_
 ·exact ue hx1
 ·exact congrArg (fun z => some (⟨false, 1, 29, [zn z, zm z]⟩ : Blk)) (Ec _)
 intro s hs
 have ix : LB x 40 := ⟨hx⟩
 have is : LB s 41 := ⟨L.of_le (b := 2 * x) (lz (by rfl)) (by omega)⟩
 refine aA<|ae hP<|au hT rfl<|au hT rfl<|ak rfl<|ab (bI rfl rfl (by first | exact iW0 _ (by omega) | rfl)) ?_
 refine ab (ah (uJ s lz)) ?_
 refine ab (ah (da x s lz lz (by omega))) ?_
 refine ab (aw (rfl : _ = AV.t _))<|ab (ay rfl (v := .a _) rfl)<|ab (ay rfl (v := .a _) rfl)<|ab (ay rfl (v := .c _) rfl)<|ao ai (aB hT rfl rfl)<|ao ai (aB hT rfl rfl)<|aG hT rfl<|aG hT rfl<|aj rfl<|ag<|ae hP<|au hT rfl<|ak rfl<|ab (bI rfl rfl (by first | exact iW0 _ (by omega) | rfl)) ?_
 refine ab (ah (dC _ (by decide))) ?_
 refine ab (ah (dp _ _ lz lz)) ?_
 refine au hT rfl<|ab (ah (dA _ _ lz lz)) ?_
 refine ak rfl<|ab (ah (dC _ (by decide))) ?_
 refine ab (ah (da _ 2 lz lz (by decide))) ?_
 refine ab (aw (rfl : _ = AV.t _))<|ab (ay rfl (v := .a _) rfl)<|ab (ay rfl (v := .a _) rfl)<|ab (ay rfl (v := .c _) rfl)<|aG hT rfl<|ag<|an<|ae hP<|au hT rfl<|au hT rfl<|ab (ah (c7 _ _)) ?_
 refine ab (dB rfl rfl)<|ag ?_
 refine az rfl (fun hb4 => ?_) (fun hb4 => ?_)
 ·have hb4_ := dT0 hb4
  have hge := sy hb4_
  refine ae hP<|au hT rfl<|aG hT rfl<|aj rfl<|ag<|am ?_
  refine b9 rfl (.inr rfl) (aT hT rfl rfl rfl rfl (cs := [_, _]) rfl rfl) (bM rfl) ?_ br
  have e := vF hx1 hs.1 hs.2.1 hge
  exact aD (by rw [e, iY hx0])
 have hb4_ := dF0 hb4
 have hge := pp hb4_
 refine aq<|av hP<|au hT rfl<|aG hT rfl<|ag ?_
 refine ⟨(s * 1 + x / s) / 2, ⟨(kM hx1 hs.1).2, (kM hx1 hs.1).1, Int.le_trans (Int.le_of_lt hge) hs.2.2⟩, ?_, aE ⟨.refl _, .refl _, .refl _, .refl _, trivial⟩ ⟨rfl, rfl, rfl, trivial⟩⟩
 have h3 := (kM hx1 hs.1).2
 show ((s * 1 + x / s) / 2).toNat < s.toNat
 omega
theorem yI (x : Int) (hx : L 40 x) :
  aF Tryz.prog 178 [I x] (.t [PI (rootV x), PI (if x < 0 then 0 else x - rootV x * rootV x), PE (jv x)]) := by
 have ix : LB x 40 := ⟨hx⟩
 refine aK Tryz.func178 rfl rfl rfl rfl ?_
 refine ae hP<|ao ai (aN rfl rfl)<|ao ai (aB hT rfl rfl)<|ao ai (aB hT rfl rfl)<|aj rfl<|ag<|ae hP<|au hT rfl<|ab (ah (wx x hx)) ?_
 refine ab (aw (rfl : _ = AV.t _))<|ab (ay rfl (v := .a _) rfl)<|ab (ay rfl (v := .c _) rfl)<|ao ai (aB hT rfl rfl)<|aG hT rfl<|aj rfl<|ag<|an<|ae hP<|ak rfl<|ab (bl rfl rfl)<|ag ?_
 refine az rfl (fun hb1 => ?_) (fun hb1 => ?_)
 ·have hb1_ := cn hb1
  refine ae hP<|ab (aV hT rfl rfl rfl (es := [_, _]) rfl)<|ab (aV hT rfl rfl rfl (es := [_, _]) rfl)<|ak rfl<|aG hT rfl<|aG hT rfl<|aj rfl<|ag<|am ?_
  refine dW rfl (.inr rfl) (aT hT rfl rfl rfl rfl (cs := [_, _]) rfl rfl) (aT hT rfl rfl rfl rfl (cs := [_, _]) rfl rfl) (bM rfl) ?_ br
  have h0 : x < 0 := by
   rcases Int.lt_or_le x 0 with h | h
   ·exact h
   exact absurd (iY (by omega)) hb1_
  exact aD (by rw [(iX h0).1, if_pos h0])
 have hb1_ := bY hb1
 refine aq<|ae hP<|au hT rfl<|au hT rfl<|au hT rfl<|au hT rfl<|ab (ah (dp _ _ lz lz)) ?_
 refine ab (ah (iO _ _ lz lz)) ?_
 refine aG hT rfl<|aG hT rfl<|aj rfl<|ag<|am ?_
 refine dW rfl (.inr rfl) (aT hT rfl rfl rfl rfl (cs := [_, _]) rfl rfl) (aT hT rfl rfl rfl rfl (cs := [_, _]) rfl rfl) (bM rfl) ?_ br
 have h0 : ¬ x < 0 := fun h => by rw [(iX h).2] at hb1_; cases hb1_
 exact aD (by rw [if_neg h0, iY h0])
end
section
open Go Go.AM
theorem dO (z : Int) (hz : bn z) :
  aF Tryz.prog 110 [.p (.c (.v (.int .i64 z)))] (I z) := by
 refine aK Tryz.func110 rfl rfl rfl rfl ?_
 refine ae hP<|ao ai (aB hT rfl rfl)<|ag<|ae hP<|ak rfl<|ab (ah (dC z hz)) ?_
 refine aG hT rfl<|ag<|am<|E2 hT rfl rfl rfl rfl rfl rfl rfl ?_
 exact .refl _
theorem cH (x y : Int) (hx : L 40 x) (hy : L 40 y) :
  aF Tryz.prog 109 [.p (.c (.sl 2 [zn x, zm x, zn y, zm y]))] (I (x * y)) := by
 have ix : LB x 40 := ⟨hx⟩
 have iy : LB y 40 := ⟨hy⟩
 refine aK Tryz.func109 rfl rfl rfl rfl ?_
 refine ae hP<|ao ai (aB hT rfl rfl)<|ag<|ae hP<|ab (ah (dO _ (by first | assumption | decide))) ?_
 refine ao ai (aB hT rfl rfl)<|aG hT rfl<|ag<|an<|ae hP<|ak rfl<|ab (aU hT rfl rfl rfl rfl)<|ak rfl<|ag<|aA<|dH 3 ?_
 refine ae hP<|ab (a7 rfl rfl)<|ag<|an<|aS rfl (by decide) ?_
 refine aq<|an<|aA<|ae hP<|cW ?_
 refine ab (a8 hT rfl rfl rfl (cs := [_, _]) rfl rfl)<|ao ai (aB hT rfl rfl)<|aG hT rfl<|ag<|av hP<|au hT rfl<|au hT rfl<|ab (ah (dp _ _ lz lz)) ?_
 refine aG hT rfl<|ag<|av hP<|bA rfl rfl ?_
 refine ak rfl<|ag<|ae hP<|ab (a7 rfl rfl)<|ag<|an<|aS rfl (by decide) ?_
 refine aq<|an<|aA<|ae hP<|cW ?_
 refine ab (a8 hT rfl rfl rfl (cs := [_, _]) rfl rfl)<|ao ai (aB hT rfl rfl)<|aG hT rfl<|ag<|av hP<|au hT rfl<|au hT rfl<|ab (ah (dp _ _ lz lz)) ?_
 refine aG hT rfl<|ag<|av hP<|bA rfl rfl ?_
 refine ak rfl<|ag<|ae hP<|ab (a7 rfl rfl)<|ag<|an<|aP rfl (by decide) ?_
 refine a6<|ae hP<|au hT rfl<|aG hT rfl<|ag<|am<|E2 hT rfl rfl rfl rfl rfl rfl rfl ?_
 exact Sub.I (by rw [Int.one_mul])
theorem e9 (x y z : Int) (hx : L 40 x) (hy : L 40 y) (hz : L 40 z) :
  aF Tryz.prog 109 [.p (.c (.sl 3 [zn x, zm x, zn y, zm y, zn z, zm z]))] (I (x * y * z)) := by
 have ix : LB x 40 := ⟨hx⟩
 have iy : LB y 40 := ⟨hy⟩
 have iz : LB z 40 := ⟨hz⟩
 refine aK Tryz.func109 rfl rfl rfl rfl ?_
 refine ae hP<|ao ai (aB hT rfl rfl)<|ag<|ae hP<|ab (ah (dO _ (by first | assumption | decide))) ?_
 refine ao ai (aB hT rfl rfl)<|aG hT rfl<|ag<|an<|ae hP<|ak rfl<|ab (aU hT rfl rfl rfl rfl)<|ak rfl<|ag<|aA<|dH 4 ?_
 refine ae hP<|ab (a7 rfl rfl)<|ag<|an<|aS rfl (by decide) ?_
 refine aq<|an<|aA<|ae hP<|cW ?_
 refine ab (a8 hT rfl rfl rfl (cs := [_, _]) rfl rfl)<|ao ai (aB hT rfl rfl)<|aG hT rfl<|ag<|av hP<|au hT rfl<|au hT rfl<|ab (ah (dp _ _ lz lz)) ?_
 refine aG hT rfl<|ag<|av hP<|bA rfl rfl ?_
 refine ak rfl<|ag<|ae hP<|ab (a7 rfl rfl)<|ag<|an<|aS rfl (by decide) ?_
 refine aq<|an<|aA<|ae hP<|cW ?_
 refine ab (a8 hT rfl rfl rfl (cs := [_, _]) rfl rfl)<|ao ai (aB hT rfl rfl)<|aG hT rfl<|ag<|av hP<|au hT rfl<|au hT rfl<|ab (ah (dp _ _ lz lz)) ?_
 refine aG hT rfl<|ag<|av hP<|bA rfl rfl ?_
 refine ak rfl<|ag<|ae hP<|ab (a7 rfl rfl)<|ag<|an<|aS rfl (by decide) ?_
 refine aq<|an<|aA<|ae hP<|cW ?_
 refine ab (a8 hT rfl rfl rfl (cs := [_, _]) rfl rfl)<|ao ai (aB hT rfl rfl)<|aG hT rfl<|ag<|av hP<|au hT rfl<|au hT rfl<|ab (ah (dp _ _ lz lz)) ?_
 refine aG hT rfl<|ag<|av hP<|bA rfl rfl ?_
 refine ak rfl<|ag<|ae hP<|ab (a7 rfl rfl)<|ag<|an<|aP rfl (by decide) ?_
 refine a6<|ae hP<|au hT rfl<|aG hT rfl<|ag<|am<|E2 hT rfl rfl rfl rfl rfl rfl rfl ?_
 exact Sub.I (by rw [Int.one_mul])
theorem mP (x : Int) (hx : L 40 x) :
  aF Tryz.prog 126 [I x] (B (fk x)) := by
 have ix : LB x 40 := ⟨hx⟩
 refine aK Tryz.func126 rfl rfl rfl rfl ?_
 refine ae hP<|ao ai (aN rfl rfl)<|aj rfl<|ag<|ae hP<|au hT rfl<|ab (ah (yI _ lz)) ?_
 refine ab (aw (rfl : _ = AV.t _))<|ab (ay rfl (v := .a _) rfl)<|ab (ay rfl (v := .a _) rfl)<|ab (ay rfl (v := .c _) rfl)<|ao ai (aB hT rfl rfl)<|ao ai (aB hT rfl rfl)<|aG hT rfl<|aG hT rfl<|aj rfl<|ag<|ae hP<|ak rfl<|ab (bo rfl rfl)<|ak rfl ?_
 refine aZ (t := 14) rfl (fun hg1 => ?_) (fun hg1 => ?_)
 ·have hg1_ := bT hg1
  refine aC hg1 (aI hT rfl rfl rfl rfl (cs := [_, _]) rfl rfl) ?_
  refine aC hg1 (ah (cE _)) ?_
  refine aC hg1 (bo rfl rfl) ?_
  refine ab (aM rfl hg1 (rfl : _ = AV.p (.c _)))<|aj rfl<|ag<|am<|E1 rfl rfl ?_
  exact aY (yH hg1)
 have hg1_ := bF hg1
 iterate 3 refine aW hg1 ?_
 refine ab (aL rfl hg1 (rfl : _ = AV.p (.c _)))<|aj rfl<|ag<|am<|E1 rfl rfl ?_
 exact aY (Cz hg1)
theorem fq (a b c : Int) (ha : L 36 a) (hb : L 36 b) (hc : L 36 c) :
  aF Tryz.prog 40 [FA a b c] (I (dsc a b c)) := by
 have ia : LB a 36 := ⟨ha⟩
 have ib : LB b 36 := ⟨hb⟩
 have ic : LB c 36 := ⟨hc⟩
 refine aK Tryz.func40 rfl rfl rfl rfl ?_
 refine ae hP<|ao ai (aN rfl rfl)<|ao ai (aB hT rfl rfl)<|ag<|ae hP<|aJ hT rfl<|au hT rfl<|aJ hT rfl<|au hT rfl<|ab (bd hT rfl rfl rfl (es := [_, _, _, _]) rfl rfl rfl)<|ab (ah (cH _ _ lz lz)) ?_
 refine ab (ah (dO _ (by first | assumption | decide))) ?_
 refine aJ hT rfl<|au hT rfl<|aJ hT rfl<|au hT rfl<|ab (bd hT rfl rfl rfl (es := [_, _, _, _, _, _]) rfl rfl rfl)<|ab (ah (e9 _ _ _ lz lz lz)) ?_
 refine ab (ah (iO _ _ lz lz)) ?_
 refine aG hT rfl<|ag<|am<|E2 hT rfl rfl rfl rfl rfl rfl rfl ?_
 exact .refl _
theorem lD (a b c : Int) (ha : L 34 a) (hb : L 34 b) (hc : L 34 c) :
  aF Tryz.prog 111 [FA a b c] (Z (ck a b c)) := by
 have ia : LB a 34 := ⟨ha⟩
 have ib : LB b 34 := ⟨hb⟩
 have ic : LB c 34 := ⟨hc⟩
 have cDs := fq a b c lz lz lz
 have ids : LB (dsc a b c) 40 := ⟨lz⟩
 generalize hδ : dsc a b c = δ at cDs ids
 refine aK Tryz.func111 rfl rfl rfl rfl ?_
 refine ae hP<|ao ai (aN rfl rfl)<|aj rfl<|ag<|an<|ae hP<|aJ hT rfl<|au hT rfl<|aJ hT rfl<|au hT rfl<|aJ hT rfl<|au hT rfl<|ab (cY hT rfl rfl rfl (es := [_, _, _, _, _, _]) rfl)<|ak rfl<|ag<|aA<|dH 4 ?_
 refine ae hP<|ab (a7 rfl rfl)<|ag<|an<|aS rfl (by decide) ?_
 refine aq<|an<|aA<|ae hP<|ab (hZ hT rfl rfl rfl rfl rfl rfl (by decide) (es := [_, _]) rfl rfl) ?_
 refine ao ai (aB hT rfl rfl)<|aG hT rfl<|ag<|ae hP<|au hT rfl<|ab (ah (kX _ lz)) ?_
 refine ab (bt rfl)<|ag<|aP rfl rfl<|aq<|av hP<|bA rfl rfl ?_
 refine ak rfl<|ag<|ae hP<|ab (a7 rfl rfl)<|ag<|an<|aS rfl (by decide) ?_
 refine aq<|an<|aA<|ae hP<|ab (hZ hT rfl rfl rfl rfl rfl rfl (by decide) (es := [_, _]) rfl rfl) ?_
 refine ao ai (aB hT rfl rfl)<|aG hT rfl<|ag<|ae hP<|au hT rfl<|ab (ah (kX _ lz)) ?_
 refine ab (bt rfl)<|ag<|aP rfl rfl<|aq<|av hP<|bA rfl rfl ?_
 refine ak rfl<|ag<|ae hP<|ab (a7 rfl rfl)<|ag<|an<|aS rfl (by decide) ?_
 refine aq<|an<|aA<|ae hP<|ab (hZ hT rfl rfl rfl rfl rfl rfl (by decide) (es := [_, _]) rfl rfl) ?_
 refine ao ai (aB hT rfl rfl)<|aG hT rfl<|ag<|ae hP<|au hT rfl<|ab (ah (kX _ lz)) ?_
 refine ab (bt rfl)<|ag<|aP rfl rfl<|aq<|av hP<|bA rfl rfl ?_
 refine ak rfl<|ag<|ae hP<|ab (a7 rfl rfl)<|ag<|an<|aP rfl (by decide) ?_
 refine a6<|dj (t := stL [(1, .loc 1 0)] [(1, ⟨false, 1, 46, FL a b c⟩)]) (aE ⟨.refl _, trivial⟩ ⟨rfl, trivial⟩) ?_
 refine ae hP<|bD hT rfl rfl rfl rfl rfl rfl<|ab (ah cDs) ?_
 refine ao ai (aB hT rfl rfl)<|aG hT rfl<|ag<|an<|aA<|ae hP<|au hT rfl<|ab (ah (mP _ lz)) ?_
 refine aj rfl<|ag ?_
 refine az rfl (fun hb1 => ?_) (fun hb1 => ?_)
 ·refine ae hP<|aj rfl<|ag<|am<|E1 rfl rfl ?_
  exact aO (H4 (by rw [hδ]; exact hb1))
 refine ae hP<|au hT rfl<|ab (ah (cE _)) ?_
 refine ab (a7 rfl rfl)<|ak rfl ?_
 refine aZ (t := 29) rfl (fun hg2 => ?_) (fun hg2 => ?_)
 ·have hg2_ := dT0 hg2
  refine aC hg2 (aR hT rfl rfl rfl rfl rfl rfl) ?_
  refine aC hg2 (aI hT rfl rfl rfl rfl (cs := [_, _]) rfl rfl) ?_
  refine aC hg2 (ah (cE _)) ?_
  refine aC hg2 (jh rfl rfl) ?_
  refine ab (aM rfl hg2 (rfl : _ = AV.p (.c _)))<|aj rfl<|ag ?_
  refine az rfl (fun hb3 => ?_) (fun hb3 => ?_)
  ·have hb3_ := dT0 hb3
   refine ae hP<|aj rfl<|ag<|am<|E1 rfl rfl ?_
   exact aO (FX (by rw [hδ]; exact hb1) (by rw [hδ]; exact hg2_) hb3_)
  have hb3_ := dF0 hb3
  refine aq<|ae hP<|aj rfl<|ag<|am<|E1 rfl rfl ?_
  exact aO (H5 (by rw [hδ]; exact hb1) (by rw [hδ]; exact hg2_) hb3_)
 have hg2_ := dF0 hg2
 iterate 4 refine aW hg2 ?_
 refine ab (aL rfl hg2 (rfl : _ = AV.p (.c _)))<|aj rfl<|ag<|aP rfl rfl<|aq<|ae hP<|aj rfl<|ag<|am<|E1 rfl rfl ?_
 exact aO (FW (by rw [hδ]; exact hb1) (by rw [hδ]; exact hg2_))
theorem gO (a b c : Int) (ha : L 44 a) (hb : L 44 b) (hc : L 44 c) :
  aF Tryz.prog 53 [FA a b c] (B (prim a b c)) := by
 have ia : LB a 44 := ⟨ha⟩
 have ib : LB b 44 := ⟨hb⟩
 have ic : LB c 44 := ⟨hc⟩
 have ig := Gu hb hc
 refine aK Tryz.func53 rfl rfl rfl rfl ?_
 refine ae hP<|ao ai (aN rfl rfl)<|aj rfl<|ag<|ae hP<|aJ hT rfl<|au hT rfl<|aJ hT rfl<|au hT rfl<|aJ hT rfl<|au hT rfl<|ab (ah (lM _ _ lz lz)) ?_
 refine ab (ah (lM _ _ lz lz)) ?_
 refine ab (ah (dO _ (by first | assumption | decide))) ?_
 refine ab (ah (c7 _ _)) ?_
 refine ab (bo rfl rfl)<|aj rfl<|ag<|am<|E1 rfl rfl ?_
 exact aY (yd _ _ _)
theorem nF (a b c x y : Int) (ha : L 36 a) (hb : L 36 b) (hc : L 36 c) (hx : L 36 x) (hy : L 36 y) :
  aF Tryz.prog 44 [FA a b c, I x, I y] (I (vl a b c x y)) := by
 have ia : LB a 36 := ⟨ha⟩
 have ib : LB b 36 := ⟨hb⟩
 have ic : LB c 36 := ⟨hc⟩
 have ix : LB x 36 := ⟨hx⟩
 have iy : LB y 36 := ⟨hy⟩
 refine aK Tryz.func44 rfl rfl rfl rfl ?_
 refine ae hP<|ao ai (aN rfl rfl)<|ao ai (aN rfl rfl)<|ao ai (aN rfl rfl)<|ao ai (aB hT rfl rfl)<|ag<|ae hP<|aJ hT rfl<|au hT rfl<|au hT rfl<|au hT rfl<|ab (bd hT rfl rfl rfl (es := [_, _, _, _, _, _]) rfl rfl rfl)<|ab (ah (e9 _ _ _ lz lz lz)) ?_
 refine aJ hT rfl<|au hT rfl<|au hT rfl<|au hT rfl<|ab (bd hT rfl rfl rfl (es := [_, _, _, _, _, _]) rfl rfl rfl)<|ab (ah (e9 _ _ _ lz lz lz)) ?_
 refine ab (ah (dA _ _ lz lz)) ?_
 refine aJ hT rfl<|au hT rfl<|au hT rfl<|au hT rfl<|ab (bd hT rfl rfl rfl (es := [_, _, _, _, _, _]) rfl rfl rfl)<|ab (ah (e9 _ _ _ lz lz lz)) ?_
 refine ab (ah (dA _ _ lz lz)) ?_
 refine aG hT rfl<|ag<|am<|E2 hT rfl rfl rfl rfl rfl rfl rfl ?_
 exact .refl _
theorem BU (a b c p q r s : Int) (ha : L 34 a) (hb : L 34 b) (hc : L 34 c) (hp : L 34 p) (hq : L 34 q) (hr : L 34 r) (hs : L 34 s) :
  aF Tryz.prog 46 [FA a b c, MA p q r s] (FA (vl a b c p r) (apB a b c p q r s) (vl a b c q s)) := by
 have ia : LB a 34 := ⟨ha⟩
 have ib : LB b 34 := ⟨hb⟩
 have ic : LB c 34 := ⟨hc⟩
 have ip : LB p 34 := ⟨hp⟩
 have iq : LB q 34 := ⟨hq⟩
 have ir : LB r 34 := ⟨hr⟩
 have is : LB s 34 := ⟨hs⟩
 refine aK Tryz.func46 rfl rfl rfl rfl ?_
 refine ae hP<|ao ai (aN rfl rfl)<|ao ai (aN rfl rfl)<|ao ai (aB hT rfl rfl)<|ag<|ae hP<|aJ hT rfl<|au hT rfl<|aJ hT rfl<|au hT rfl<|ab (bd hT rfl rfl rfl (es := [_, _, _, _]) rfl rfl rfl)<|ab (ah (cH _ _ lz lz)) ?_
 refine aJ hT rfl<|au hT rfl<|aJ hT rfl<|au hT rfl<|ab (bd hT rfl rfl rfl (es := [_, _, _, _]) rfl rfl rfl)<|ab (ah (cH _ _ lz lz)) ?_
 refine ab (ah (dA _ _ lz lz)) ?_
 refine ao ai (aB hT rfl rfl)<|aG hT rfl<|ag<|ae hP<|aJ hT rfl<|au hT rfl<|aJ hT rfl<|au hT rfl<|aJ hT rfl<|au hT rfl<|ab (bd hT rfl rfl rfl (es := [_, _, _, _, _, _]) rfl rfl rfl)<|ab (ah (e9 _ _ _ lz lz lz)) ?_
 refine aJ hT rfl<|au hT rfl<|aJ hT rfl<|au hT rfl<|aJ hT rfl<|au hT rfl<|ab (bd hT rfl rfl rfl (es := [_, _, _, _, _, _]) rfl rfl rfl)<|ab (ah (e9 _ _ _ lz lz lz)) ?_
 refine ab (ah (dA _ _ lz lz)) ?_
 refine ao ai (aB hT rfl rfl)<|aG hT rfl<|ag<|ae hP<|bD hT rfl rfl rfl rfl rfl rfl<|aJ hT rfl<|au hT rfl<|aJ hT rfl<|au hT rfl<|ab (ah (nF _ _ _ _ _ lz lz lz lz lz)) ?_
 refine ab (ah (dO _ (by first | assumption | decide))) ?_
 refine au hT rfl<|ab (bd hT rfl rfl rfl (es := [_, _, _, _]) rfl rfl rfl)<|ab (ah (cH _ _ lz lz)) ?_
 refine aJ hT rfl<|au hT rfl<|au hT rfl<|ab (bd hT rfl rfl rfl (es := [_, _, _, _]) rfl rfl rfl)<|ab (ah (cH _ _ lz lz)) ?_
 refine ab (ah (dA _ _ lz lz)) ?_
 refine bD hT rfl rfl rfl rfl rfl rfl<|aJ hT rfl<|au hT rfl<|aJ hT rfl<|au hT rfl<|ab (ah (nF _ _ _ _ _ lz lz lz lz lz)) ?_
 refine ab (aV hT rfl rfl rfl (es := [_, _, _, _, _, _]) rfl)<|aG hT rfl<|ag<|am ?_
 refine b8 rfl (.inr rfl) (aT hT rfl rfl rfl rfl (cs := [_, _, _, _, _, _]) rfl rfl) ?_ br
 exact .refl _
theorem vM (p q r s : Int) :
  aF Tryz.prog 209 [MA p q r s] (MA p q r s) := by
 refine aK Tryz.func209 rfl rfl rfl rfl ?_
 refine ae hP<|ao ai (aN rfl rfl)<|ao ai (aB hT rfl rfl)<|ag<|ae hP<|aJ hT rfl<|au hT rfl<|aJ hT rfl<|au hT rfl<|ab (cY hT rfl rfl rfl (es := [_, _, _, _]) rfl)<|aJ hT rfl<|au hT rfl<|aJ hT rfl<|au hT rfl<|ab (cY hT rfl rfl rfl (es := [_, _, _, _]) rfl)<|ab (cY hT rfl rfl rfl (es := [_, _, _, _, _, _, _, _]) rfl)<|aG hT rfl<|ag<|am ?_
 refine b8 rfl (.inr rfl) (aT hT rfl rfl rfl rfl (cs := [_, _, _, _, _, _, _, _]) rfl rfl) ?_ br
 exact .refl _
theorem s0 (p q r s t u v w : Int) (hp : L 38 p) (hq : L 38 q) (hr : L 38 r) (hs : L 38 s) (ht : L 38 t) (hu : L 38 u) (hv : L 38 v) (hw : L 38 w) :
  aF Tryz.prog 172 [MA p q r s, MA t u v w] (MA (p * t + q * v) (p * u + q * w) (r * t + s * v) (r * u + s * w)) := by
 have ip : LB p 38 := ⟨hp⟩
 have iq : LB q 38 := ⟨hq⟩
 have ir : LB r 38 := ⟨hr⟩
 have is : LB s 38 := ⟨hs⟩
 have it : LB t 38 := ⟨ht⟩
 have iu : LB u 38 := ⟨hu⟩
 have iv : LB v 38 := ⟨hv⟩
 have iw : LB w 38 := ⟨hw⟩
 refine aK Tryz.func172 rfl rfl rfl rfl ?_
 refine ae hP<|ao ai (aN rfl rfl)<|ao ai (aN rfl rfl)<|ao ai (aB hT rfl rfl)<|ag<|ae hP<|ab (aI hT rfl rfl rfl rfl (cs := [_, _, _, _, _, _, _, _]) rfl rfl)<|ab (ah (vM _ _ _ _)) ?_
 refine ab (aI hT rfl rfl rfl rfl (cs := [_, _, _, _, _, _, _, _]) rfl rfl)<|ab (ah (vM _ _ _ _)) ?_
 refine ao ai (aB hT rfl rfl)<|ao ai (aB hT rfl rfl)<|aG hT rfl<|aG hT rfl<|ag<|ae hP<|ao ai (aB hT rfl rfl)<|ag<|an<|ae hP<|ak rfl<|ag<|aA<|dH 3 ?_
 refine ae hP<|ab (a7 rfl rfl)<|ag<|an<|aS rfl (by decide) ?_
 refine aq<|an<|aA<|ae hP<|ak rfl<|aj rfl<|ag<|ae hP<|ak rfl<|ag<|aA<|dH 3 ?_
 refine ae hP<|ab (a7 rfl rfl)<|ag<|an<|aS rfl (by decide) ?_
 refine aq<|an<|aA<|ae hP<|ak rfl<|aj rfl<|ag<|av hP<|ak rfl<|ak rfl<|ak rfl<|ab (aQ hT rfl rfl rfl rfl rfl (by first | decide | omega)) ?_
 refine ab (aQ hT rfl rfl rfl rfl rfl (by first | decide | omega)) ?_
 refine au hT rfl<|ak rfl<|ab (aQ hT rfl rfl rfl rfl rfl (by first | decide | omega)) ?_
 refine ab (aQ hT rfl rfl rfl rfl rfl (by first | decide | omega)) ?_
 refine au hT rfl<|ab (bd hT rfl rfl rfl (es := [_, _, _, _]) rfl rfl rfl)<|ab (ah (cH _ _ lz lz)) ?_
 refine ak rfl<|ab (aQ hT rfl rfl rfl rfl rfl (by first | decide | omega)) ?_
 refine ab (aQ hT rfl rfl rfl rfl rfl (by first | decide | omega)) ?_
 refine au hT rfl<|ak rfl<|ab (aQ hT rfl rfl rfl rfl rfl (by first | decide | omega)) ?_
 refine ab (aQ hT rfl rfl rfl rfl rfl (by first | decide | omega)) ?_
 refine au hT rfl<|ab (bd hT rfl rfl rfl (es := [_, _, _, _]) rfl rfl rfl)<|ab (ah (cH _ _ lz lz)) ?_
 refine ab (ah (dA _ _ lz lz)) ?_
 refine ab (aQ hT rfl rfl rfl rfl rfl (by first | decide | omega)) ?_
 refine ab (aQ hT rfl rfl rfl rfl rfl (by first | decide | omega)) ?_
 refine aG hT rfl<|ag<|av hP<|bA rfl rfl ?_
 refine ak rfl<|ag<|ae hP<|ab (a7 rfl rfl)<|ag<|an<|aS rfl (by decide) ?_
 refine aq<|an<|aA<|ae hP<|ak rfl<|aj rfl<|ag<|av hP<|ak rfl<|ak rfl<|ak rfl<|ab (aQ hT rfl rfl rfl rfl rfl (by first | decide | omega)) ?_
 refine ab (aQ hT rfl rfl rfl rfl rfl (by first | decide | omega)) ?_
 refine au hT rfl<|ak rfl<|ab (aQ hT rfl rfl rfl rfl rfl (by first | decide | omega)) ?_
 refine ab (aQ hT rfl rfl rfl rfl rfl (by first | decide | omega)) ?_
 refine au hT rfl<|ab (bd hT rfl rfl rfl (es := [_, _, _, _]) rfl rfl rfl)<|ab (ah (cH _ _ lz lz)) ?_
 refine ak rfl<|ab (aQ hT rfl rfl rfl rfl rfl (by first | decide | omega)) ?_
 refine ab (aQ hT rfl rfl rfl rfl rfl (by first | decide | omega)) ?_
 refine au hT rfl<|ak rfl<|ab (aQ hT rfl rfl rfl rfl rfl (by first | decide | omega)) ?_
 refine ab (aQ hT rfl rfl rfl rfl rfl (by first | decide | omega)) ?_
 refine au hT rfl<|ab (bd hT rfl rfl rfl (es := [_, _, _, _]) rfl rfl rfl)<|ab (ah (cH _ _ lz lz)) ?_
 refine ab (ah (dA _ _ lz lz)) ?_
 refine ab (aQ hT rfl rfl rfl rfl rfl (by first | decide | omega)) ?_
 refine ab (aQ hT rfl rfl rfl rfl rfl (by first | decide | omega)) ?_
 refine aG hT rfl<|ag<|av hP<|bA rfl rfl ?_
 refine ak rfl<|ag<|ae hP<|ab (a7 rfl rfl)<|ag<|an<|aP rfl (by decide) ?_
 refine a6<|av hP<|bA rfl rfl ?_
 refine ak rfl<|ag<|ae hP<|ab (a7 rfl rfl)<|ag<|an<|aS rfl (by decide) ?_
 refine aq<|an<|aA<|ae hP<|ak rfl<|aj rfl<|ag<|ae hP<|ak rfl<|ag<|aA<|dH 3 ?_
 refine ae hP<|ab (a7 rfl rfl)<|ag<|an<|aS rfl (by decide) ?_
 refine aq<|an<|aA<|ae hP<|ak rfl<|aj rfl<|ag<|av hP<|ak rfl<|ak rfl<|ak rfl<|ab (aQ hT rfl rfl rfl rfl rfl (by first | decide | omega)) ?_
 refine ab (aQ hT rfl rfl rfl rfl rfl (by first | decide | omega)) ?_
 refine au hT rfl<|ak rfl<|ab (aQ hT rfl rfl rfl rfl rfl (by first | decide | omega)) ?_
 refine ab (aQ hT rfl rfl rfl rfl rfl (by first | decide | omega)) ?_
 refine au hT rfl<|ab (bd hT rfl rfl rfl (es := [_, _, _, _]) rfl rfl rfl)<|ab (ah (cH _ _ lz lz)) ?_
 refine ak rfl<|ab (aQ hT rfl rfl rfl rfl rfl (by first | decide | omega)) ?_
 refine ab (aQ hT rfl rfl rfl rfl rfl (by first | decide | omega)) ?_
 refine au hT rfl<|ak rfl<|ab (aQ hT rfl rfl rfl rfl rfl (by first | decide | omega)) ?_
 refine ab (aQ hT rfl rfl rfl rfl rfl (by first | decide | omega)) ?_
 refine au hT rfl<|ab (bd hT rfl rfl rfl (es := [_, _, _, _]) rfl rfl rfl)<|ab (ah (cH _ _ lz lz)) ?_
 refine ab (ah (dA _ _ lz lz)) ?_
 refine ab (aQ hT rfl rfl rfl rfl rfl (by first | decide | omega)) ?_
 refine ab (aQ hT rfl rfl rfl rfl rfl (by first | decide | omega)) ?_
 refine aG hT rfl<|ag<|av hP<|bA rfl rfl ?_
 refine ak rfl<|ag<|ae hP<|ab (a7 rfl rfl)<|ag<|an<|aS rfl (by decide) ?_
 refine aq<|an<|aA<|ae hP<|ak rfl<|aj rfl<|ag<|av hP<|ak rfl<|ak rfl<|ak rfl<|ab (aQ hT rfl rfl rfl rfl rfl (by first | decide | omega)) ?_
 refine ab (aQ hT rfl rfl rfl rfl rfl (by first | decide | omega)) ?_
 refine au hT rfl<|ak rfl<|ab (aQ hT rfl rfl rfl rfl rfl (by first | decide | omega)) ?_
 refine ab (aQ hT rfl rfl rfl rfl rfl (by first | decide | omega)) ?_
 refine au hT rfl<|ab (bd hT rfl rfl rfl (es := [_, _, _, _]) rfl rfl rfl)<|ab (ah (cH _ _ lz lz)) ?_
 refine ak rfl<|ab (aQ hT rfl rfl rfl rfl rfl (by first | decide | omega)) ?_
 refine ab (aQ hT rfl rfl rfl rfl rfl (by first | decide | omega)) ?_
 refine au hT rfl<|ak rfl<|ab (aQ hT rfl rfl rfl rfl rfl (by first | decide | omega)) ?_
 refine ab (aQ hT rfl rfl rfl rfl rfl (by first | decide | omega)) ?_
 refine au hT rfl<|ab (bd hT rfl rfl rfl (es := [_, _, _, _]) rfl rfl rfl)<|ab (ah (cH _ _ lz lz)) ?_
 refine ab (ah (dA _ _ lz lz)) ?_
 refine ab (aQ hT rfl rfl rfl rfl rfl (by first | decide | omega)) ?_
 refine ab (aQ hT rfl rfl rfl rfl rfl (by first | decide | omega)) ?_
 refine aG hT rfl<|ag<|av hP<|bA rfl rfl ?_
 refine ak rfl<|ag<|ae hP<|ab (a7 rfl rfl)<|ag<|an<|aP rfl (by decide) ?_
 refine a6<|av hP<|bA rfl rfl ?_
 refine ak rfl<|ag<|ae hP<|ab (a7 rfl rfl)<|ag<|an<|aP rfl (by decide) ?_
 refine a6<|ae hP<|ab (aQ hT rfl rfl rfl rfl rfl (by first | decide | omega)) ?_
 refine ab (aQ hT rfl rfl rfl rfl rfl (by first | decide | omega)) ?_
 refine au hT rfl<|ab (aQ hT rfl rfl rfl rfl rfl (by first | decide | omega)) ?_
 refine ab (aQ hT rfl rfl rfl rfl rfl (by first | decide | omega)) ?_
 refine au hT rfl<|ab (aQ hT rfl rfl rfl rfl rfl (by first | decide | omega)) ?_
 refine ab (aQ hT rfl rfl rfl rfl rfl (by first | decide | omega)) ?_
 refine au hT rfl<|ab (aQ hT rfl rfl rfl rfl rfl (by first | decide | omega)) ?_
 refine ab (aQ hT rfl rfl rfl rfl rfl (by first | decide | omega)) ?_
 refine au hT rfl<|ab (aV hT rfl rfl rfl (es := [_, _, _, _, _, _, _, _]) rfl)<|aG hT rfl<|ag<|am ?_
 refine b8 rfl (.inr rfl) (aT hT rfl rfl rfl rfl (cs := [_, _, _, _, _, _, _, _]) rfl rfl) ?_ br
 exact .refl _
theorem oB (a b c : Int) (ha : L 34 a) (hb : L 34 b) (hc : L 34 c) :
  aF Tryz.prog 112 [FA a b c] (B (rdd a b c)) := by
 have ia : LB a 34 := ⟨ha⟩
 have ib : LB b 34 := ⟨hb⟩
 have ic : LB c 34 := ⟨hc⟩
 refine aK Tryz.func112 rfl rfl rfl rfl ?_
 refine ae hP<|ao ai (aN rfl rfl)<|aj rfl<|ag<|an<|ae hP<|bD hT rfl rfl rfl rfl rfl rfl<|ab (ah (lD _ _ _ lz lz lz)) ?_
 refine ab (bl rfl rfl)<|ak rfl ?_
 refine aZ (t := 8) rfl (fun hg1 => ?_) (fun hg1 => ?_)
 ·have hg1_ := cn hg1
  iterate 4 refine aW hg1 ?_
  refine ab (aM rfl hg1 (rfl : _ = AV.p (.c _)))<|ag<|aS rfl rfl<|ae hP<|aj rfl<|ag<|am<|E1 rfl rfl ?_
  exact aY (Hj hg1_)
 have hg1_ := bY hg1
 refine aC hg1 (aI hT rfl rfl rfl rfl (cs := [_, _, _, _, _, _]) rfl rfl) ?_
 refine aC hg1 (ah (fq _ _ _ lz lz lz)) ?_
 refine aC hg1 (ah (cE _)) ?_
 refine aC hg1 (bU rfl rfl) ?_
 refine ab (aL rfl hg1 (rfl : _ = AV.p (.c _)))<|ag ?_
 refine az rfl (fun hb2 => ?_) (fun hb2 => ?_)
 ·have hb2_ := dT0 hb2
  refine ae hP<|aj rfl<|ag<|am<|E1 rfl rfl ?_
  exact aY (Hi hb2_)
 have hb2_ := dF0 hb2
 refine aq<|ae hP<|aJ hT rfl<|au hT rfl<|ab (ah (lN _)) ?_
 refine aJ hT rfl<|au hT rfl<|ab (ah (c7 _ _)) ?_
 refine aJ hT rfl<|au hT rfl<|aJ hT rfl<|au hT rfl<|ab (ah (c7 _ _)) ?_
 refine aj rfl<|aj rfl<|ag<|ae hP<|ak rfl<|ab (jh rfl rfl)<|ak rfl ?_
 refine aZ (t := 27) rfl (fun hg3 => ?_) (fun hg3 => ?_)
 ·have hg3_ := dT0 hg3
  refine aC hg3 (aw (rfl : _ = AV.p (.c _))) ?_
  refine aC hg3 (jh rfl rfl) ?_
  refine ab (aM rfl hg3 (rfl : _ = AV.p (.c _)))<|ak rfl ?_
  refine aZ (t := 31) rfl (fun hg4 => ?_) (fun hg4 => ?_)
  ·have hg4_ := dT0 hg4
   refine aC hg4 (aw (rfl : _ = AV.p (.c _))) ?_
   refine aC hg4 (a7 rfl rfl) ?_
   refine aC hg4 (aw (rfl : _ = AV.p (.c _))) ?_
   refine aZ (t := 34) rfl (fun hg5 => ?_) (fun hg5 => ?_)
   ·have hg5_ := dT0 hg5
    refine aC hg5 (aw (rfl : _ = AV.p (.c _))) ?_
    refine aC hg5 (a7 rfl rfl) ?_
    refine aC hg4 (aM rfl hg5 (rfl : _ = AV.p (.c _))) ?_
    refine aC hg4 (aw (rfl : _ = AV.p (.c _))) ?_
    refine aZ (t := 38) rfl (fun hg6 => ?_) (fun hg6 => ?_)
    ·have hg6_ := dT0 hg6
     iterate 4 refine aW hg6 ?_
     refine aC hg4 (aM rfl hg6 (rfl : _ = AV.p (.c _))) ?_
     refine ab (aM rfl hg4 (rfl : _ = AV.p (.c _)))<|aj rfl<|ag<|am<|E1 rfl rfl ?_
     exact aY (Hh hg1_ hb2_ hg5_ hg6_)
    have hg6_ := dF0 hg6
    refine aC hg6 (aR hT rfl rfl rfl rfl rfl rfl) ?_
    refine aC hg6 (aI hT rfl rfl rfl rfl (cs := [_, _]) rfl rfl) ?_
    refine aC hg6 (ah (cE _)) ?_
    refine aC hg6 (dB rfl rfl) ?_
    refine aC hg4 (aL rfl hg6 (rfl : _ = AV.p (.c _))) ?_
    refine ab (aM rfl hg4 (rfl : _ = AV.p (.c _)))<|aj rfl<|ag<|am<|E1 rfl rfl ?_
    exact aY (Aa hg1_ hb2_ hg3_ hg4_ (fun h => hg6_ h.2))
   have hg5_ := dF0 hg5
   refine aW hg5 ?_
   refine aW hg5 ?_
   refine aC hg4 (aL rfl hg5 (rfl : _ = AV.p (.c _))) ?_
   refine aC hg4 (aw (rfl : _ = AV.p (.c _))) ?_
   refine aC rfl (aR hT rfl rfl rfl rfl rfl rfl) ?_
   refine aC rfl (aI hT rfl rfl rfl rfl (cs := [_, _]) rfl rfl) ?_
   refine aC rfl (ah (cE _)) ?_
   refine aC rfl (dB rfl rfl) ?_
   refine aC hg4 (aL rfl rfl (rfl : _ = AV.p (.c _))) ?_
   refine ab (aM rfl hg4 (rfl : _ = AV.p (.c _)))<|aj rfl<|ag<|am<|E1 rfl rfl ?_
   exact aY (Aa hg1_ hb2_ hg3_ hg4_ (fun h => hg5_ h.1))
  have hg4_ := dF0 hg4
  iterate 3 refine aW hg4 ?_
  refine eR ?_
  refine eR ?_
  refine aW hg4 ?_
  refine aW hg4 ?_
  iterate 4 refine eR ?_
  refine aW hg4 ?_
  refine ab (aL rfl hg4 (rfl : _ = AV.p (.c _)))<|aj rfl<|ag<|am<|E1 rfl rfl ?_
  exact aY (Hg hg4_)
 have hg3_ := dF0 hg3
 refine aW hg3 ?_
 refine aW hg3 ?_
 refine ab (aL rfl hg3 (rfl : _ = AV.p (.c _)))<|ak rfl<|aW rfl ?_
 refine aW rfl ?_
 refine aW rfl ?_
 refine eR ?_
 refine eR ?_
 refine aW rfl ?_
 refine aW rfl ?_
 iterate 4 refine eR ?_
 refine aW rfl ?_
 refine ab (aL rfl rfl (rfl : _ = AV.p (.c _)))<|aj rfl<|ag<|am<|E1 rfl rfl ?_
 exact aY (Hf hg3_)
end
end Go.Proofs.YthaiejfjnllglaaGreatDoor

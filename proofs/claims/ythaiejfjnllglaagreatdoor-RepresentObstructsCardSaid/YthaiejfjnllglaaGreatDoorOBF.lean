import Derived.Test.YthaiejfjnllglaaGreatDoorOBA
import Derived.Test.YthaiejfjnllglaaGreatDoorOBB
import Derived.Test.YthaiejfjnllglaaGreatDoorProg
import Derived.KernelRfl
set_option maxRecDepth 100000
set_option maxHeartbeats 2000000
namespace Go.Proofs.YthaiejfjnllglaaGreatDoor
section
open Go Go.AM
def ty2 : TyI := ⟨.int .i64, 1, 8, [.v (.int .i64 0)]⟩
theorem HA : TyOK Tryz.prog 2 ty2 := TyOK.mk' (z := .int .i64 0) (by kernel_rfl) Tryz.underlying2 rfl rfl ⟨z_v _ rfl, trivial⟩
def ty3 : TyI := ⟨.int .i64, 1, 8, [.v (.int .i64 0)]⟩
theorem Hw : TyOK Tryz.prog 3 ty3 := TyOK.mk' (z := .int .i64 0) (by kernel_rfl) Tryz.underlying3 rfl rfl ⟨z_v _ rfl, trivial⟩
def ty4 : TyI := ⟨.bool, 1, 1, [.v (.bool false)]⟩
theorem Hq : TyOK Tryz.prog 4 ty4 := TyOK.mk' (z := .bool false) (by kernel_rfl) Tryz.underlying4 trivial rfl ⟨z_v _ rfl, trivial⟩
def ty5 : TyI := ⟨.int .u8, 1, 1, [.v (.int .u8 0)]⟩
theorem Hi : TyOK Tryz.prog 5 ty5 := TyOK.mk' (z := .int .u8 0) (by kernel_rfl) Tryz.underlying5 rfl rfl ⟨z_v _ rfl, trivial⟩
def ty9 : TyI := ⟨.str, 1, 16, [.v (.string ⟨#[]⟩)]⟩
theorem G7 : TyOK Tryz.prog 9 ty9 := TyOK.mk' (z := .string ⟨#[]⟩) (by kernel_rfl) Tryz.underlying9 trivial rfl ⟨z_v _ rfl, trivial⟩
def HK : TyI := ⟨.int .u64, 1, 8, [.v (.int .u64 0)]⟩
theorem Eu : TyOK Tryz.prog 12 HK := TyOK.mk' (z := .int .u64 0) (by kernel_rfl) Tryz.underlying12 rfl rfl ⟨z_v _ rfl, trivial⟩
def HJ : TyI := ⟨.int .i32, 1, 4, [.v (.int .i32 0)]⟩
theorem Et : TyOK Tryz.prog 21 HJ := TyOK.mk' (z := .int .i32 0) (by kernel_rfl) Tryz.underlying21 rfl rfl ⟨z_v _ rfl, trivial⟩
def HI : TyI := ⟨.int .u16, 1, 2, [.v (.int .u16 0)]⟩
theorem Es : TyOK Tryz.prog 22 HI := TyOK.mk' (z := .int .u16 0) (by kernel_rfl) Tryz.underlying22 rfl rfl ⟨z_v _ rfl, trivial⟩
def HH : TyI := ⟨.ar 4 22, 4, 8, [.v (.int .u16 0), .v (.int .u16 0), .v (.int .u16 0), .v (.int .u16 0)]⟩
theorem Er : TyOK Tryz.prog 23 HH := TyOK.mk' (z := .agg #[.int .u16 0, .int .u16 0, .int .u16 0, .int .u16 0]) (by kernel_rfl) Tryz.underlying23 ⟨rfl, rfl⟩ rfl ⟨z_v _ rfl, z_v _ rfl, z_v _ rfl, z_v _ rfl, trivial⟩
def HG : TyI := ⟨.ar 4 5, 4, 4, [.v (.int .u8 0), .v (.int .u8 0), .v (.int .u8 0), .v (.int .u8 0)]⟩
theorem Ep : TyOK Tryz.prog 24 HG := TyOK.mk' (z := .agg #[.int .u8 0, .int .u8 0, .int .u8 0, .int .u8 0]) (by kernel_rfl) Tryz.underlying24 ⟨rfl, rfl⟩ rfl ⟨z_v _ rfl, z_v _ rfl, z_v _ rfl, z_v _ rfl, trivial⟩
def HF : TyI := ⟨.st [(0, 22), (1, 23), (5, 24)], 9, 14, [.v (.int .u16 0), .v (.int .u16 0), .v (.int .u16 0), .v (.int .u16 0), .v (.int .u16 0), .v (.int .u8 0), .v (.int .u8 0), .v (.int .u8 0), .v (.int .u8 0)]⟩
theorem Eo : TyOK Tryz.prog 25 HF := TyOK.mk' (z := .agg #[.int .u16 0, .int .u16 0, .int .u16 0, .int .u16 0, .int .u16 0, .int .u8 0, .int .u8 0, .int .u8 0, .int .u8 0]) (by kernel_rfl) Tryz.underlying25 rfl rfl ⟨z_v _ rfl, z_v _ rfl, z_v _ rfl, z_v _ rfl, z_v _ rfl, z_v _ rfl, z_v _ rfl, z_v _ rfl, z_v _ rfl, trivial⟩
def HE : TyI := ⟨.st [(0, 22), (1, 23), (5, 24)], 9, 14, [.v (.int .u16 0), .v (.int .u16 0), .v (.int .u16 0), .v (.int .u16 0), .v (.int .u16 0), .v (.int .u8 0), .v (.int .u8 0), .v (.int .u8 0), .v (.int .u8 0)]⟩
theorem En : TyOK Tryz.prog 26 HE := TyOK.mk' (z := .agg #[.int .u16 0, .int .u16 0, .int .u16 0, .int .u16 0, .int .u16 0, .int .u8 0, .int .u8 0, .int .u8 0, .int .u8 0]) (by kernel_rfl) Tryz.underlying26 rfl rfl ⟨z_v _ rfl, z_v _ rfl, z_v _ rfl, z_v _ rfl, z_v _ rfl, z_v _ rfl, z_v _ rfl, z_v _ rfl, z_v _ rfl, trivial⟩
def HD : TyI := ⟨.sl 105, 1, 24, [.sl 0 []]⟩
theorem Em : TyOK Tryz.prog 27 HD := TyOK.mk' (z := .slice none 0 0) (by kernel_rfl) Tryz.underlying27 rfl rfl ⟨ce, trivial⟩
def HC : TyI := ⟨.st [(0, 4), (1, 27)], 2, 32, [.v (.bool false), .sl 0 []]⟩
theorem Ek : TyOK Tryz.prog 28 HC := TyOK.mk' (z := .agg #[.bool false, .slice none 0 0]) (by kernel_rfl) Tryz.underlying28 rfl rfl ⟨z_v _ rfl, ce, trivial⟩
def HB : TyI := ⟨.st [(0, 4), (1, 27)], 2, 32, [zn 0, zm 0]⟩
theorem Ej : TyOK Tryz.prog 29 HB := TyOK.mk' (z := .agg #[.bool false, .slice none 0 0]) (by kernel_rfl) Tryz.underlying29 rfl rfl ⟨bY, bZ, trivial⟩
def Hz : TyI := ⟨.sl 46, 1, 24, [.sl 0 []]⟩
theorem Ei : TyOK Tryz.prog 32 Hz := TyOK.mk' (z := .slice none 0 0) (by kernel_rfl) Tryz.underlying32 rfl rfl ⟨ce, trivial⟩
def Hy : TyI := ⟨.int .i64, 1, 8, [.v (.int .i64 0)]⟩
theorem Eh : TyOK Tryz.prog 33 Hy := TyOK.mk' (z := .int .i64 0) (by kernel_rfl) Tryz.underlying33 rfl rfl ⟨z_v _ rfl, trivial⟩
def Hx : TyI := ⟨.sl 29, 1, 24, [.sl 0 []]⟩
theorem Eg : TyOK Tryz.prog 36 Hx := TyOK.mk' (z := .slice none 0 0) (by kernel_rfl) Tryz.underlying36 rfl rfl ⟨ce, trivial⟩
def Hv : TyI := ⟨.st [(0, 3), (1, 29), (3, 29), (5, 29), (7, 36), (8, 32)], 9, 152, [.v (.int .i64 0), zn 0, zm 0, zn 0, zm 0, zn 0, zm 0, .sl 0 [], .sl 0 []]⟩
theorem Ef : TyOK Tryz.prog 41 Hv := TyOK.mk' (z := .agg #[.int .i64 0, .bool false, .slice none 0 0, .bool false, .slice none 0 0, .bool false, .slice none 0 0, .slice none 0 0, .slice none 0 0]) (by kernel_rfl) Tryz.underlying41 rfl rfl ⟨z_v _ rfl, bY, bZ, bY, bZ, bY, bZ, ce, ce, trivial⟩
def Hu : TyI := ⟨.st [(0, 3), (1, 29), (3, 29), (5, 29), (7, 36), (8, 32)], 9, 152, [.v (.int .i64 0), zn 0, zm 0, zn 0, zm 0, zn 0, zm 0, .sl 0 [], .sl 0 []]⟩
theorem Ee : TyOK Tryz.prog 42 Hu := TyOK.mk' (z := .agg #[.int .i64 0, .bool false, .slice none 0 0, .bool false, .slice none 0 0, .bool false, .slice none 0 0, .slice none 0 0, .slice none 0 0]) (by kernel_rfl) Tryz.underlying42 rfl rfl ⟨z_v _ rfl, bY, bZ, bY, bZ, bY, bZ, ce, ce, trivial⟩
def Ht : TyI := ⟨.st [(0, 29), (2, 29), (4, 29)], 6, 96, [zn 0, zm 0, zn 0, zm 0, zn 0, zm 0]⟩
theorem Ed : TyOK Tryz.prog 45 Ht := TyOK.mk' (z := .agg #[.bool false, .slice none 0 0, .bool false, .slice none 0 0, .bool false, .slice none 0 0]) (by kernel_rfl) Tryz.underlying45 rfl rfl ⟨bY, bZ, bY, bZ, bY, bZ, trivial⟩
def Hs : TyI := ⟨.st [(0, 29), (2, 29), (4, 29)], 6, 96, [zn 0, zm 0, zn 0, zm 0, zn 0, zm 0]⟩
theorem Ec : TyOK Tryz.prog 46 Hs := TyOK.mk' (z := .agg #[.bool false, .slice none 0 0, .bool false, .slice none 0 0, .bool false, .slice none 0 0]) (by kernel_rfl) Tryz.underlying46 rfl rfl ⟨bY, bZ, bY, bZ, bY, bZ, trivial⟩
def Hr : TyI := ⟨.sl 3, 1, 24, [.sl 0 []]⟩
theorem Eb : TyOK Tryz.prog 48 Hr := TyOK.mk' (z := .slice none 0 0) (by kernel_rfl) Tryz.underlying48 rfl rfl ⟨ce, trivial⟩
def Ho : TyI := ⟨.st [(0, 4), (1, 27)], 2, 32, [.v (.bool false), .sl 0 []]⟩
theorem Ea : TyOK Tryz.prog 53 Ho := TyOK.mk' (z := .agg #[.bool false, .slice none 0 0]) (by kernel_rfl) Tryz.underlying53 rfl rfl ⟨z_v _ rfl, ce, trivial⟩
def Hn : TyI := ⟨.st [(0, 4), (1, 27)], 2, 32, [.v (.bool false), .sl 0 []]⟩
theorem D9 : TyOK Tryz.prog 54 Hn := TyOK.mk' (z := .agg #[.bool false, .slice none 0 0]) (by kernel_rfl) Tryz.underlying54 rfl rfl ⟨z_v _ rfl, ce, trivial⟩
def Hm : TyI := ⟨.ar 3 54, 6, 96, [.v (.bool false), .sl 0 [], .v (.bool false), .sl 0 [], .v (.bool false), .sl 0 []]⟩
theorem D8 : TyOK Tryz.prog 55 Hm := TyOK.mk' (z := .agg #[.bool false, .slice none 0 0, .bool false, .slice none 0 0, .bool false, .slice none 0 0]) (by kernel_rfl) Tryz.underlying55 ⟨rfl, rfl⟩ rfl ⟨z_v _ rfl, ce, z_v _ rfl, ce, z_v _ rfl, ce, trivial⟩
def Hl : TyI := ⟨.ar 4 54, 8, 128, [.v (.bool false), .sl 0 [], .v (.bool false), .sl 0 [], .v (.bool false), .sl 0 [], .v (.bool false), .sl 0 []]⟩
theorem D7 : TyOK Tryz.prog 56 Hl := TyOK.mk' (z := .agg #[.bool false, .slice none 0 0, .bool false, .slice none 0 0, .bool false, .slice none 0 0, .bool false, .slice none 0 0]) (by kernel_rfl) Tryz.underlying56 ⟨rfl, rfl⟩ rfl ⟨z_v _ rfl, ce, z_v _ rfl, ce, z_v _ rfl, ce, z_v _ rfl, ce, trivial⟩
def Hk : TyI := ⟨.st [(0, 55), (6, 56)], 14, 224, [.v (.bool false), .sl 0 [], .v (.bool false), .sl 0 [], .v (.bool false), .sl 0 [], .v (.bool false), .sl 0 [], .v (.bool false), .sl 0 [], .v (.bool false), .sl 0 [], .v (.bool false), .sl 0 []]⟩
theorem D6 : TyOK Tryz.prog 57 Hk := TyOK.mk' (z := .agg #[.bool false, .slice none 0 0, .bool false, .slice none 0 0, .bool false, .slice none 0 0, .bool false, .slice none 0 0, .bool false, .slice none 0 0, .bool false, .slice none 0 0, .bool false, .slice none 0 0]) (by kernel_rfl) Tryz.underlying57 rfl rfl ⟨z_v _ rfl, ce, z_v _ rfl, ce, z_v _ rfl, ce, z_v _ rfl, ce, z_v _ rfl, ce, z_v _ rfl, ce, z_v _ rfl, ce, trivial⟩
def Hj : TyI := ⟨.st [(0, 55), (6, 56)], 14, 224, [.v (.bool false), .sl 0 [], .v (.bool false), .sl 0 [], .v (.bool false), .sl 0 [], .v (.bool false), .sl 0 [], .v (.bool false), .sl 0 [], .v (.bool false), .sl 0 [], .v (.bool false), .sl 0 []]⟩
theorem D5 : TyOK Tryz.prog 58 Hj := TyOK.mk' (z := .agg #[.bool false, .slice none 0 0, .bool false, .slice none 0 0, .bool false, .slice none 0 0, .bool false, .slice none 0 0, .bool false, .slice none 0 0, .bool false, .slice none 0 0, .bool false, .slice none 0 0]) (by kernel_rfl) Tryz.underlying58 rfl rfl ⟨z_v _ rfl, ce, z_v _ rfl, ce, z_v _ rfl, ce, z_v _ rfl, ce, z_v _ rfl, ce, z_v _ rfl, ce, z_v _ rfl, ce, trivial⟩
def Hh : TyI := ⟨.st [(0, 36), (1, 33)], 2, 32, [.sl 0 [], .v (.int .i64 0)]⟩
theorem D4 : TyOK Tryz.prog 62 Hh := TyOK.mk' (z := .agg #[.slice none 0 0, .int .i64 0]) (by kernel_rfl) Tryz.underlying62 rfl rfl ⟨ce, z_v _ rfl, trivial⟩
def Hg : TyI := ⟨.st [(0, 36), (1, 33)], 2, 32, [.sl 0 [], .v (.int .i64 0)]⟩
theorem D3 : TyOK Tryz.prog 63 Hg := TyOK.mk' (z := .agg #[.slice none 0 0, .int .i64 0]) (by kernel_rfl) Tryz.underlying63 rfl rfl ⟨ce, z_v _ rfl, trivial⟩
def Hf : TyI := ⟨.sl 93, 1, 24, [.sl 0 []]⟩
theorem D2 : TyOK Tryz.prog 65 Hf := TyOK.mk' (z := .slice none 0 0) (by kernel_rfl) Tryz.underlying65 rfl rfl ⟨ce, trivial⟩
def He : TyI := ⟨.st [(0, 42), (9, 33)], 10, 160, [.v (.int .i64 0), zn 0, zm 0, zn 0, zm 0, zn 0, zm 0, .sl 0 [], .sl 0 [], .v (.int .i64 0)]⟩
theorem D1 : TyOK Tryz.prog 71 He := TyOK.mk' (z := .agg #[.int .i64 0, .bool false, .slice none 0 0, .bool false, .slice none 0 0, .bool false, .slice none 0 0, .slice none 0 0, .slice none 0 0, .int .i64 0]) (by kernel_rfl) Tryz.underlying71 rfl rfl ⟨z_v _ rfl, bY, bZ, bY, bZ, bY, bZ, ce, ce, z_v _ rfl, trivial⟩
def Hd : TyI := ⟨.st [(0, 42), (9, 33)], 10, 160, [.v (.int .i64 0), zn 0, zm 0, zn 0, zm 0, zn 0, zm 0, .sl 0 [], .sl 0 [], .v (.int .i64 0)]⟩
theorem D0 : TyOK Tryz.prog 72 Hd := TyOK.mk' (z := .agg #[.int .i64 0, .bool false, .slice none 0 0, .bool false, .slice none 0 0, .bool false, .slice none 0 0, .slice none 0 0, .slice none 0 0, .int .i64 0]) (by kernel_rfl) Tryz.underlying72 rfl rfl ⟨z_v _ rfl, bY, bZ, bY, bZ, bY, bZ, ce, ce, z_v _ rfl, trivial⟩
def Hc : TyI := ⟨.st [(0, 42), (9, 33)], 10, 160, [.v (.int .i64 0), zn 0, zm 0, zn 0, zm 0, zn 0, zm 0, .sl 0 [], .sl 0 [], .v (.int .i64 0)]⟩
theorem DZ : TyOK Tryz.prog 74 Hc := TyOK.mk' (z := .agg #[.int .i64 0, .bool false, .slice none 0 0, .bool false, .slice none 0 0, .bool false, .slice none 0 0, .slice none 0 0, .slice none 0 0, .int .i64 0]) (by kernel_rfl) Tryz.underlying74 rfl rfl ⟨z_v _ rfl, bY, bZ, bY, bZ, bY, bZ, ce, ce, z_v _ rfl, trivial⟩
def Hb : TyI := ⟨.sl 42, 1, 24, [.sl 0 []]⟩
theorem DY : TyOK Tryz.prog 84 Hb := TyOK.mk' (z := .slice none 0 0) (by kernel_rfl) Tryz.underlying84 rfl rfl ⟨ce, trivial⟩
def Ha : TyI := ⟨.st [(0, 29), (2, 29), (4, 29), (6, 29)], 8, 128, [zn 0, zm 0, zn 0, zm 0, zn 0, zm 0, zn 0, zm 0]⟩
theorem DX : TyOK Tryz.prog 86 Ha := TyOK.mk' (z := .agg #[.bool false, .slice none 0 0, .bool false, .slice none 0 0, .bool false, .slice none 0 0, .bool false, .slice none 0 0]) (by kernel_rfl) Tryz.underlying86 rfl rfl ⟨bY, bZ, bY, bZ, bY, bZ, bY, bZ, trivial⟩
def G9 : TyI := ⟨.st [(0, 29), (2, 29), (4, 29), (6, 29)], 8, 128, [zn 0, zm 0, zn 0, zm 0, zn 0, zm 0, zn 0, zm 0]⟩
theorem DW : TyOK Tryz.prog 87 G9 := TyOK.mk' (z := .agg #[.bool false, .slice none 0 0, .bool false, .slice none 0 0, .bool false, .slice none 0 0, .bool false, .slice none 0 0]) (by kernel_rfl) Tryz.underlying87 rfl rfl ⟨bY, bZ, bY, bZ, bY, bZ, bY, bZ, trivial⟩
def Af : TyI := ⟨.ar 2 29, 4, 64, [zn 0, zm 0, zn 0, zm 0]⟩
theorem DU : TyOK Tryz.prog 93 Af := TyOK.mk' (z := .agg #[.bool false, .slice none 0 0, .bool false, .slice none 0 0]) (by kernel_rfl) Tryz.underlying93 ⟨rfl, rfl⟩ rfl ⟨bY, bZ, bY, bZ, trivial⟩
def G8 : TyI := ⟨.ar 2 5, 2, 2, [.v (.int .u8 0), .v (.int .u8 0)]⟩
theorem DT : TyOK Tryz.prog 96 G8 := TyOK.mk' (z := .agg #[.int .u8 0, .int .u8 0]) (by kernel_rfl) Tryz.underlying96 ⟨rfl, rfl⟩ rfl ⟨z_v _ rfl, z_v _ rfl, trivial⟩
def Da : TyI := ⟨.int .u64, 1, 8, [.v (.int .u64 0)]⟩
theorem AP : TyOK Tryz.prog 103 Da := TyOK.mk' (z := .int .u64 0) (by kernel_rfl) Tryz.underlying103 rfl rfl ⟨z_v _ rfl, trivial⟩
def C9 : TyI := ⟨.int .u32, 1, 4, [.v (.int .u32 0)]⟩
theorem AO : TyOK Tryz.prog 105 C9 := TyOK.mk' (z := .int .u32 0) (by kernel_rfl) Tryz.underlying105 rfl rfl ⟨z_v _ rfl, trivial⟩
def C8 : TyI := ⟨.int .u64, 1, 8, [.v (.int .u64 0)]⟩
theorem AN : TyOK Tryz.prog 106 C8 := TyOK.mk' (z := .int .u64 0) (by kernel_rfl) Tryz.underlying106 rfl rfl ⟨z_v _ rfl, trivial⟩
def C6 : TyI := ⟨.sl 105, 1, 24, [.sl 0 []]⟩
theorem AI : TyOK Tryz.prog 114 C6 := TyOK.mk' (z := .slice none 0 0) (by kernel_rfl) Tryz.underlying114 rfl rfl ⟨ce, trivial⟩
def C5 : TyI := ⟨.sl 142, 1, 24, [.sl 0 []]⟩
theorem AH : TyOK Tryz.prog 138 C5 := TyOK.mk' (z := .slice none 0 0) (by kernel_rfl) Tryz.underlying138 rfl rfl ⟨ce, trivial⟩
def C3 : TyI := ⟨.st [(0, 3), (1, 140)], 2, 16, [.v (.int .i64 0), .v (.nilFunc)]⟩
theorem AF : TyOK Tryz.prog 141 C3 := TyOK.mk' (z := .agg #[.int .i64 0, .nilFunc]) (by kernel_rfl) Tryz.underlying141 rfl rfl ⟨z_v _ rfl, z_v _ rfl, trivial⟩
def CZ : TyI := ⟨.st [(0, 3), (1, 140)], 2, 16, [.v (.int .i64 0), .v (.nilFunc)]⟩
theorem AD : TyOK Tryz.prog 142 CZ := TyOK.mk' (z := .agg #[.int .i64 0, .nilFunc]) (by kernel_rfl) Tryz.underlying142 rfl rfl ⟨z_v _ rfl, z_v _ rfl, trivial⟩
def CY : TyI := ⟨.pt 163, 1, 8, [.v (.pointer none)]⟩
theorem AC : TyOK Tryz.prog 161 CY := TyOK.mk' (z := .pointer none) (by kernel_rfl) Tryz.underlying161 rfl rfl ⟨z_v _ rfl, trivial⟩
def CX : TyI := ⟨.st [(0, 46), (6, 87)], 14, 224, [zn 0, zm 0, zn 0, zm 0, zn 0, zm 0, zn 0, zm 0, zn 0, zm 0, zn 0, zm 0, zn 0, zm 0]⟩
theorem AB : TyOK Tryz.prog 162 CX := TyOK.mk' (z := .agg #[.bool false, .slice none 0 0, .bool false, .slice none 0 0, .bool false, .slice none 0 0, .bool false, .slice none 0 0, .bool false, .slice none 0 0, .bool false, .slice none 0 0, .bool false, .slice none 0 0]) (by kernel_rfl) Tryz.underlying162 rfl rfl ⟨bY, bZ, bY, bZ, bY, bZ, bY, bZ, bY, bZ, bY, bZ, bY, bZ, trivial⟩
def CW : TyI := ⟨.st [(0, 46), (6, 87)], 14, 224, [zn 0, zm 0, zn 0, zm 0, zn 0, zm 0, zn 0, zm 0, zn 0, zm 0, zn 0, zm 0, zn 0, zm 0]⟩
theorem AA : TyOK Tryz.prog 163 CW := TyOK.mk' (z := .agg #[.bool false, .slice none 0 0, .bool false, .slice none 0 0, .bool false, .slice none 0 0, .bool false, .slice none 0 0, .bool false, .slice none 0 0, .bool false, .slice none 0 0, .bool false, .slice none 0 0]) (by kernel_rfl) Tryz.underlying163 rfl rfl ⟨bY, bZ, bY, bZ, bY, bZ, bY, bZ, bY, bZ, bY, bZ, bY, bZ, trivial⟩
def CV : TyI := ⟨.st [(0, 2), (1, 2), (2, 2)], 3, 24, [.v (.int .i64 0), .v (.int .i64 0), .v (.int .i64 0)]⟩
theorem Az : TyOK Tryz.prog 175 CV := TyOK.mk' (z := .agg #[.int .i64 0, .int .i64 0, .int .i64 0]) (by kernel_rfl) Tryz.underlying175 rfl rfl ⟨z_v _ rfl, z_v _ rfl, z_v _ rfl, trivial⟩
def CU : TyI := ⟨.st [(0, 2), (1, 2), (2, 2)], 3, 24, [.v (.int .i64 0), .v (.int .i64 0), .v (.int .i64 0)]⟩
theorem Ay : TyOK Tryz.prog 176 CU := TyOK.mk' (z := .agg #[.int .i64 0, .int .i64 0, .int .i64 0]) (by kernel_rfl) Tryz.underlying176 rfl rfl ⟨z_v _ rfl, z_v _ rfl, z_v _ rfl, trivial⟩
def CQ : TyI := ⟨.sl 192, 1, 24, [.sl 0 []]⟩
theorem Av : TyOK Tryz.prog 190 CQ := TyOK.mk' (z := .slice none 0 0) (by kernel_rfl) Tryz.underlying190 rfl rfl ⟨ce, trivial⟩
def CP : TyI := ⟨.ar 2 3, 2, 16, [.v (.int .i64 0), .v (.int .i64 0)]⟩
theorem Au : TyOK Tryz.prog 192 CP := TyOK.mk' (z := .agg #[.int .i64 0, .int .i64 0]) (by kernel_rfl) Tryz.underlying192 ⟨rfl, rfl⟩ rfl ⟨z_v _ rfl, z_v _ rfl, trivial⟩
def CO : TyI := ⟨.ar 3 29, 6, 96, [zn 0, zm 0, zn 0, zm 0, zn 0, zm 0]⟩
theorem Ar : TyOK Tryz.prog 206 CO := TyOK.mk' (z := .agg #[.bool false, .slice none 0 0, .bool false, .slice none 0 0, .bool false, .slice none 0 0]) (by kernel_rfl) Tryz.underlying206 ⟨rfl, rfl⟩ rfl ⟨bY, bZ, bY, bZ, bY, bZ, trivial⟩
def CN : TyI := ⟨.sl 2, 1, 24, [.sl 0 []]⟩
theorem Aq : TyOK Tryz.prog 219 CN := TyOK.mk' (z := .slice none 0 0) (by kernel_rfl) Tryz.underlying219 rfl rfl ⟨ce, trivial⟩
def CM : TyI := ⟨.ar 2 93, 8, 128, [zn 0, zm 0, zn 0, zm 0, zn 0, zm 0, zn 0, zm 0]⟩
theorem Ap : TyOK Tryz.prog 233 CM := TyOK.mk' (z := .agg #[.bool false, .slice none 0 0, .bool false, .slice none 0 0, .bool false, .slice none 0 0, .bool false, .slice none 0 0]) (by kernel_rfl) Tryz.underlying233 ⟨rfl, rfl⟩ rfl ⟨bY, bZ, bY, bZ, bY, bZ, bY, bZ, trivial⟩
def CL : TyI := ⟨.st [(0, 27), (1, 27)], 2, 48, [.sl 0 [], .sl 0 []]⟩
theorem Ao : TyOK Tryz.prog 235 CL := TyOK.mk' (z := .agg #[.slice none 0 0, .slice none 0 0]) (by kernel_rfl) Tryz.underlying235 rfl rfl ⟨ce, ce, trivial⟩
def CI : TyI := ⟨.st [(0, 27), (1, 27)], 2, 48, [.sl 0 [], .sl 0 []]⟩
theorem An : TyOK Tryz.prog 236 CI := TyOK.mk' (z := .agg #[.slice none 0 0, .slice none 0 0]) (by kernel_rfl) Tryz.underlying236 rfl rfl ⟨ce, ce, trivial⟩
def CH : TyI := ⟨.ar 8 3, 8, 64, [.v (.int .i64 0), .v (.int .i64 0), .v (.int .i64 0), .v (.int .i64 0), .v (.int .i64 0), .v (.int .i64 0), .v (.int .i64 0), .v (.int .i64 0)]⟩
theorem Am : TyOK Tryz.prog 244 CH := TyOK.mk' (z := .agg #[.int .i64 0, .int .i64 0, .int .i64 0, .int .i64 0, .int .i64 0, .int .i64 0, .int .i64 0, .int .i64 0]) (by kernel_rfl) Tryz.underlying244 ⟨rfl, rfl⟩ rfl ⟨z_v _ rfl, z_v _ rfl, z_v _ rfl, z_v _ rfl, z_v _ rfl, z_v _ rfl, z_v _ rfl, z_v _ rfl, trivial⟩
def CG : TyI := ⟨.int .i64, 1, 8, [.v (.int .i64 0)]⟩
theorem Al : TyOK Tryz.prog 249 CG := TyOK.mk' (z := .int .i64 0) (by kernel_rfl) Tryz.underlying249 rfl rfl ⟨z_v _ rfl, trivial⟩
def CF : TyI := ⟨.int .u64, 1, 8, [.v (.int .u64 0)]⟩
theorem Ak : TyOK Tryz.prog 262 CF := TyOK.mk' (z := .int .u64 0) (by kernel_rfl) Tryz.underlying262 rfl rfl ⟨z_v _ rfl, trivial⟩
def CE : TyI := ⟨.pt 3, 1, 8, [.v (.pointer none)]⟩
theorem Aj : TyOK Tryz.prog 266 CE := TyOK.mk' (z := .pointer none) (by kernel_rfl) Tryz.underlying266 rfl rfl ⟨z_v _ rfl, trivial⟩
def CC : TyI := ⟨.pt 262, 1, 8, [.v (.pointer none)]⟩
theorem Ai : TyOK Tryz.prog 273 CC := TyOK.mk' (z := .pointer none) (by kernel_rfl) Tryz.underlying273 rfl rfl ⟨z_v _ rfl, trivial⟩
def CA : TyI := ⟨.pt 5, 1, 8, [.v (.pointer none)]⟩
theorem Ah : TyOK Tryz.prog 286 CA := TyOK.mk' (z := .pointer none) (by kernel_rfl) Tryz.underlying286 rfl rfl ⟨z_v _ rfl, trivial⟩
def Cz : TyI := ⟨.st [(0, 9)], 1, 16, [.v (.string ⟨#[]⟩)]⟩
theorem Ag : TyOK Tryz.prog 291 Cz := TyOK.mk' (z := .agg #[.string ⟨#[]⟩]) (by kernel_rfl) Tryz.underlying291 rfl rfl ⟨z_v _ rfl, trivial⟩
def C7 : TyI := ⟨.ot, 1, 8, [.v (.nilFunc)]⟩
theorem AL : TyOK Tryz.prog 108 C7 := TyOK.mk' (z := .nilFunc) (by kernel_rfl) Tryz.underlying108 trivial rfl ⟨z_v _ rfl, trivial⟩
def C4 : TyI := ⟨.ot, 1, 8, [.v (.nilFunc)]⟩
theorem AG : TyOK Tryz.prog 140 C4 := TyOK.mk' (z := .nilFunc) (by kernel_rfl) Tryz.underlying140 trivial rfl ⟨z_v _ rfl, trivial⟩
def CT : TyI := ⟨.ot, 1, 8, [.v (.nilFunc)]⟩
theorem Ax : TyOK Tryz.prog 183 CT := TyOK.mk' (z := .nilFunc) (by kernel_rfl) Tryz.underlying183 trivial rfl ⟨z_v _ rfl, trivial⟩
def CR : TyI := ⟨.ot, 1, 8, [.v (.nilFunc)]⟩
theorem Aw : TyOK Tryz.prog 187 CR := TyOK.mk' (z := .nilFunc) (by kernel_rfl) Tryz.underlying187 trivial rfl ⟨z_v _ rfl, trivial⟩
def tt : TT := rJ [(2, ty2), (3, ty3), (4, ty4), (5, ty5), (9, ty9), (12, HK), (21, HJ), (22, HI), (23, HH), (24, HG), (25, HF), (26, HE), (27, HD), (28, HC), (29, HB), (32, Hz), (33, Hy), (36, Hx), (41, Hv), (42, Hu), (45, Ht), (46, Hs), (48, Hr), (53, Ho), (54, Hn), (55, Hm), (56, Hl), (57, Hk), (58, Hj), (62, Hh), (63, Hg), (65, Hf), (71, He), (72, Hd), (74, Hc), (84, Hb), (86, Ha), (87, G9), (93, Af), (96, G8), (103, Da), (105, C9), (106, C8), (114, C6), (138, C5), (141, C3), (142, CZ), (161, CY), (162, CX), (163, CW), (175, CV), (176, CU), (190, CQ), (192, CP), (206, CO), (219, CN), (233, CM), (235, CL), (236, CI), (244, CH), (249, CG), (262, CF), (266, CE), (273, CC), (286, CA), (291, Cz), (108, C7), (140, C4), (183, CT), (187, CR)]
theorem hT : dR Tryz.prog tt := AllT.ok ⟨HA, Hw, Hq, Hi, G7, Eu, Et, Es, Er, Ep, Eo, En, Em, Ek, Ej, Ei, Eh, Eg, Ef, Ee, Ed, Ec, Eb, Ea, D9, D8, D7, D6, D5, D4, D3, D2, D1, D0, DZ, DY, DX, DW, DU, DT, AP, AO, AN, AI, AH, AF, AD, AC, AB, AA, Az, Ay, Av, Au, Ar, Aq, Ap, Ao, An, Am, Al, Ak, Aj, Ai, Ah, Ag, AL, AG, Ax, Aw, trivial⟩
theorem hP : Tryz.prog.follows .mixedOrders = true := by kernel_rfl
end
section
open Go Go.AM
theorem eQ (ws : List Nat) (hok : okW ws) :
  aI Tryz.prog 130 [.p (.c (W ws))] (.p (.c (nt (wv ws)))) := by
 refine aK Tryz.func130 rfl rfl rfl rfl ?_
 refine iT (t := 0) rfl rfl (fun hlen => ?_)
 refine ae hP<|aj rfl<|ag<|aq<|aB<|bn (ι := List Nat) (fun l => stL [(0, .p (.c (W l)))] []) (fun l => okW l ∧ wv l = wv ws ∧ l.length ≤ 140737488355328) (fun l => l.length) ws ⟨hok, rfl, hlen⟩ (aF ⟨.refl _, trivial⟩ trivial) ?_
 rintro l ⟨hl, hv, hn⟩
 refine aq<|ae hP<|ak rfl<|ab (aU hT rfl rfl rfl rfl)<|ab (bO rfl rfl)<|ak rfl ?_
 refine a6 (t := 6) rfl (fun hg1 => ?_) (fun hg1 => ?_)
 ·have hg1_ := dT0 hg1
  refine aC hg1 (ay (rfl : _ = AV.p (.c _))) ?_
  refine aC hg1 (ay (rfl : _ = AV.p (.c _))) ?_
  refine aC hg1 (aU hT rfl rfl rfl rfl) ?_
  refine aC hg1 (bB rfl rfl (by first | exact iW0 _ (by omega) | rfl)) ?_
  refine aC hg1 (by first | exact fC hT rfl rfl rfl rfl rfl rfl (by omega) | exact b9 hT rfl rfl rfl rfl rfl rfl (by omega) (by first | exact gX (by omega) | simp)) ?_
  refine aC hg1 (bV hT rfl rfl rfl (by first | rfl | exact l4 (by omega))) ?_
  refine aC hg1 (bq rfl rfl) ?_
  refine ab (aO rfl hg1 (rfl : _ = AV.p (.c _)))<|ag ?_
  refine az rfl (fun hb2 => ?_) (fun hb2 => ?_)
  ·have hb2_ := bT hb2
   refine au<|aB<|aw hP<|ak rfl<|ak rfl<|ab (aU hT rfl rfl rfl rfl)<|ab (bB rfl rfl (by first | exact iW0 _ (by omega) | rfl)) ?_
   refine ab (kC hT rfl rfl rfl rfl rfl rfl (by omega)) ?_
   refine aj rfl<|ag ?_
   have e : ((l.length : Int) - 1).toNat = l.length - 1 := by omega
   refine ⟨l.take (l.length - 1), ⟨hl.take _, ?_, ?_⟩, ?_, aF ⟨aH ?_, trivial⟩ trivial⟩
   ·rw [rQ (by omega) (by rw [← e]; omega), hv]
   ·rw [List.length_take]; omega
   ·rw [List.length_take]; omega
   show AV.p (.c (W (l.take ((l.length : Int) - 1).toNat))) = _
   rw [e]
  have hb2_ := bF hb2
  refine a7<|ae hP<|ak rfl<|aj rfl<|ag<|am<|E1 rfl rfl ?_
  have e : ((l.length : Int) - 1).toNat = l.length - 1 := by omega
  refine aH ?_
  rw [← hv, rB hl (.inr (by rw [← e]; omega))]
 have hg1_ := dF0 hg1
 iterate 7 refine aY hg1 ?_
 refine ab (aM rfl hg1 (rfl : _ = AV.p (.c _)))<|ag<|aQ rfl rfl<|a7<|ae hP<|ak rfl<|aj rfl<|ag<|am<|E1 rfl rfl ?_
 refine aH ?_
 rw [← hv, rB hl (.inl (by omega))]
end
section
open Go Go.AM
theorem qR (a : Int) :
  aI Tryz.prog 128 [Z a] (B false) := by
 refine aK Tryz.func128 rfl rfl rfl rfl ?_
 refine ae hP<|aj rfl<|ag<|ae hP<|ak rfl<|ak rfl<|ab (bo rfl rfl)<|aj rfl<|ag<|am<|E1 rfl rfl ?_
 exact aH (by simp)
theorem qQ (a : Int) :
  aI Tryz.prog 181 [.p (.c (.v (.int .u32 a)))] (B false) := by
 refine aK Tryz.func181 rfl rfl rfl rfl ?_
 refine ae hP<|aj rfl<|ag<|ae hP<|ak rfl<|ak rfl<|ab (bo rfl rfl)<|aj rfl<|ag<|am<|E1 rfl rfl ?_
 exact aH (by simp)
theorem nG (a b : Int) :
  aI Tryz.prog 57 [.p (.c (.v (.int .i64 a))), .p (.c (.v (.int .i64 b)))] (Z (bu a b)) := by
 refine aK Tryz.func57 rfl rfl rfl rfl ?_
 refine ae hP<|aj rfl<|ag<|ae hP<|ak rfl<|ab (ah (qR _)) ?_
 refine aj rfl<|ag<|ae hP<|ak rfl<|ab (ah (qR _)) ?_
 refine aj rfl<|ag<|aq<|ae hP<|ak rfl<|ag<|aQ rfl rfl<|au<|aq<|ae hP<|ak rfl<|ag<|aQ rfl rfl<|au<|aq<|ae hP<|ak rfl<|ak rfl<|ab (bd rfl rfl)<|ag ?_
 refine az rfl (fun hb1 => ?_) (fun hb1 => ?_)
 ·have hb1_ := dT0 hb1
  refine ae hP<|aj rfl<|ag<|am<|E1 rfl rfl ?_
  exact aH (by unfold bu; rw [if_pos (by omega)])
 have hb1_ := dF0 hb1
 refine au<|aq<|ae hP<|ak rfl<|ak rfl<|ab (bO rfl rfl)<|ag ?_
 refine az rfl (fun hb2 => ?_) (fun hb2 => ?_)
 ·have hb2_ := dT0 hb2
  refine ae hP<|aj rfl<|ag<|am<|E1 rfl rfl ?_
  exact aH (by unfold bu; rw [if_neg (by omega), if_pos (by omega)])
 have hb2_ := dF0 hb2
 refine au<|ae hP<|aj rfl<|ag<|am<|E1 rfl rfl ?_
 exact aH (by unfold bu; rw [if_neg (by omega), if_neg (by omega)])
theorem uT (a b : Int) :
  aI Tryz.prog 129 [.p (.c (.v (.int .u32 a))), .p (.c (.v (.int .u32 b)))] (Z (bu a b)) := by
 refine aK Tryz.func129 rfl rfl rfl rfl ?_
 refine ae hP<|aj rfl<|ag<|ae hP<|ak rfl<|ab (ah (qQ _)) ?_
 refine aj rfl<|ag<|ae hP<|ak rfl<|ab (ah (qQ _)) ?_
 refine aj rfl<|ag<|aq<|ae hP<|ak rfl<|ag<|aQ rfl rfl<|au<|aq<|ae hP<|ak rfl<|ag<|aQ rfl rfl<|au<|aq<|ae hP<|ak rfl<|ak rfl<|ab (bd rfl rfl)<|ag ?_
 refine az rfl (fun hb1 => ?_) (fun hb1 => ?_)
 ·have hb1_ := dT0 hb1
  refine ae hP<|aj rfl<|ag<|am<|E1 rfl rfl ?_
  exact aH (by unfold bu; rw [if_pos (by omega)])
 have hb1_ := dF0 hb1
 refine au<|aq<|ae hP<|ak rfl<|ak rfl<|ab (bO rfl rfl)<|ag ?_
 refine az rfl (fun hb2 => ?_) (fun hb2 => ?_)
 ·have hb2_ := dT0 hb2
  refine ae hP<|aj rfl<|ag<|am<|E1 rfl rfl ?_
  exact aH (by unfold bu; rw [if_neg (by omega), if_pos (by omega)])
 have hb2_ := dF0 hb2
 refine au<|ae hP<|aj rfl<|ag<|am<|E1 rfl rfl ?_
 exact aH (by unfold bu; rw [if_neg (by omega), if_neg (by omega)])
theorem IL (a b : Int) :
  aI Tryz.prog 60 [.p (.c (.sl 2 [.v (.int .i64 a), .v (.int .i64 b)]))] (Z (if a = 0 then b else a)) := by
 refine aK Tryz.func60 rfl rfl rfl rfl ?_
 refine ae hP<|aj rfl<|ag<|ae hP<|aj rfl<|ag<|aq<|ae hP<|ak rfl<|ab (aU hT rfl rfl rfl rfl)<|ak rfl<|ag<|aB<|ee 3 ?_
 refine ae hP<|ab (bd rfl rfl)<|ag<|aq<|aW rfl (by decide) ?_
 refine au<|aq<|aB<|ae hP<|cJ ?_
 refine cr hT rfl rfl rfl ?_
 refine aj rfl<|ag<|ae hP<|ak rfl<|ak rfl<|ab (bo rfl rfl)<|ag ?_
 refine az rfl (fun hb1 => ?_) (fun hb1 => ?_)
 ·have hb1_ := b8 hb1
  refine ae hP<|ak rfl<|aj rfl<|ag<|am<|E1 rfl rfl ?_
  exact aH (by rw [if_neg hb1_])
 have hb1_ := bU hb1
 refine au<|aw hP<|bw rfl rfl ?_
 refine ak rfl<|ag<|ae hP<|ab (bd rfl rfl)<|ag<|aq<|aW rfl (by decide) ?_
 refine au<|aq<|aB<|ae hP<|cJ ?_
 refine cr hT rfl rfl rfl ?_
 refine aj rfl<|ag<|ae hP<|ak rfl<|ak rfl<|ab (bo rfl rfl)<|ag ?_
 refine az rfl (fun hb2 => ?_) (fun hb2 => ?_)
 ·have hb2_ := b8 hb2
  refine ae hP<|ak rfl<|aj rfl<|ag<|am<|E1 rfl rfl ?_
  exact aH (by rw [if_pos hb1_])
 have hb2_ := bU hb2
 refine au<|aw hP<|bw rfl rfl ?_
 refine ak rfl<|ag<|ae hP<|ab (bd rfl rfl)<|ag<|aq<|aQ rfl (by decide) ?_
 refine a7<|ae hP<|ak rfl<|aj rfl<|ag<|am<|E1 rfl rfl ?_
 exact aH (by rw [if_pos hb1_, hb2_])
theorem DJ (x y c : Nat) (hx : x < 4294967296) (hy : y < 4294967296) (hc : c < 4294967296) :
  aI Tryz.prog 169 [.p (.c (w32 x)), .p (.c (w32 y)), .p (.c (w32 c))] (.t [.c (w32 ((x + y + c) % 4294967296)), .c (w32 ((x + y + c) / 4294967296))]) := by
 refine aK Tryz.func169 rfl rfl rfl rfl ?_
 refine ae hP<|aj rfl<|aj rfl<|ag<|ae hP<|ak rfl<|ab (bf hT rfl rfl rfl rfl (by first | exact IntWalk.u64_in _ (by omega) | rfl)) ?_
 refine ak rfl<|ab (bf hT rfl rfl rfl rfl (by first | exact IntWalk.u64_in _ (by omega) | rfl)) ?_
 refine ab (bH rfl rfl (c := ((x + y : Nat) : Int)) (by rw [IntWalk.u64_in _ (by omega)]; omega)) ?_
 refine ak rfl<|ab (bf hT rfl rfl rfl rfl (by first | exact IntWalk.u64_in _ (by omega) | rfl)) ?_
 refine ab (bH rfl rfl (c := ((x + y + c : Nat) : Int)) (by rw [IntWalk.u64_in _ (by omega)]; omega)) ?_
 refine aj rfl<|ag<|ae hP<|ak rfl<|ab (bf hT rfl rfl rfl rfl (c := (((x + y + c) % 4294967296 : Nat) : Int)) (by rw [IntKind.wrap_u32]; omega)) ?_
 refine aj rfl<|ag<|ae hP<|ak rfl<|ab (c9 (j := 32) rfl rfl (by first | decide | omega)) ?_
 refine ab (bf hT rfl rfl rfl rfl (c := (((x + y + c) / 4294967296 : Nat) : Int)) (by rw [IntWalk.u32_in _ (by omega)])) ?_
 refine aj rfl<|ag<|am<|E11 rfl rfl rfl ?_
 exact .refl _
theorem wA (x y c : Nat) (hx : x < 4294967296) (hy : y < 4294967296) (hc : c < 2) :
  aI Tryz.prog 170 [.p (.c (w32 x)), .p (.c (w32 y)), .p (.c (w32 c))] (.t [.c (w32 ((x + 8589934592 - y - c) % 4294967296)), .c (w32 (if x < y + c then 1 else 0))]) := by
 have hxy : (x ^^^ y) < 4294967296 := Nat.xor_lt_two_pow (n := 32) hx hy
 have hd : (x + 8589934592 - y - c) % 4294967296 < 4294967296 := Nat.mod_lt _ (by omega)
 have h1 : ((4294967295 - x) &&& y) < 4294967296 := Nat.lt_of_le_of_lt Nat.and_le_right hy
 have h2 : ((4294967295 - (x ^^^ y)) &&& ((x + 8589934592 - y - c) % 4294967296)) < 4294967296 := Nat.lt_of_le_of_lt Nat.and_le_right hd
 refine aK Tryz.func170 rfl rfl rfl rfl ?_
 refine ae hP<|aj rfl<|aj rfl<|ag<|ae hP<|ak rfl<|ak rfl<|ab (bB rfl rfl rfl)<|ak rfl<|ab (bB rfl rfl (c := (((x + 8589934592 - y - c) % 4294967296 : Nat) : Int)) (by simp only [IntKind.wrap_u32]; omega)) ?_
 refine aj rfl<|ag<|ae hP<|ak rfl<|ab (qD rfl (by first | assumption | omega)) ?_
 refine ak rfl<|ab (pI rfl rfl rfl (by first | exact gS (by omega) | exact fR (by omega)) (by first | exact gS (by omega) | exact fR (by omega))) ?_
 refine ak rfl<|ak rfl<|ab (FD rfl rfl rfl (by first | exact gS (by omega) | exact fR (by omega)) (by first | exact gS (by omega) | exact fR (by omega))) ?_
 refine ab (qD rfl (by first | assumption | omega)) ?_
 refine ak rfl<|ab (pI rfl rfl rfl (by first | exact gS (by omega) | exact fR (by omega)) (by first | exact gS (by omega) | exact fR (by omega))) ?_
 refine ab (mn rfl rfl rfl (by first | exact gS (by omega) | exact fR (by omega)) (by first | exact gS (by omega) | exact fR (by omega))) ?_
 refine ab (c9 (j := 31) rfl rfl (by first | decide | omega)) ?_
 refine aj rfl<|ag<|am<|E11 rfl rfl rfl ?_
 exact aH (by rw [xM x y c hx hy hc]; rfl)
theorem F7 : ∀ m, m < 256 → (⟨#[0, 1, 2, 2, 3, 3, 3, 3, 4, 4, 4, 4, 4, 4, 4, 4, 5, 5, 5, 5, 5, 5, 5, 5, 5, 5, 5, 5, 5, 5, 5, 5, 6, 6, 6, 6, 6, 6, 6, 6, 6, 6, 6, 6, 6, 6, 6, 6, 6, 6, 6, 6, 6, 6, 6, 6, 6, 6, 6, 6, 6, 6, 6, 6, 7, 7, 7, 7, 7, 7, 7, 7, 7, 7, 7, 7, 7, 7, 7, 7, 7, 7, 7, 7, 7, 7, 7, 7, 7, 7, 7, 7, 7, 7, 7, 7, 7, 7, 7, 7, 7, 7, 7, 7, 7, 7, 7, 7, 7, 7, 7, 7, 7, 7, 7, 7, 7, 7, 7, 7, 7, 7, 7, 7, 7, 7, 7, 7, 8, 8, 8, 8, 8, 8, 8, 8, 8, 8, 8, 8, 8, 8, 8, 8, 8, 8, 8, 8, 8, 8, 8, 8, 8, 8, 8, 8, 8, 8, 8, 8, 8, 8, 8, 8, 8, 8, 8, 8, 8, 8, 8, 8, 8, 8, 8, 8, 8, 8, 8, 8, 8, 8, 8, 8, 8, 8, 8, 8, 8, 8, 8, 8, 8, 8, 8, 8, 8, 8, 8, 8, 8, 8, 8, 8, 8, 8, 8, 8, 8, 8, 8, 8, 8, 8, 8, 8, 8, 8, 8, 8, 8, 8, 8, 8, 8, 8, 8, 8, 8, 8, 8, 8, 8, 8, 8, 8, 8, 8, 8, 8, 8, 8, 8, 8, 8, 8, 8, 8, 8, 8, 8, 8, 8, 8, 8, 8]⟩ : ByteArray)[m]? = some (UInt8.ofNat (a8 m)) := by decide +kernel
theorem L3 : ∀ m, m < 256 → (UInt8.ofNat (a8 m)).toNat = a8 m := by decide +kernel
theorem mX {dst : Option Nat} {ty : TypeId} {pos : String} {af : Array Edge} {gd : Option (Nat × Bool)} {d : Nat} {ρ : Operand → AV} {own : Own} {x y : Operand} {m : Nat}
  (hx : ρ x = .p (.c (.v (.string ⟨#[0, 1, 2, 2, 3, 3, 3, 3, 4, 4, 4, 4, 4, 4, 4, 4, 5, 5, 5, 5, 5, 5, 5, 5, 5, 5, 5, 5, 5, 5, 5, 5, 6, 6, 6, 6, 6, 6, 6, 6, 6, 6, 6, 6, 6, 6, 6, 6, 6, 6, 6, 6, 6, 6, 6, 6, 6, 6, 6, 6, 6, 6, 6, 6, 7, 7, 7, 7, 7, 7, 7, 7, 7, 7, 7, 7, 7, 7, 7, 7, 7, 7, 7, 7, 7, 7, 7, 7, 7, 7, 7, 7, 7, 7, 7, 7, 7, 7, 7, 7, 7, 7, 7, 7, 7, 7, 7, 7, 7, 7, 7, 7, 7, 7, 7, 7, 7, 7, 7, 7, 7, 7, 7, 7, 7, 7, 7, 7, 8, 8, 8, 8, 8, 8, 8, 8, 8, 8, 8, 8, 8, 8, 8, 8, 8, 8, 8, 8, 8, 8, 8, 8, 8, 8, 8, 8, 8, 8, 8, 8, 8, 8, 8, 8, 8, 8, 8, 8, 8, 8, 8, 8, 8, 8, 8, 8, 8, 8, 8, 8, 8, 8, 8, 8, 8, 8, 8, 8, 8, 8, 8, 8, 8, 8, 8, 8, 8, 8, 8, 8, 8, 8, 8, 8, 8, 8, 8, 8, 8, 8, 8, 8, 8, 8, 8, 8, 8, 8, 8, 8, 8, 8, 8, 8, 8, 8, 8, 8, 8, 8, 8, 8, 8, 8, 8, 8, 8, 8, 8, 8, 8, 8, 8, 8, 8, 8, 8, 8, 8, 8, 8, 8, 8, 8, 8, 8]⟩)))) (hy : ρ y = .p (.c (.v (.int .u8 m)))) (hm : m < 256) : Eff Tryz.prog ⟨dst, .index 9 x y, ty, pos, af, gd⟩ d ρ own (.p (.c (.v (.int .u8 (a8 m : Nat))))) [] none [] := by
 have h := tj (P := Tryz.prog) (dst := dst) (ty := ty) (pos := pos) (af := af) (gd := gd) (d := d) (own := own) hT (T := 9) rfl rfl hx hy (by omega) (by rw [Int.toNat_natCast]; exact F7 m hm)
 rw [L3 m hm] at h
 exact h
theorem Dt (x : Nat) (hx : x < 4294967296) :
  aI Tryz.prog 233 [.p (.c (w32 x))] (Z (a8 x)) := by
 refine aK Tryz.func233 rfl rfl rfl rfl ?_
 refine ae hP<|aj rfl<|ag<|aq<|ae hP<|ak rfl<|ab (dc rfl rfl)<|ag ?_
 refine az rfl (fun hb1 => ?_) (fun hb1 => ?_)
 ·have hb1_ := dT0 hb1
  refine ae hP<|ak rfl<|ab (c9 (j := 16) rfl rfl (by first | decide | omega)) ?_
  refine aj rfl<|ag<|aw hP<|aj rfl<|ag<|aq<|ae hP<|ak rfl<|ab (dc rfl rfl)<|ag ?_
  refine az rfl (fun hb2 => ?_) (fun hb2 => ?_)
  ·have hb2_ := dT0 hb2
   refine ae hP<|ak rfl<|ab (c9 (j := 8) rfl rfl (by first | decide | omega)) ?_
   refine aj rfl<|ag<|aw hP<|ak rfl<|bw rfl rfl ?_
   refine aj rfl<|ag<|ae hP<|ak rfl<|ak rfl<|ab (bf hT rfl rfl rfl rfl (IntWalk.u8_in _ (by omega))) ?_
   refine ab (mX rfl rfl (by omega)) ?_
   refine ab (bf hT rfl rfl rfl rfl (iW0 _ (by first | (have h8 := bM (m := x / 2 ^ 16 / 2 ^ 8) (by omega); omega) | (have h8 := bM (m := x / 2 ^ 16) (by omega); omega) | (have h8 := bM (m := x / 2 ^ 8) (by omega); omega) | (have h8 := bM (m := x) (by omega); omega)))) ?_
   refine ab (bH rfl rfl (iW0 _ (by first | (have h8 := bM (m := x / 2 ^ 16 / 2 ^ 8) (by omega); omega) | (have h8 := bM (m := x / 2 ^ 16) (by omega); omega) | (have h8 := bM (m := x / 2 ^ 8) (by omega); omega) | (have h8 := bM (m := x) (by omega); omega)))) ?_
   refine aj rfl<|ag<|am<|E1 rfl rfl ?_
   have e : a8 x = 16 + (8 + a8 (x / 2 ^ 16 / 2 ^ 8)) := by rw [iS (k := 16) (by omega), iS (n := x / 2 ^ 16) (k := 8) (by omega)]
   exact aN (by omega)
  have hb2_ := dF0 hb2
  refine au<|ae hP<|ak rfl<|ak rfl<|ab (bf hT rfl rfl rfl rfl (IntWalk.u8_in _ (by omega))) ?_
  refine ab (mX rfl rfl (by omega)) ?_
  refine ab (bf hT rfl rfl rfl rfl (iW0 _ (by first | (have h8 := bM (m := x / 2 ^ 16 / 2 ^ 8) (by omega); omega) | (have h8 := bM (m := x / 2 ^ 16) (by omega); omega) | (have h8 := bM (m := x / 2 ^ 8) (by omega); omega) | (have h8 := bM (m := x) (by omega); omega)))) ?_
  refine ab (bH rfl rfl (iW0 _ (by first | (have h8 := bM (m := x / 2 ^ 16 / 2 ^ 8) (by omega); omega) | (have h8 := bM (m := x / 2 ^ 16) (by omega); omega) | (have h8 := bM (m := x / 2 ^ 8) (by omega); omega) | (have h8 := bM (m := x) (by omega); omega)))) ?_
  refine aj rfl<|ag<|am<|E1 rfl rfl ?_
  have e : a8 x = 16 + a8 (x / 2 ^ 16) := by rw [iS (k := 16) (by omega)]
  exact aN (by omega)
 have hb1_ := dF0 hb1
 refine au<|aq<|ae hP<|ak rfl<|ab (dc rfl rfl)<|ag ?_
 refine az rfl (fun hb3 => ?_) (fun hb3 => ?_)
 ·have hb3_ := dT0 hb3
  refine ae hP<|ak rfl<|ab (c9 (j := 8) rfl rfl (by first | decide | omega)) ?_
  refine aj rfl<|ag<|aw hP<|ak rfl<|bw rfl rfl ?_
  refine aj rfl<|ag<|ae hP<|ak rfl<|ak rfl<|ab (bf hT rfl rfl rfl rfl (IntWalk.u8_in _ (by omega))) ?_
  refine ab (mX rfl rfl (by omega)) ?_
  refine ab (bf hT rfl rfl rfl rfl (iW0 _ (by first | (have h8 := bM (m := x / 2 ^ 16 / 2 ^ 8) (by omega); omega) | (have h8 := bM (m := x / 2 ^ 16) (by omega); omega) | (have h8 := bM (m := x / 2 ^ 8) (by omega); omega) | (have h8 := bM (m := x) (by omega); omega)))) ?_
  refine ab (bH rfl rfl (iW0 _ (by first | (have h8 := bM (m := x / 2 ^ 16 / 2 ^ 8) (by omega); omega) | (have h8 := bM (m := x / 2 ^ 16) (by omega); omega) | (have h8 := bM (m := x / 2 ^ 8) (by omega); omega) | (have h8 := bM (m := x) (by omega); omega)))) ?_
  refine aj rfl<|ag<|am<|E1 rfl rfl ?_
  have e : a8 x = 8 + a8 (x / 2 ^ 8) := by rw [iS (k := 8) (by omega)]
  exact aN (by omega)
 have hb3_ := dF0 hb3
 refine au<|ae hP<|ak rfl<|ak rfl<|ab (bf hT rfl rfl rfl rfl (IntWalk.u8_in _ (by omega))) ?_
 refine ab (mX rfl rfl (by omega)) ?_
 refine ab (bf hT rfl rfl rfl rfl (iW0 _ (by first | (have h8 := bM (m := x / 2 ^ 16 / 2 ^ 8) (by omega); omega) | (have h8 := bM (m := x / 2 ^ 16) (by omega); omega) | (have h8 := bM (m := x / 2 ^ 8) (by omega); omega) | (have h8 := bM (m := x) (by omega); omega)))) ?_
 refine ab (bH rfl rfl (iW0 _ (by first | (have h8 := bM (m := x / 2 ^ 16 / 2 ^ 8) (by omega); omega) | (have h8 := bM (m := x / 2 ^ 16) (by omega); omega) | (have h8 := bM (m := x / 2 ^ 8) (by omega); omega) | (have h8 := bM (m := x) (by omega); omega)))) ?_
 refine aj rfl<|ag<|am<|E1 rfl rfl ?_
 exact aN (by omega)
theorem MM (x : Nat) (hx : x < 4294967296) :
  aI Tryz.prog 206 [.p (.c (w32 x))] (Z (32 - (a8 x : Nat))) := by
 have hb := ga (k := 32) hx
 refine aK Tryz.func206 rfl rfl rfl rfl ?_
 refine ae hP<|aj rfl<|ag<|ae hP<|ak rfl<|ab (ah (Dt _ (by assumption))) ?_
 refine ab (bB rfl rfl (by first | exact iW0 _ (by omega) | rfl)) ?_
 refine aj rfl<|ag<|am<|E1 rfl rfl ?_
 exact .refl _
theorem LU (hi lo y : Nat) (hy : y < 4294967296) (hh : hi < y) (hl : lo < 4294967296) :
  aI Tryz.prog 238 [.p (.c (w32 hi)), .p (.c (w32 lo)), .p (.c (w32 y))] (.t [.c (w32 ((hi * 4294967296 + lo) / y)), .c (w32 ((hi * 4294967296 + lo) % y))]) := by
 have hq : (hi * 4294967296 + lo) / y < 4294967296 := (Nat.div_lt_iff_lt_mul (by omega)).2 (by have : (hi + 1) * 4294967296 ≤ y * 4294967296 := Nat.mul_le_mul_right _ hh; omega)
 have hr : (hi * 4294967296 + lo) % y < y := Nat.mod_lt _ (by omega)
 refine aK Tryz.func238 rfl rfl rfl rfl ?_
 refine ae hP<|aj rfl<|aj rfl<|ag<|aq<|ae hP<|ak rfl<|ab (bo rfl rfl)<|ak rfl<|bE (bl rfl rfl (bne_iff_ne.2 (by omega))) (ay (rfl : _ = AV.p (.c _))) ?_
 refine bE (bl rfl rfl (bne_iff_ne.2 (by omega))) (ay (rfl : _ = AV.p (.c _))) ?_
 refine bE (bl rfl rfl (bne_iff_ne.2 (by omega))) (fv rfl rfl) ?_
 refine ab (aO rfl (bne_iff_ne.2 (by omega)) (rfl : _ = AV.p (.c _))) ?_
 refine ag<|aQ rfl (decide_eq_false (by omega)) ?_
 refine au<|ae hP<|ak rfl<|ab (bf hT rfl rfl rfl rfl (IntWalk.u64_in _ (by omega))) ?_
 refine ab (iG (j := 32) rfl rfl (by first | decide | omega) rfl) ?_
 refine ak rfl<|ab (bf hT rfl rfl rfl rfl (IntWalk.u64_in _ (by omega))) ?_
 refine ab (kt rfl rfl (mF (by omega) hl)) ?_
 refine aj rfl<|ag<|ae hP<|ak rfl<|ak rfl<|ab (bf hT rfl rfl rfl rfl (IntWalk.u64_in _ (by omega))) ?_
 refine ab (dj rfl rfl (by omega) (c := (((hi * 4294967296 + lo) / y : Nat) : Int)) (by rw [Int.tdiv_eq_ediv_of_nonneg (by omega), ← Int.natCast_ediv, cU (by omega)])) ?_
 refine ab (bf hT rfl rfl rfl rfl (ky (by omega))) ?_
 refine ak rfl<|ak rfl<|ab (bf hT rfl rfl rfl rfl (IntWalk.u64_in _ (by omega))) ?_
 refine ab (bW rfl rfl (by omega) (c := (((hi * 4294967296 + lo) % y : Nat) : Int)) (by rw [Int.tmod_eq_emod_of_nonneg (by omega), ← Int.natCast_emod])) ?_
 refine ab (bf hT rfl rfl rfl rfl (ky (by omega))) ?_
 refine aj rfl<|aj rfl<|ag<|am<|E11 rfl rfl rfl ?_
 exact .refl _
end
section
open Go Go.AM
theorem pL (m n : Nat) :
  aI Tryz.prog 59 [.p (.c (nt m)), .p (.c (nt n))] (Z (bu m n)) := by
 refine aK Tryz.func59 rfl rfl rfl rfl ?_
 refine iT (t := 0) rfl rfl (fun hlen => ?_)
 refine iT (t := 1) rfl rfl (fun hlen2 => ?_)
 refine ae hP<|aj rfl<|ag<|aq<|ae hP<|ak rfl<|ab (aU hT rfl rfl rfl rfl)<|ak rfl<|ab (aU hT rfl rfl rfl rfl)<|ab (ah (nG _ _)) ?_
 refine aj rfl<|ag<|ae hP<|ak rfl<|ab (bo rfl rfl)<|ag ?_
 refine az rfl (fun hb1 => ?_) (fun hb1 => ?_)
 ·have hb1_ := b8 hb1
  refine ae hP<|ak rfl<|aj rfl<|ag<|am<|E1 rfl rfl ?_
  exact aN (GE hb1_)
 have hb1_ := bU hb1
 refine au<|aq<|ae hP<|ak rfl<|ab (aU hT rfl rfl rfl rfl)<|ab (bB rfl rfl (by first | exact iW0 _ (by omega) | rfl)) ?_
 refine aj rfl<|ag<|aB ?_
 have hll : (wl m).length = (wl n).length := by have := jM hb1_; omega
 refine bn (ι := Nat) (fun k => stL [(0, .p (.c (nt m))), (1, .p (.c (nt n))), (6, Z ((k : Int) - 1))] []) (fun k => k ≤ (wl m).length ∧ (wl m).drop k = (wl n).drop k) (fun k => k) (wl m).length ⟨Nat.le_refl _, by rw [List.drop_length, hll, List.drop_length]⟩ (aF ⟨.refl _, .refl _, .refl _, trivial⟩ trivial) ?_
 rintro k ⟨hk, he⟩
 refine aq<|ae hP<|ak rfl<|ab (dc rfl rfl)<|ag ?_
 refine az rfl (fun hb2 => ?_) (fun hb2 => ?_)
 ·have hb2_ := dT0 hb2
  refine au<|aq<|aB<|ae hP<|ak rfl<|ak rfl<|ab (b9 hT rfl rfl rfl rfl rfl rfl (l := (wl m).length) (xs := (wl m).map w32) (by omega) (gX (by omega))) ?_
  refine cr hT rfl rfl rfl ?_
  refine ak rfl<|ak rfl<|ab (b9 hT rfl rfl rfl rfl rfl rfl (l := (wl n).length) (xs := (wl n).map w32) (by omega) (gX (by omega))) ?_
  refine cr hT rfl rfl rfl ?_
  refine ab (ah (uT _ _)) ?_
  refine aj rfl<|ag<|ae hP<|ak rfl<|ab (bo rfl rfl)<|ag ?_
  refine az rfl (fun hb3 => ?_) (fun hb3 => ?_)
  ·have hb3_ := b8 hb3
   refine ae hP<|ak rfl<|aj rfl<|ag<|am<|E1 rfl rfl ?_
   have hkk : ((k : Int) - 1).toNat = k - 1 := by omega
   rw [hkk] at hb3_ ⊢
   have h2 := un (bG m) (bG n) hll (k := k - 1) (by omega) (by rw [show k - 1 + 1 = k by omega]; exact he) hb3_
   rw [bD, bD] at h2
   exact aN h2
  have hb3_ := bU hb3
  refine au<|aw hP<|ak rfl<|ab (bB rfl rfl (by first | exact iW0 _ (by omega) | rfl)) ?_
  refine aj rfl<|ag ?_
  have hkk : ((k : Int) - 1).toNat = k - 1 := by omega
  have he2 := jM hb3_
  rw [hkk] at he2
  refine ⟨k - 1, ⟨by omega, ?_⟩, by omega, aF ⟨.refl _, .refl _, aN (by omega), trivial⟩ trivial⟩
  have e1 := dQ (ws := wl m) (k := k - 1) (by omega)
  have e2 := dQ (ws := wl n) (k := k - 1) (by omega)
  rw [e1, e2, show k - 1 + 1 = k by omega, he]
  congr 1
  omega
 have hb2_ := dF0 hb2
 refine a7<|ae hP<|aj rfl<|ag<|am<|E1 rfl rfl ?_
 have hk0 : k = 0 := by omega
 rw [hk0, List.drop_zero, List.drop_zero] at he
 have : m = n := by rw [← bD m, he, bD]
 exact aN (by rw [this, gG])
theorem FP (a b : List Nat) (ha : okW a) (hb : okW b) (hla : a.length ≤ 1099511627776) (hlb : b.length ≤ 1099511627776) :
  aI Tryz.prog 106 [.p (.c (W a)), .p (.c (W b))] (.p (.c (nt (wv a + wv b)))) := by
 refine aK Tryz.func106 rfl rfl rfl rfl ?_
 refine ae hP<|aj rfl<|ag<|cB (ι := List Nat × List Nat) (fun ⟨p, q⟩ => stL [(0, .p (.c (W p))), (1, .p (.c (W q)))] []) (fun ⟨p, q⟩ => okW p ∧ okW q ∧ q.length ≤ p.length ∧ p.length ≤ 1099511627776 ∧ wv p + wv q = wv a + wv b) ?_ ?_
 ·refine ae hP<|ak rfl<|ab (aU hT rfl rfl rfl rfl)<|ak rfl<|ab (aU hT rfl rfl rfl rfl)<|ab (bd rfl rfl)<|ag ?_
  refine az rfl (fun hb1 => ?_) (fun hb1 => ?_)
  ·have hb1_ := dT0 hb1
   refine aw hP<|ak rfl<|ak rfl<|aj rfl<|aj rfl<|ag ?_
   exact ⟨(b, a), ⟨hb, ha, by omega, hlb, Nat.add_comm _ _⟩, aF ⟨.refl _, .refl _, trivial⟩ trivial⟩
  have hb1_ := dF0 hb1
  refine au ?_
  exact ⟨(a, b), ⟨ha, hb, by omega, hla, rfl⟩, aF ⟨.refl _, .refl _, trivial⟩ trivial⟩
 clear hla hlb
 generalize hS : wv a + wv b = S
 clear ha hb
 rintro ⟨a, b⟩ ⟨ha, hb, hl, hla, hs⟩
 refine ae hP<|ak rfl<|ab (aU hT rfl rfl rfl rfl)<|bw rfl rfl ?_
 refine ao ai (ep hT rfl rfl rfl rfl rfl rfl rfl rfl (by omega)) ?_
 refine ab (bh (rfl : _ = AV.vec _))<|ag<|ae hP<|ab (ay (rfl : _ = AV.vec _))<|ak rfl<|RK.mut ai (mp hT rfl rfl rfl rfl rfl rfl rfl (by simp) (ws' := a ++ [0]) (by rw [A1])) ?_
 refine ag<|ae hP<|aj rfl<|ag<|aq<|ae hP<|ab (ay (rfl : _ = AV.vec _))<|ab (eP hT rfl rfl rfl rfl)<|ak rfl<|ag<|aB ?_
 have hA : okW (a ++ [0]) := ha.snoc (by omega)
 refine bn (ι := List Nat × Nat) (fun ⟨l, c⟩ => stL [(1, .p (.c (W b))), (5, .vec 19), (6, .p (.c (w32 c))), (24, Z (((a ++ [0]).length : Nat) : Int)), (25, Z ((l.length : Nat) : Int))] [(19, WB 105 (l ++ (a ++ [0]).drop l.length))]) (fun ⟨l, c⟩ => l.length ≤ (a ++ [0]).length ∧ okW l ∧ c < 2 ∧ wv l + 4294967296 ^ l.length * c = wv ((a ++ [0]).take l.length) + wv (b.take l.length)) (fun ⟨l, _⟩ => (a ++ [0]).length - l.length) ([], 0) ⟨Nat.zero_le _, okW.nil, by omega, by simp [wv]⟩ (aF ⟨.refl _, .refl _, .refl _, .refl _, .refl _, trivial⟩ ⟨rfl, trivial⟩) ?_
 rintro ⟨l, c⟩ ⟨hll, hol, hc, hv⟩
 have hmid := pN hll
 have hAlen : (a ++ [0]).length = a.length + 1 := by simp
 refine ae hP<|ab (bd rfl rfl)<|ag<|aq ?_
 refine az rfl (fun hb2 => ?_) (fun hb2 => ?_)
 ·have hb2_ := dT0 hb2
  have hlt : l.length < (a ++ [0]).length := by omega
  refine au<|aq<|aB<|ae hP<|ak rfl<|aj rfl<|ag<|ae hP<|aj rfl<|ag<|cB (ι := Unit) (fun _ => stL [(1, .p (.c (W b))), (5, .vec 19), (6, .p (.c (w32 c))), (24, Z (((a ++ [0]).length : Nat) : Int)), (25, Z ((l.length : Nat) : Int)), (7, Z ((l.length : Nat) : Int)), (8, .p (.c (w32 (b.getD l.length 0))))] [(19, WB 105 (l ++ (a ++ [0]).drop l.length))]) (fun _ => True) ?_ ?_
  ·refine ae hP<|ak rfl<|ak rfl<|ab (aU hT rfl rfl rfl rfl)<|ab (bd rfl rfl)<|ag ?_
   refine az rfl (fun hb3 => ?_) (fun hb3 => ?_)
   ·have hb3_ := dT0 hb3
    refine aw hP<|ak rfl<|ak rfl<|cJ ?_
    refine cr hT rfl rfl rfl ?_
    refine aj rfl<|ag ?_
    exact ⟨(), trivial, aF ⟨.refl _, .refl _, .refl _, .refl _, .refl _, .refl _, .refl _, trivial⟩ ⟨rfl, trivial⟩⟩
   have hb3_ := dF0 hb3
   refine au ?_
   exact ⟨(), trivial, aF ⟨.refl _, .refl _, .refl _, .refl _, .refl _, .refl _, aH (by rw [pT (by omega)]; rfl), trivial⟩ ⟨rfl, trivial⟩⟩
  rintro _ -
  refine aw hP<|ab (ay (rfl : _ = AV.vec _))<|ak rfl<|ab (ay (rfl : _ = AV.vec _))<|ak rfl<|c8 ?_
  refine ab (dm hT rfl rfl rfl rfl (by first | omega | (simp; omega)) (pO hlt)) ?_
  refine ak rfl<|ak rfl<|ab (ah (DJ _ _ _ (hA.getD _) (hb.getD _) (by omega))) ?_
  refine ab (ay (rfl : _ = AV.t _))<|ab (aD rfl (v := .c _) rfl)<|ab (aD rfl (v := .c _) rfl)<|c8 ?_
  refine dh ai (cn hT rfl rfl rfl rfl rfl (by first | omega | (simp; omega)) (pM hlt)) ?_
  refine aj rfl<|ag<|aw hP<|bw rfl rfl ?_
  refine ak rfl<|ag ?_
  have hs1 := hA.getD l.length
  have hs2 := hb.getD l.length
  have hr := zQ (A := (a ++ [0])) (b := b) (_r := []) hlt rfl hv _ rfl
  refine ⟨(l ++ [((a ++ [0]).getD l.length 0 + b.getD l.length 0 + c) % 4294967296], ((a ++ [0]).getD l.length 0 + b.getD l.length 0 + c) / 4294967296), ⟨by simp; omega, hol.snoc (Nat.mod_lt _ (by omega)), by omega, by simpa using hr⟩, by simp; omega, aF ⟨.refl _, .refl _, .refl _, .refl _, aN (by simp), trivial⟩ ⟨rfl, trivial⟩⟩
 have hb2_ := dF0 hb2
 have hge : l.length = (a ++ [0]).length := by omega
 have hfin := hol.app (hA.drop l.length)
 have hval := zT hge hl ha hb hol hv
 refine a7<|cH (t := 5) rfl rfl ?_
 refine ae hP<|ak rfl<|ab (ah (eQ _ hfin)) ?_
 refine aj rfl<|ag<|am<|E1 rfl rfl ?_
 exact aH (by rw [hval, hs])
end
section
open Go Go.AM
theorem vQ (a b : List Nat) (ha : okW a) (hb : okW b) (hla : a.length ≤ 1099511627776) (hab : b.length ≤ a.length) (hle : wv b ≤ wv a) :
  aI Tryz.prog 107 [.p (.c (W a)), .p (.c (W b))] (.p (.c (nt (wv a - wv b)))) := by
 refine aK Tryz.func107 rfl rfl rfl rfl ?_
 have h0l : (0 : Nat) ≤ a.length := Nat.zero_le _
 refine ae hP<|aj rfl<|ag<|ae hP<|ak rfl<|ab (aU hT rfl rfl rfl rfl)<|ao ai (ep hT rfl rfl rfl rfl rfl rfl rfl rfl (by omega)) ?_
 refine ab (bh (rfl : _ = AV.vec _))<|ag<|ae hP<|ab (ay (rfl : _ = AV.vec _))<|ak rfl<|RK.mut ai (mp hT rfl rfl rfl rfl rfl rfl rfl (by simp) (ws' := a) (by rw [A3, List.append_nil])) ?_
 refine ag<|ae hP<|aj rfl<|ag<|aq<|ae hP<|ab (ay (rfl : _ = AV.vec _))<|ab (eP hT rfl rfl rfl rfl)<|ak rfl<|ag<|aB<|bn (ι := List Nat × Nat) (fun ⟨l, c⟩ => stL [(1, .p (.c (W b))), (5, .vec 11), (6, .p (.c (w32 c))), (16, Z ((a.length : Nat) : Int)), (17, Z ((l.length : Nat) : Int))] [(11, WB 105 (l ++ a.drop l.length))]) (fun ⟨l, c⟩ => l.length ≤ a.length ∧ okW l ∧ c < 2 ∧ wv l + wv (b.take l.length) = wv (a.take l.length) + 4294967296 ^ l.length * c) (fun ⟨l, _⟩ => a.length - l.length) ([], 0) ⟨Nat.zero_le _, okW.nil, by omega, by simp [wv]⟩ (aF ⟨.refl _, .refl _, .refl _, .refl _, .refl _, trivial⟩ ⟨rfl, trivial⟩) ?_
 rintro ⟨l, c⟩ ⟨hll, hol, hc, hv⟩
 have hmid := pN hll
 refine ae hP<|ab (bd rfl rfl)<|ag<|aq ?_
 refine az rfl (fun hb1 => ?_) (fun hb1 => ?_)
 ·have hb1_ := dT0 hb1
  have hlt : l.length < a.length := by omega
  refine au<|aq<|aB<|ae hP<|ak rfl<|aj rfl<|ag<|ae hP<|aj rfl<|ag<|cB (ι := Unit) (fun _ => stL [(1, .p (.c (W b))), (5, .vec 11), (6, .p (.c (w32 c))), (16, Z ((a.length : Nat) : Int)), (17, Z ((l.length : Nat) : Int)), (7, Z ((l.length : Nat) : Int)), (8, .p (.c (w32 (b.getD l.length 0))))] [(11, WB 105 (l ++ a.drop l.length))]) (fun _ => True) ?_ ?_
  ·refine ae hP<|ak rfl<|ak rfl<|ab (aU hT rfl rfl rfl rfl)<|ab (bd rfl rfl)<|ag ?_
   refine az rfl (fun hb2 => ?_) (fun hb2 => ?_)
   ·have hb2_ := dT0 hb2
    refine aw hP<|ak rfl<|ak rfl<|cJ ?_
    refine cr hT rfl rfl rfl ?_
    refine aj rfl<|ag ?_
    exact ⟨(), trivial, aF ⟨.refl _, .refl _, .refl _, .refl _, .refl _, .refl _, .refl _, trivial⟩ ⟨rfl, trivial⟩⟩
   have hb2_ := dF0 hb2
   refine au ?_
   exact ⟨(), trivial, aF ⟨.refl _, .refl _, .refl _, .refl _, .refl _, .refl _, aH (by rw [pT (by omega)]; rfl), trivial⟩ ⟨rfl, trivial⟩⟩
  rintro _ -
  refine aw hP<|ab (ay (rfl : _ = AV.vec _))<|ak rfl<|ab (ay (rfl : _ = AV.vec _))<|ak rfl<|c8 ?_
  refine ab (dm hT rfl rfl rfl rfl (by first | omega | (simp; omega)) (pO hlt)) ?_
  refine ak rfl<|ak rfl<|ab (ah (wA _ _ _ (ha.getD _) (hb.getD _) hc)) ?_
  refine ab (ay (rfl : _ = AV.t _))<|ab (aD rfl (v := .c _) rfl)<|ab (aD rfl (v := .c _) rfl)<|c8 ?_
  refine dh ai (cn hT rfl rfl rfl rfl rfl (by first | omega | (simp; omega)) (pM hlt)) ?_
  refine aj rfl<|ag<|aw hP<|bw rfl rfl ?_
  refine ak rfl<|ag ?_
  have hr := yf rfl hc ha hb hv
  refine ⟨(l ++ [(a.getD l.length 0 + 8589934592 - b.getD l.length 0 - c) % 4294967296], if a.getD l.length 0 < b.getD l.length 0 + c then 1 else 0), ⟨by simp; omega, hol.snoc (Nat.mod_lt _ (by omega)), by split <;> omega, by simpa using hr⟩, by simp; omega, aF ⟨.refl _, .refl _, .refl _, .refl _, aN (by simp), trivial⟩ ⟨rfl, trivial⟩⟩
 have hb1_ := dF0 hb1
 have hge : l.length = a.length := by omega
 have hfin := hol.app (ha.drop l.length)
 have hval := yg hge hab hle hol hv
 refine a7<|cH (t := 5) rfl rfl ?_
 refine ae hP<|ak rfl<|ab (ah (eQ _ hfin)) ?_
 refine aj rfl<|ag<|am<|E1 rfl rfl ?_
 exact aH (by rw [hval])
theorem FN (a b : List Nat) (ha : okW a) (hb : okW b) (hla : a.length ≤ 1099511627776) (hlb : b.length ≤ 1099511627776) :
  aI Tryz.prog 64 [.p (.c (W a)), .p (.c (W b))] (.p (.c (nt (wv a * wv b)))) := by
 refine aK Tryz.func64 rfl rfl rfl rfl ?_
 refine ae hP<|aj rfl<|ag<|ae hP<|ak rfl<|ab (aU hT rfl rfl rfl rfl)<|ak rfl<|ab (aU hT rfl rfl rfl rfl)<|bw rfl rfl ?_
 refine ao ai (ep hT rfl rfl rfl rfl rfl rfl rfl rfl (by omega)) ?_
 refine ab (bh (rfl : _ = AV.vec _))<|ag<|aq<|ae hP<|ak rfl<|ab (aU hT rfl rfl rfl rfl)<|ak rfl<|ag<|aB<|bn (ι := List Nat × Nat) (fun ⟨o, i⟩ => stL [(1, .p (.c (W b))), (5, .vec 17), (18, .p (.c (W a))), (19, Z ((a.length : Nat) : Int)), (20, Z (i : Int))] [(17, WB 105 o)]) (fun ⟨o, i⟩ => i ≤ a.length ∧ o.length = a.length + b.length ∧ okW o ∧ wv o = wv (a.take i) * wv b ∧ ∀ j, i + b.length ≤ j → o.getD j 0 = 0) (fun ⟨_, i⟩ => a.length - i) (List.replicate ((a.length : Int) + (b.length : Int)).toNat 0, 0) ⟨Nat.zero_le _, by simp; omega, okW.rep _, by rw [kM]; simp [wv], fun j _ => lH _ _⟩ (aF ⟨.refl _, .refl _, .refl _, .refl _, .refl _, trivial⟩ ⟨rfl, trivial⟩) ?_
 rintro ⟨o, i⟩ ⟨hi, hlo, ho, hv, hz⟩
 refine ae hP<|ab (bd rfl rfl)<|ag<|aq ?_
 refine az rfl (fun hb1 => ?_) (fun hb1 => ?_)
 ·have hb1_ := dT0 hb1
  have hlt0 : i < a.length := by omega
  refine au<|aq<|aB<|ae hP<|ak rfl<|cJ ?_
  refine cr hT rfl rfl rfl ?_
  refine aj rfl<|aj rfl<|ag<|ae hP<|aj rfl<|ag<|aq<|ae hP<|ak rfl<|ab (aU hT rfl rfl rfl rfl)<|ak rfl<|ag<|aB ?_
  obtain ⟨o0, ho0⟩ : ∃ o0, o0 = o := ⟨_, rfl⟩
  have hv0 := hv
  rw [← ho0] at hv
  refine bn (ι := List Nat × Nat × Nat) (fun ⟨o, k, c⟩ => stL [(1, .p (.c (W b))), (5, .vec 17), (18, .p (.c (W a))), (19, Z ((a.length : Nat) : Int)), (20, Z (i : Int)), (6, Z (i : Int)), (7, .p (.c (w32 (a.getD i 0)))), (8, .p (.c (.v (.int .u64 (c : Nat))))), (25, .p (.c (W b))), (26, Z ((b.length : Nat) : Int)), (27, Z (k : Int))] [(17, WB 105 o)]) (fun ⟨o, k, c⟩ => k ≤ b.length ∧ o.length = a.length + b.length ∧ okW o ∧ c < 4294967296 ∧ wv o + 4294967296 ^ (i + k) * c = wv o0 + 4294967296 ^ i * (a.getD i 0 * wv (b.take k)) ∧ ∀ j, i + b.length ≤ j → o.getD j 0 = 0) (fun ⟨_, k, _⟩ => b.length - k) (o, 0, 0) ⟨Nat.zero_le _, hlo, ho, by omega, by rw [ho0]; simp [wv], hz⟩ (aF ⟨.refl _, .refl _, .refl _, .refl _, .refl _, .refl _, .refl _, .refl _, .refl _, .refl _, .refl _, trivial⟩ ⟨rfl, trivial⟩) ?_
  clear hlo ho hz hv0 ho0
  rintro ⟨o, k, c⟩ ⟨hk, hlo, ho, hc, hkv, hz⟩
  refine ae hP<|ab (bd rfl rfl)<|ag<|aq ?_
  refine az rfl (fun hb2 => ?_) (fun hb2 => ?_)
  ·have hb2_ := dT0 hb2
   have hlt : k < b.length := by omega
   have ha1 := ha.getD i
   have hb1v := hb.getD k
   have hp1 := Nat.mul_le_mul (Nat.le_sub_one_of_lt (ha.getD i)) (Nat.le_sub_one_of_lt (hb.getD k))
   have ho1 := ho.getD (i + k)
   refine au<|aq<|aB<|ae hP<|ak rfl<|cJ ?_
   refine cr hT rfl rfl rfl ?_
   refine aj rfl<|aj rfl<|ag<|ae hP<|ak rfl<|ab (bf hT rfl rfl rfl rfl (cU (by omega))) ?_
   refine ak rfl<|ab (bf hT rfl rfl rfl rfl (cU (by omega))) ?_
   refine ab (bK rfl rfl (c := ((a.getD i 0 * b.getD k 0 : Nat) : Int)) (by rw [← Int.natCast_mul, cU (by omega)])) ?_
   refine ab (ay (rfl : _ = AV.vec _))<|ak rfl<|ak rfl<|ab (bH rfl rfl (c := ((i + k : Nat) : Int)) (by rw [iW0 _ (by omega)]; omega)) ?_
   refine c8 ?_
   refine ab (dm hT rfl rfl rfl rfl (by first | omega | (simp; omega)) rfl) ?_
   refine ab (bf hT rfl rfl rfl rfl (cU (by omega))) ?_
   refine ab (bH rfl rfl (c := ((a.getD i 0 * b.getD k 0 + o.getD (i + k) 0 : Nat) : Int)) (by rw [← Int.natCast_add, cU (by omega)])) ?_
   refine ak rfl<|ab (bH rfl rfl (c := ((a.getD i 0 * b.getD k 0 + o.getD (i + k) 0 + c : Nat) : Int)) (by rw [← Int.natCast_add, cU (by omega)])) ?_
   refine aj rfl<|ag<|aw hP<|ab (ay (rfl : _ = AV.vec _))<|ak rfl<|ak rfl<|ab (bH rfl rfl (c := ((i + k : Nat) : Int)) (by rw [iW0 _ (by omega)]; omega)) ?_
   refine ak rfl<|ab (bf hT rfl rfl rfl rfl (c := (((a.getD i 0 * b.getD k 0 + o.getD (i + k) 0 + c) % 4294967296 : Nat) : Int)) (by rw [IntKind.wrap_u32]; omega)) ?_
   refine ak rfl<|ab (c9 (j := 32) rfl rfl (by first | decide | omega)) ?_
   refine c8 ?_
   refine dh ai (cn hT rfl rfl rfl rfl rfl (by first | omega | (simp; omega)) rfl) ?_
   refine aj rfl<|ag<|aw hP<|bw rfl rfl ?_
   refine ak rfl<|ag ?_
   have hr := qE (b := b) (x := a.getD i 0) (i := i) (k := k) (t := a.getD i 0 * b.getD k 0 + o.getD (i + k) 0 + c) (by omega) rfl hkv
   refine ⟨(o.set (i + k) ((a.getD i 0 * b.getD k 0 + o.getD (i + k) 0 + c) % 4294967296), k + 1, (a.getD i 0 * b.getD k 0 + o.getD (i + k) 0 + c) / 4294967296), ⟨by omega, by simpa using hlo, ho.set (Nat.mod_lt _ (by omega)), (Nat.div_lt_iff_lt_mul (by omega)).2 (by omega), hr, fun j hj => ?_⟩, by show b.length - (k + 1) < b.length - k; omega, aF ⟨.refl _, .refl _, .refl _, .refl _, .refl _, .refl _, .refl _, .refl _, .refl _, .refl _, .refl _, trivial⟩ ⟨rfl, trivial⟩⟩
   rw [fl _ _ _ _ (by omega), if_neg (by omega)]
   exact hz j (by omega)
  have hb2_ := dF0 hb2
  have hke : k = b.length := by omega
  subst hke
  refine a7<|aw hP<|ab (ay (rfl : _ = AV.vec _))<|ak rfl<|ak rfl<|ab (aU hT rfl rfl rfl rfl)<|ab (bH rfl rfl (c := ((i + b.length : Nat) : Int)) (by rw [iW0 _ (by omega)]; omega)) ?_
  refine ak rfl<|ab (bf hT rfl rfl rfl rfl (ky (by omega))) ?_
  refine c8 ?_
  refine dh ai (cn hT rfl rfl rfl rfl rfl (by first | omega | (simp; omega)) rfl) ?_
  refine ag<|aw hP<|bw rfl rfl ?_
  refine ak rfl<|ag ?_
  have hov := qF (o := o0) (a := a) (by omega) (hz _ (Nat.le_refl _)) rfl hv hkv
  refine ⟨(o.set (i + b.length) c, i + 1), ⟨by omega, by simpa using hlo, ho.set (by omega), hov, fun j hj => ?_⟩, by show a.length - (i + 1) < a.length - i; omega, aF ⟨.refl _, .refl _, .refl _, .refl _, .refl _, trivial⟩ ⟨rfl, trivial⟩⟩
  rw [fl _ _ _ _ (by omega), if_neg (by omega)]
  exact hz j (by omega)
 have hb1_ := dF0 hb1
 have hie : i = a.length := by omega
 refine a7<|cH (t := 5) rfl rfl ?_
 refine ae hP<|ak rfl<|ab (ah (eQ _ ho)) ?_
 refine aj rfl<|ag<|am<|E1 rfl rfl ?_
 exact aH (by rw [hv, hie, List.take_length])
end
section
open Go Go.AM
theorem pK (a : List Nat) (k : Nat) (ha : okW a) (hla : a.length ≤ 1099511627776) (hk : k ≤ 1099511627776) :
  aI Tryz.prog 207 [.p (.c (W a)), Z (k : Int)] (.p (.c (nt (wv a * 2 ^ k)))) := by
 refine aK Tryz.func207 rfl rfl rfl rfl ?_
 obtain ⟨q, hq⟩ : ∃ q, q = k / 32 := ⟨_, rfl⟩
 obtain ⟨s, hs⟩ : ∃ s, s = k % 32 := ⟨_, rfl⟩
 have hks : k = 32 * q + s := by omega
 have hs32 : s < 32 := by omega
 refine ae hP<|aj rfl<|ag<|ae hP<|ak rfl<|ab (aU hT rfl rfl rfl rfl)<|ak rfl<|ab (dj rfl rfl (by decide) (c := ((q : Nat) : Int)) (by rw [Int.tdiv_eq_ediv_of_nonneg (by omega), iW0 _ (by omega)]; omega)) ?_
 refine ab (bH rfl rfl (c := ((a.length + q : Nat) : Int)) (by rw [iW0 _ (by omega)]; omega)) ?_
 refine ab (bH rfl rfl (c := ((a.length + q + 1 : Nat) : Int)) (by rw [iW0 _ (by omega)]; omega)) ?_
 refine ao ai (ep hT rfl rfl rfl rfl rfl rfl rfl rfl (by omega)) ?_
 refine ab (bh (rfl : _ = AV.vec _))<|ag<|aq<|ae hP<|ak rfl<|ab (aU hT rfl rfl rfl rfl)<|ak rfl<|ag<|aB<|bn (ι := List Nat × Nat) (fun ⟨o, i⟩ => stL [(1, Z (k : Int)), (5, .vec 15), (16, .p (.c (W a))), (17, Z ((a.length : Nat) : Int)), (18, Z (i : Int))] [(15, WB 105 o)]) (fun ⟨o, i⟩ => i ≤ a.length ∧ o.length = a.length + q + 1 ∧ okW o ∧ wv o = wv (a.take i) * 2 ^ k ∧ o.getD (i + q) 0 < 2 ^ s ∧ ∀ j, i + q < j → o.getD j 0 = 0) (fun ⟨_, i⟩ => a.length - i) (List.replicate ((a.length + q + 1 : Nat) : Int).toNat 0, 0) ⟨Nat.zero_le _, by simp; omega, okW.rep _, by rw [kM]; simp [wv], by rw [lH]; exact Nat.two_pow_pos s, fun j _ => lH _ _⟩ (aF ⟨.refl _, .refl _, .refl _, .refl _, .refl _, trivial⟩ ⟨rfl, trivial⟩) ?_
 rintro ⟨o, i⟩ ⟨hi, hlo, ho, hv, hlow, hz⟩
 refine ae hP<|ab (bd rfl rfl)<|ag<|aq ?_
 refine az rfl (fun hb1 => ?_) (fun hb1 => ?_)
 ·have hb1_ := dT0 hb1
  have hlt : i < a.length := by omega
  have hai := ha.getD i
  have hoi := ho.getD (i + q)
  have hti : a.getD i 0 * 2 ^ s / 4294967296 < 4294967296 := yo hai hs32
  refine au<|aq<|aB<|ae hP<|ak rfl<|cJ ?_
  refine cr hT rfl rfl rfl ?_
  refine aj rfl<|aj rfl<|ag<|ae hP<|ak rfl<|ab (bf hT rfl rfl rfl rfl (cU (by omega))) ?_
  refine ak rfl<|ab (bW rfl rfl (by decide) (c := ((s : Nat) : Int)) (by rw [Int.tmod_eq_emod_of_nonneg (by omega)]; omega)) ?_
  refine ab (kU rfl rfl (by omega) (c := ((a.getD i 0 * 2 ^ s : Nat) : Int)) (wF hai hs32)) ?_
  refine aj rfl<|ag<|ae hP<|ab (ay (rfl : _ = AV.vec _))<|ak rfl<|ak rfl<|ab (dj rfl rfl (by decide) (c := ((q : Nat) : Int)) (by rw [Int.tdiv_eq_ediv_of_nonneg (by omega), iW0 _ (by omega)]; omega)) ?_
  refine ab (bH rfl rfl (c := ((i + q : Nat) : Int)) (by rw [iW0 _ (by omega)]; omega)) ?_
  refine c8 ?_
  refine ab (dm hT rfl rfl rfl rfl (by first | omega | (simp; omega)) rfl) ?_
  refine ak rfl<|ab (bf hT rfl rfl rfl rfl (c := ((a.getD i 0 * 2 ^ s % 4294967296 : Nat) : Int)) (by rw [IntKind.wrap_u32]; omega)) ?_
  refine ab (mn rfl rfl rfl (gS hoi) (gS (Nat.mod_lt _ (by omega)))) ?_
  refine c8 ?_
  refine dh ai (cn hT rfl rfl rfl rfl rfl (by first | omega | (simp; omega)) rfl) ?_
  refine ag<|aw hP<|ab (ay (rfl : _ = AV.vec _))<|ak rfl<|ak rfl<|ab (dj rfl rfl (by decide) (c := ((q : Nat) : Int)) (by rw [Int.tdiv_eq_ediv_of_nonneg (by omega), iW0 _ (by omega)]; omega)) ?_
  refine ab (bH rfl rfl (c := ((i + q : Nat) : Int)) (by rw [iW0 _ (by omega)]; omega)) ?_
  refine ab (bH rfl rfl (c := ((i + q + 1 : Nat) : Int)) (by rw [iW0 _ (by omega)]; omega)) ?_
  refine ak rfl<|ab (c9 (j := 32) rfl rfl (by decide)) ?_
  refine ab (bf hT rfl rfl rfl rfl (c := ((a.getD i 0 * 2 ^ s / 4294967296 : Nat) : Int)) (ky hti)) ?_
  refine c8 ?_
  refine dh ai (cn hT rfl rfl rfl rfl rfl (by first | omega | (simp; omega)) rfl) ?_
  refine ag<|aw hP<|bw rfl rfl ?_
  refine ak rfl<|ag ?_
  have hr := yn (a := a) (x := a.getD i 0) hks hs32 (by omega) rfl hlow (hz _ (by omega)) hv
  have hts : a.getD i 0 * 2 ^ s / 4294967296 < 2 ^ s := by
   rw [Nat.div_lt_iff_lt_mul (by omega), Nat.mul_comm]; exact Nat.mul_lt_mul_of_pos_left hai (Nat.two_pow_pos s)
  refine ⟨((o.set (i + q) (o.getD (i + q) 0 ||| a.getD i 0 * 2 ^ s % 4294967296)).set (i + q + 1) (a.getD i 0 * 2 ^ s / 4294967296), i + 1), ⟨by omega, by simpa using hlo, (ho.set (Nat.or_lt_two_pow (n := 32) hoi (Nat.mod_lt _ (by omega)))).set hti, hr, ?_, fun j hj => ?_⟩, by show a.length - (i + 1) < a.length - i; omega, aF ⟨.refl _, .refl _, .refl _, .refl _, .refl _, trivial⟩ ⟨rfl, trivial⟩⟩
  ·rw [show i + 1 + q = i + q + 1 by omega, fl _ _ _ _ (by simp; omega), if_pos rfl]; exact hts
  rw [fl _ _ _ _ (by simp; omega), if_neg (by omega), fl _ _ _ _ (by omega), if_neg (by omega)]
  exact hz j (by omega)
 have hb1_ := dF0 hb1
 have hie : i = a.length := by omega
 refine a7<|cH (t := 5) rfl rfl ?_
 refine ae hP<|ak rfl<|ab (ah (eQ _ ho)) ?_
 refine aj rfl<|ag<|am<|E1 rfl rfl ?_
 exact aH (by rw [hv, hie, List.take_length])
theorem FM (a : List Nat) (k : Nat) (ha : okW a) (hla : a.length ≤ 1099511627776) (hk : k < 32) :
  aI Tryz.prog 208 [.p (.c (W a)), Z (k : Int)] (.p (.c (nt (wv a / 2 ^ k)))) := by
 refine aK Tryz.func208 rfl rfl rfl rfl ?_
 have h0l : (0 : Nat) ≤ a.length := Nat.zero_le _
 refine ae hP<|aj rfl<|ag<|ae hP<|ak rfl<|ab (aU hT rfl rfl rfl rfl)<|ao ai (ep hT rfl rfl rfl rfl rfl rfl rfl rfl (by omega)) ?_
 refine ab (bh (rfl : _ = AV.vec _))<|ag<|aq<|ae hP<|ab (ay (rfl : _ = AV.vec _))<|ab (eP hT rfl rfl rfl rfl)<|ak rfl<|ag<|aB<|bn (ι := List Nat × Nat) (fun ⟨o, i⟩ => stL [(0, .p (.c (W a))), (1, Z (k : Int)), (5, .vec 10), (12, Z ((a.length : Nat) : Int)), (13, Z (i : Int))] [(10, WB 105 o)]) (fun ⟨o, i⟩ => i ≤ a.length ∧ o.length = a.length ∧ ∀ j, j < i → o.getD j 0 = iB a k j) (fun ⟨_, i⟩ => a.length - i) (List.replicate ((a.length : Nat) : Int).toNat 0, 0) ⟨Nat.zero_le _, by simp, fun j hj => by omega⟩ (aF ⟨.refl _, .refl _, .refl _, aN (by simp), .refl _, trivial⟩ ⟨rfl, trivial⟩) ?_
 rintro ⟨o, i⟩ ⟨hi, hlo, hv⟩
 refine ae hP<|ab (bd rfl rfl)<|ag<|aq ?_
 refine az rfl (fun hb1 => ?_) (fun hb1 => ?_)
 ·have hb1_ := dT0 hb1
  have hlt : i < a.length := by omega
  have hai := ha.getD i
  refine au<|aq<|aB<|ae hP<|ak rfl<|aj rfl<|ag<|ae hP<|ak rfl<|ak rfl<|cJ ?_
  refine cr hT rfl rfl rfl ?_
  refine ab (bf hT rfl rfl rfl rfl (cU (by omega))) ?_
  refine aj rfl<|ag<|cB (ι := Unit) (fun _ => stL [(0, .p (.c (W a))), (1, Z (k : Int)), (5, .vec 10), (12, Z ((a.length : Nat) : Int)), (13, Z (i : Int)), (6, Z (i : Int)), (7, .p (.c (.v (.int .u64 ((a.getD i 0 + 4294967296 * a.getD (i + 1) 0 : Nat) : Int)))))] [(10, WB 105 o)]) (fun _ => True) ?_ ?_
  ·refine ae hP<|ak rfl<|ab (bH rfl rfl (c := ((i + 1 : Nat) : Int)) (by rw [iW0 _ (by omega)]; omega)) ?_
   refine ak rfl<|ab (aU hT rfl rfl rfl rfl)<|ab (bd rfl rfl)<|ag ?_
   refine az rfl (fun hb2 => ?_) (fun hb2 => ?_)
   ·have hb2_ := dT0 hb2
    refine aw hP<|ak rfl<|ak rfl<|ak rfl<|ab (bH rfl rfl (c := ((i + 1 : Nat) : Int)) (by rw [iW0 _ (by omega)]; omega)) ?_
    refine cJ ?_
    refine cr hT rfl rfl rfl ?_
    refine ab (bf hT rfl rfl rfl rfl (cU (by have := ha.getD (i + 1); omega))) ?_
    refine ab (iG (j := 32) rfl rfl (by decide) rfl) ?_
    refine ab (kt rfl rfl (c := ((a.getD i 0 + 4294967296 * a.getD (i + 1) 0 : Nat) : Int)) (by rw [rb hai (ha.getD (i + 1))])) ?_
    refine aj rfl<|ag ?_
    exact ⟨(), trivial, aF ⟨.refl _, .refl _, .refl _, .refl _, .refl _, .refl _, .refl _, trivial⟩ ⟨rfl, trivial⟩⟩
   have hb2_ := dF0 hb2
   refine au ?_
   exact ⟨(), trivial, aF ⟨.refl _, .refl _, .refl _, .refl _, .refl _, .refl _, aN (by rw [pT (k := i + 1) (by omega)]; omega), trivial⟩ ⟨rfl, trivial⟩⟩
  rintro _ -
  have hai2 := ha.getD (i + 1)
  refine aw hP<|ab (ay (rfl : _ = AV.vec _))<|ak rfl<|ak rfl<|ak rfl<|ab (c9 (j := k) rfl rfl (by show k ≤ 64; omega)) ?_
  refine ab (bf hT rfl rfl rfl rfl (c := ((iB a k i : Nat) : Int)) (by rw [IntKind.wrap_u32]; unfold iB; omega)) ?_
  refine c8 ?_
  refine dh ai (cn hT rfl rfl rfl rfl rfl (by first | omega | (simp; omega)) rfl) ?_
  refine ag<|aw hP<|bw rfl rfl ?_
  refine ak rfl<|ag ?_
  refine ⟨(o.set i (iB a k i), i + 1), ⟨by omega, by simpa using hlo, fun j hj => ?_⟩, by show a.length - (i + 1) < a.length - i; omega, aF ⟨.refl _, .refl _, .refl _, .refl _, .refl _, trivial⟩ ⟨rfl, trivial⟩⟩
  rw [fl _ _ _ _ (by omega)]
  split
  ·subst_vars; rfl
  exact hv j (by omega)
 have hb1_ := dF0 hb1
 have hie : i = a.length := by omega
 have hoe := EH (hie ▸ hv) hlo
 have hook := HW a k
 refine a7<|cH (t := 5) rfl rfl ?_
 refine ae hP<|ak rfl<|ab (ah (eQ _ (hoe ▸ hook))) ?_
 refine aj rfl<|ag<|am<|E1 rfl rfl ?_
 exact aH (by rw [hoe, vk k hk a ha])
theorem uP (a : List Nat) (d : Nat) (ha : okW a) (hla : a.length ≤ 1099511627776) (hd : 0 < d) (hd2 : d < 4294967296) :
  aI Tryz.prog 205 [.p (.c (W a)), .p (.c (w32 d))] (.t [.c (nt (wv a / d)), .c (w32 (wv a % d))]) := by
 refine aK Tryz.func205 rfl rfl rfl rfl ?_
 have h0l : (0 : Nat) ≤ a.length := Nat.zero_le _
 refine ae hP<|aj rfl<|aj rfl<|ag<|ae hP<|ak rfl<|ab (aU hT rfl rfl rfl rfl)<|ao ai (ep hT rfl rfl rfl rfl rfl rfl rfl rfl (by omega)) ?_
 refine ab (bh (rfl : _ = AV.vec _))<|ag<|ae hP<|aj rfl<|ag<|aq<|ae hP<|ak rfl<|ab (aU hT rfl rfl rfl rfl)<|ab (bB rfl rfl (by first | exact iW0 _ (by omega) | rfl)) ?_
 refine aj rfl<|ag<|aB<|bn (ι := List Nat × Nat × Nat) (fun ⟨o, i, r⟩ => stL [(0, .p (.c (W a))), (1, .p (.c (w32 d))), (6, .vec 11), (7, .p (.c (w32 r))), (8, Z ((i : Int) - 1))] [(11, WB 105 o)]) (fun ⟨o, i, r⟩ => i ≤ a.length ∧ o.length = a.length ∧ okW o ∧ r < d ∧ wv (a.drop i) = d * wv (o.drop i) + r) (fun ⟨_, i, _⟩ => i) (List.replicate ((a.length : Nat) : Int).toNat 0, a.length, 0) ⟨Nat.le_refl _, by simp, okW.rep _, hd, by simp [wv]⟩ (aF ⟨.refl _, .refl _, .refl _, .refl _, .refl _, trivial⟩ ⟨rfl, trivial⟩) ?_
 rintro ⟨o, i, r⟩ ⟨hi, hlo, ho, hr, hv⟩
 refine aq<|ae hP<|ak rfl<|ab (dc rfl rfl)<|ag ?_
 refine az rfl (fun hb1 => ?_) (fun hb1 => ?_)
 ·have hb1_ := dT0 hb1
  obtain ⟨i, rfl⟩ : ∃ k, i = k + 1 := ⟨i - 1, by omega⟩
  have hc : ((i + 1 : Nat) : Int) - 1 = (i : Int) := by omega
  have hai := ha.getD i
  have hq : (r * 4294967296 + a.getD i 0) / d < 4294967296 := (Nat.div_lt_iff_lt_mul hd).2 (by have : (r + 1) * 4294967296 ≤ d * 4294967296 := Nat.mul_le_mul_right _ hr; omega)
  refine dE (t := stL [(0, .p (.c (W a))), (1, .p (.c (w32 d))), (6, .vec 11), (7, .p (.c (w32 r))), (8, Z (i : Int))] [(11, WB 105 o)]) (aF ⟨.refl _, .refl _, .refl _, .refl _, aN hc, trivial⟩ ⟨rfl, trivial⟩) ?_
  refine au<|aq<|aB<|aw hP<|ab (ay (rfl : _ = AV.vec _))<|ak rfl<|ak rfl<|ak rfl<|ak rfl<|cJ ?_
  refine cr hT rfl rfl rfl ?_
  refine ak rfl<|ab (ah (LU _ _ _ hd2 hr hai)) ?_
  refine ab (ay (rfl : _ = AV.t _))<|ab (aD rfl (v := .c _) rfl)<|ab (aD rfl (v := .c _) rfl)<|c8 ?_
  refine dh ai (cn hT rfl rfl rfl rfl rfl (by first | omega | (simp; omega)) rfl) ?_
  refine aj rfl<|ag<|aw hP<|ak rfl<|ab (bB rfl rfl (by first | exact iW0 _ (by omega) | rfl)) ?_
  refine aj rfl<|ag ?_
  refine ⟨(o.set i ((r * 4294967296 + a.getD i 0) / d), i, (r * 4294967296 + a.getD i 0) % d), ⟨by omega, by simpa using hlo, ho.set hq, Nat.mod_lt _ hd, xE (by omega) hlo hv hd⟩, by show i < i + 1; omega, aF ⟨.refl _, .refl _, .refl _, .refl _, aN (by omega), trivial⟩ ⟨rfl, trivial⟩⟩
 have hb1_ := dF0 hb1
 have hie : i = 0 := by omega
 subst hie
 refine a7<|cH (t := 6) rfl rfl ?_
 refine ae hP<|ak rfl<|ab (ah (eQ _ ho)) ?_
 refine ak rfl<|aj rfl<|aj rfl<|ag<|am<|E11 rfl rfl rfl ?_
 rw [List.drop_zero, List.drop_zero] at hv
 have e1 : wv a / d = wv o := by rw [hv, Nat.mul_add_div hd, Nat.div_eq_of_lt hr, Nat.add_zero]
 have e2 : wv a % d = r := by rw [hv, Nat.mul_add_mod, Nat.mod_eq_of_lt hr]
 exact aH (by rw [e1, e2])
end
section
open Go Go.AM
theorem FO (a b : Nat) (hla : (wl a).length ≤ 1099511627776) (hb : 0 < b) :
  aI Tryz.prog 171 [.p (.c (nt a)), .p (.c (nt b))] (.t [.c (nt (a / b)), .c (nt (a % b))]) := by
 refine aK Tryz.func171 rfl rfl rfl rfl ?_
 have h0l : (0 : Nat) ≤ (wl a).length := Nat.zero_le _
 have hbl := dl b
 refine ae hP<|aj rfl<|aj rfl<|ag<|aq<|ae hP<|ak rfl<|ak rfl<|ab (ah (pL a b)) ?_
 refine ab (bd rfl rfl)<|ag ?_
 refine az rfl (fun hb1 => ?_) (fun hb1 => ?_)
 ·have hb1_ := dT0 hb1
  have hlt : a < b := by
   unfold bu at *; split at * <;> first | omega | (split at * <;> omega)
  refine ae hP<|ak rfl<|aj rfl<|aj rfl<|ag<|am<|E11 rfl rfl rfl ?_
  exact Sub.tup ⟨fun _ _ h => DSub.of_eq (by rw [Nat.div_eq_of_lt hlt]; rfl) _ _ (DSub.nil_sl _ _ h), DSub.of_eq (by rw [Nat.mod_eq_of_lt hlt]), trivial⟩
 have hb1_ := dF0 hb1
 have hab : b ≤ a := by
  unfold bu at *; split at * <;> first | omega | (split at * <;> omega)
 have hll := fA hab
 refine au<|aq<|ae hP<|ak rfl<|ab (aU hT rfl rfl rfl rfl)<|ab (bq rfl rfl)<|ag ?_
 refine az rfl (fun hb2 => ?_) (fun hb2 => ?_)
 ·have hb2_ := bT hb2
  have h1 : (wl b).length = 1 := by omega
  have hd2 := (bG b).getD 0
  have hbe : b = (wl b).getD 0 0 := by
   have := mU (n := 0) h1
   rw [bD] at this; simpa [wv] using this
  have hmod : wv (wl a) % (wl b).getD 0 0 < 4294967296 := Nat.lt_trans (Nat.mod_lt _ (by omega)) hd2
  have hr1 : okW [wv (wl a) % (wl b).getD 0 0] := by intro x hx; rw [List.mem_singleton.1 hx]; exact hmod
  have hd1 : 0 < (wl b).getD 0 0 := by omega
  have hdiv : a / (wl b).getD 0 0 = a / b ∧ a % (wl b).getD 0 0 = a % b := by rw [← hbe]; exact ⟨rfl, rfl⟩
  refine ae hP<|ak rfl<|ak rfl<|cJ ?_
  refine cr hT rfl rfl rfl ?_
  refine ab (ah (uP (wl a) ((wl b).getD 0 0) (bG a) hla hd1 hd2)) ?_
  refine ab (ay (rfl : _ = AV.t _))<|ab (aD rfl (v := .c _) rfl)<|ab (aD rfl (v := .c _) rfl)<|aj rfl<|aj rfl<|ag<|ae hP<|ak rfl<|ak rfl<|ab (bg hT rfl rfl rfl (es := [_]) rfl rfl rfl)<|ab (ah (eQ [_] hr1)) ?_
  refine aj rfl<|aj rfl<|ag<|am<|E11 rfl rfl rfl ?_
  exact aH (by rw [bD, hdiv.1, hdiv.2]; simp [wv])
 have hb2_ := bF hb2
 obtain ⟨k, hk⟩ : ∃ k, (wl b).length = k + 1 + 1 := by
  refine ⟨(wl b).length - 2, ?_⟩
  have : (wl b).length ≠ 0 := by intro h; rw [h] at hbl; omega
  omega
 obtain ⟨s, hs⟩ : ∃ s, s = 32 - a8 ((wl b).getD (k + 1) 0) := ⟨_, rfl⟩
 obtain ⟨hn1, hn2, hs32, hbp⟩ := xh hk hs
 have hb3 : a8 ((wl b).getD (k + 1) 0) ≤ 32 := ga (k := 32) (by simpa using (bG b).getD (k + 1))
 have hsl := EJ (m := a) hs32
 have hva := bD a
 have hvb := bD b
 obtain ⟨v, hv⟩ : ∃ v, v = wl (b * 2 ^ s) := ⟨_, rfl⟩
 obtain ⟨x, hx⟩ : ∃ x, x = wl (a * 2 ^ s) := ⟨_, rfl⟩
 have okv : okW v := hv ▸ bG _
 have okx : okW x := hx ▸ bG _
 have hwv : wv v = b * 2 ^ s := by rw [hv, bD]
 have hwx : wv x = a * 2 ^ s := by rw [hx, bD]
 have cb : aI Tryz.prog 207 [.p (.c (nt b)), Z (s : Int)] (.p (.c (W v))) := by
  have := pK (wl b) s (bG b) (by omega) (by omega)
  rw [hvb] at this; rw [hv]; exact this
 have ca : aI Tryz.prog 207 [.p (.c (nt a)), Z (s : Int)] (.p (.c (W x))) := by
  have := pK (wl a) s (bG a) (by omega) (by omega)
  rw [hva] at this; rw [hx]; exact this
 rw [← hv] at hn1 hn2
 rw [← hx] at hsl
 obtain ⟨u0, hu0⟩ : ∃ u0, u0 = x ++ (List.replicate ((((wl a).length : Nat) : Int) + 1).toNat 0).drop x.length := ⟨_, rfl⟩
 have hu0l : u0.length = (wl a).length + 1 := by rw [hu0]; simp; omega
 have oku0 : okW u0 := by rw [hu0]; exact okx.app ((okW.rep _).drop _)
 have hwu0 : wv u0 = a * 2 ^ s := by
  rw [hu0, fN, List.drop_replicate, kM, Nat.mul_zero, Nat.add_zero, hwx]
 refine au<|ae hP<|ak rfl<|ak rfl<|ab (aU hT rfl rfl rfl rfl)<|ab (bB rfl rfl (c := ((k + 1 : Nat) : Int)) (by rw [iW0 _ (by omega)]; omega)) ?_
 refine cJ ?_
 refine cr hT rfl rfl rfl ?_
 refine ab (ah (MM _ ((bG b).getD _))) ?_
 refine aj rfl<|ag<|dE (t := stL [(0, .p (.c (nt a))), (1, .p (.c (nt b))), (8, Z (s : Int))] []) (aF ⟨.refl _, .refl _, aN (by omega), trivial⟩ trivial) ?_
 refine ae hP<|ak rfl<|ak rfl<|ab (ah cb) ?_
 refine aj rfl<|ag<|ae hP<|ak rfl<|ab (aU hT rfl rfl rfl rfl)<|aj rfl<|ag<|ae hP<|ak rfl<|ab (aU hT rfl rfl rfl rfl)<|bw rfl rfl ?_
 refine ao ai (ep hT rfl rfl rfl rfl rfl rfl rfl rfl (by omega)) ?_
 refine ab (bh (rfl : _ = AV.vec _))<|ag<|ae hP<|ab (ay (rfl : _ = AV.vec _))<|ak rfl<|ak rfl<|ab (ah ca) ?_
 refine RK.mut ai (mp hT rfl rfl rfl rfl rfl rfl rfl (by simp; omega) (ws' := u0) hu0.symm) ?_
 refine ag<|ae hP<|ab (ay (rfl : _ = AV.vec _))<|ab (eP hT rfl rfl rfl rfl)<|ak rfl<|ab (bB rfl rfl (c := (((wl a).length + 1 - (k + 2) : Nat) : Int)) (by rw [iW0 _ (by rw [hu0l]; omega), hu0l]; omega)) ?_
 refine ao ai (ep hT rfl rfl rfl rfl rfl rfl rfl rfl (by omega)) ?_
 refine ab (bh (rfl : _ = AV.vec _))<|ag<|aq<|ae hP<|ab (ay (rfl : _ = AV.vec _))<|ab (eP hT rfl rfl rfl rfl)<|ab (bB rfl rfl (c := (((wl a).length + 1 - (k + 2) : Nat) : Int) - 1) (by simp only [List.length_replicate, Int.toNat_natCast]; exact iW0 _ (by omega))) ?_
 refine aj rfl<|ag<|aB<|bn (ι := List Nat × List Nat × Nat) (fun ⟨u, q, i⟩ => stL [(8, Z (s : Int)), (9, .p (.c (W v))), (10, Z ((k + 2 : Nat) : Int)), (11, .vec 60), (12, .vec 70), (13, Z ((i : Int) - 1))] [(60, WB 105 u), (70, WB 105 q)]) (fun ⟨u, q, i⟩ => u.length = (wl a).length + 1 ∧ okW u ∧ q.length = (wl a).length + 1 - (k + 2) ∧ okW q ∧ i ≤ q.length ∧ wv (u.drop i) < wv v ∧ a * 2 ^ s = wv v * (4294967296 ^ i * wv (q.drop i)) + wv u) (fun ⟨_, _, i⟩ => i) (u0, List.replicate (((wl a).length + 1 - (k + 2) : Nat) : Int).toNat 0, (wl a).length + 1 - (k + 2)) ⟨hu0l, oku0, by simp, okW.rep _, by simp, by rw [hwv]; exact zr hwu0 hu0l hbp (by omega), by rw [hwu0, List.drop_replicate, kM]; simp⟩ (aF ⟨.refl _, .refl _, aN (by omega), .refl _, .refl _, .refl _, trivial⟩ ⟨rfl, rfl, trivial⟩) ?_
 rintro ⟨u, q, i⟩ ⟨hlu, hok, hlq, hqok, hi, hlow, hM⟩
 have hiq := hi
 refine aq<|ae hP<|ak rfl<|ab (dc rfl rfl)<|ag ?_
 refine az rfl (fun hb3 => ?_) (fun hb3 => ?_)
 ·have hb3_ := dT0 hb3
  obtain ⟨j, rfl⟩ : ∃ k, i = k + 1 := ⟨i - 1, by omega⟩
  have hc : ((j + 1 : Nat) : Int) - 1 = (j : Int) := by omega
  have dg : Dig v u k j := ⟨hn1, okv, hn2, hok, by omega, hlow⟩
  have hq1 := hok.getD (j + k + 2)
  have hq2 := hok.getD (j + k + 1)
  have hq3 := hok.getD (j + k)
  have hv1 := okv.getD (k + 1)
  have hv2 := okv.getD k
  have hN64 : (u.getD (j + k + 2) 0 * 4294967296 + u.getD (j + k + 1) 0) < 18446744073709551616 := by omega
  have hdl : (u.getD (j + k + 2) 0 * 4294967296 + u.getD (j + k + 1) 0) / v.getD (k + 1) 0 ≤ (u.getD (j + k + 2) 0 * 4294967296 + u.getD (j + k + 1) 0) := Nat.div_le_self _ _
  have hml : (u.getD (j + k + 2) 0 * 4294967296 + u.getD (j + k + 1) 0) % v.getD (k + 1) 0 < v.getD (k + 1) 0 := Nat.mod_lt _ (by omega)
  refine dE (t := stL [(8, Z (s : Int)), (9, .p (.c (W v))), (10, Z ((k + 2 : Nat) : Int)), (11, .vec 60), (12, .vec 70), (13, Z ((j : Nat) : Int))] [(60, WB 105 u), (70, WB 105 q)]) (aF ⟨.refl _, .refl _, .refl _, .refl _, .refl _, aN hc, trivial⟩ ⟨rfl, rfl, trivial⟩) ?_
  refine au<|aq<|aB<|ae hP<|ab (ay (rfl : _ = AV.vec _))<|ak rfl<|ak rfl<|ab (bH rfl rfl (c := ((j + k + 2 : Nat) : Int)) (by rw [iW0 _ (by omega)]; omega)) ?_
  refine c8 ?_
  refine ab (dm hT rfl rfl rfl rfl (by first | omega | (simp; omega)) rfl) ?_
  refine ab (bf hT rfl rfl rfl rfl (cU (by omega))) ?_
  refine ab (iG (j := 32) rfl rfl (by first | decide | omega) rfl) ?_
  refine ab (ay (rfl : _ = AV.vec _))<|ak rfl<|ak rfl<|ab (bH rfl rfl (c := ((j + k + 2 : Nat) : Int)) (by rw [iW0 _ (by omega)]; omega)) ?_
  refine ab (bB rfl rfl (c := ((j + k + 1 : Nat) : Int)) (by rw [iW0 _ (by omega)]; omega)) ?_
  refine c8 ?_
  refine ab (dm hT rfl rfl rfl rfl (by first | omega | (simp; omega)) rfl) ?_
  refine ab (bf hT rfl rfl rfl rfl (cU (by omega))) ?_
  refine ab (kt rfl rfl (mF hq1 hq2)) ?_
  refine aj rfl<|ag<|ae hP<|ak rfl<|ak rfl<|ak rfl<|ab (bB rfl rfl (c := ((k + 1 : Nat) : Int)) (by rw [iW0 _ (by omega)]; omega)) ?_
  refine cJ ?_
  refine cr hT rfl rfl rfl ?_
  refine ab (bf hT rfl rfl rfl rfl (cU (by omega))) ?_
  refine ab (dj rfl rfl (by omega) (c := (((u.getD (j + k + 2) 0 * 4294967296 + u.getD (j + k + 1) 0) / v.getD (k + 1) 0 : Nat) : Int)) (by rw [Int.tdiv_eq_ediv_of_nonneg (by omega), ← Int.natCast_ediv, cU (by omega)])) ?_
  refine ak rfl<|ak rfl<|ak rfl<|ab (bB rfl rfl (c := ((k + 1 : Nat) : Int)) (by rw [iW0 _ (by omega)]; omega)) ?_
  refine cJ ?_
  refine cr hT rfl rfl rfl ?_
  refine ab (bf hT rfl rfl rfl rfl (cU (by omega))) ?_
  refine ab (bW rfl rfl (by omega) (c := (((u.getD (j + k + 2) 0 * 4294967296 + u.getD (j + k + 1) 0) % v.getD (k + 1) 0 : Nat) : Int)) (by rw [Int.tmod_eq_emod_of_nonneg (by omega), ← Int.natCast_emod])) ?_
  refine aj rfl<|aj rfl<|ag<|cB (ι := Nat) (fun g => stL [(8, Z (s : Int)), (9, .p (.c (W v))), (10, Z ((k + 2 : Nat) : Int)), (11, .vec 60), (12, .vec 70), (13, Z ((j : Nat) : Int)), (15, .p (.c (.v (.int .u64 ((g : Nat) : Int)))))] [(60, WB 105 u), (70, WB 105 q)]) (fun g => g < 4294967296 ∧ dy v u j ≤ g ∧ g ≤ dy v u j + 1) ?_ ?_
  ·refine aB<|bn (ι := Nat × Nat) (fun ⟨g, r⟩ => stL [(8, Z (s : Int)), (9, .p (.c (W v))), (10, Z ((k + 2 : Nat) : Int)), (11, .vec 60), (12, .vec 70), (13, Z ((j : Nat) : Int)), (15, .p (.c (.v (.int .u64 ((g : Nat) : Int))))), (16, .p (.c (.v (.int .u64 ((r : Nat) : Int)))))] [(60, WB 105 u), (70, WB 105 q)]) (fun ⟨g, r⟩ => g * v.getD (k + 1) 0 + r = (u.getD (j + k + 2) 0 * 4294967296 + u.getD (j + k + 1) 0) ∧ r < 4294967296 ∧ g < 18446744073709551616 ∧ dy v u j ≤ g) (fun ⟨g, _⟩ => g) ((u.getD (j + k + 2) 0 * 4294967296 + u.getD (j + k + 1) 0) / v.getD (k + 1) 0, (u.getD (j + k + 2) 0 * 4294967296 + u.getD (j + k + 1) 0) % v.getD (k + 1) 0) ⟨by rw [Nat.mul_comm]; exact Nat.div_add_mod _ _, by omega, by omega, dg.init⟩ (aF ⟨.refl _, .refl _, .refl _, .refl _, .refl _, .refl _, .refl _, .refl _, trivial⟩ ⟨rfl, rfl, trivial⟩) ?_
   rintro ⟨g, r⟩ ⟨hg, hr, hg64, hdq⟩
   refine aq<|ae hP<|ak rfl<|ab (bO rfl rfl)<|ak rfl ?_
   refine a6 (t := 113) rfl (fun hg4 => ?_) (fun hg4 => ?_)
   ·have hg4_ := dT0 hg4
    have hdec : dy v u j < g := dg.dec hg (Or.inl (by omega))
    have hstep : (g - 1) * v.getD (k + 1) 0 + (r + v.getD (k + 1) 0) = (u.getD (j + k + 2) 0 * 4294967296 + u.getD (j + k + 1) 0) := by
     rw [← hg, ← Nat.add_assoc, Nat.add_right_comm, ← Nat.succ_mul, show (g - 1).succ = g by omega]
    iterate 20 refine aY hg4 ?_
    refine ab (aO rfl hg4 (rfl : _ = AV.p (.c _)))<|ag<|aW rfl rfl<|au<|aB<|ae hP<|ak rfl<|ab (bB rfl rfl (c := ((g - 1 : Nat) : Int)) (by rw [IntWalk.u64_in _ (by omega)]; omega)) ?_
    refine aj rfl<|ag<|ae hP<|ak rfl<|ak rfl<|ak rfl<|ab (bB rfl rfl (c := ((k + 1 : Nat) : Int)) (by rw [iW0 _ (by omega)]; omega)) ?_
    refine cJ ?_
    refine cr hT rfl rfl rfl ?_
    refine ab (bf hT rfl rfl rfl rfl (cU (by omega))) ?_
    refine ab (bH rfl rfl (c := ((r + v.getD (k + 1) 0 : Nat) : Int)) (by rw [IntWalk.u64_in _ (by omega)]; omega)) ?_
    refine aj rfl<|ag<|ae hP<|ak rfl<|ab (bO rfl rfl)<|ag ?_
    refine az rfl (fun hb5 => ?_) (fun hb5 => ?_)
    ·have hb5_ := dT0 hb5
     have hex := dg.exit hstep (Or.inr (by omega))
     refine a7 ?_
     exact ⟨g - 1, ⟨hex.1, by omega, hex.2⟩, (aF ⟨.refl _, .refl _, .refl _, .refl _, .refl _, .refl _, .refl _, trivial⟩ ⟨rfl, rfl, trivial⟩)⟩
    have hb5_ := dF0 hb5
    refine au ?_
    exact ⟨(g - 1, r + v.getD (k + 1) 0), ⟨hstep, by omega, by omega, by omega⟩, by show g - 1 < g; omega, (aF ⟨.refl _, .refl _, .refl _, .refl _, .refl _, .refl _, .refl _, .refl _, trivial⟩ ⟨rfl, rfl, trivial⟩)⟩
   have hg4_ := dF0 hg4
   have hgB : g < 4294967296 := by omega
   have hp2 := Nat.mul_le_mul (Nat.le_sub_one_of_lt hgB) (Nat.le_sub_one_of_lt hv2)
   iterate 3 refine aC hg4 (ay (rfl : _ = AV.p (.c _))) ?_
   refine aC hg4 (bB rfl rfl (c := ((k : Nat) : Int)) (by rw [iW0 _ (by omega)]; omega)) ?_
   refine aC hg4 (by first | exact fC hT rfl rfl rfl rfl rfl rfl (by omega) | exact b9 hT rfl rfl rfl rfl rfl rfl (by omega) (by first | exact gX (by omega) | simp)) ?_
   refine aC hg4 (bV hT rfl rfl rfl (by first | rfl | exact l4 (by omega))) ?_
   refine aC hg4 (bf hT rfl rfl rfl rfl (cU (by omega))) ?_
   refine aC hg4 (bK rfl rfl (c := ((g * v.getD k 0 : Nat) : Int)) (by rw [← Int.natCast_mul, cU (by omega)])) ?_
   refine aC hg4 (ay (rfl : _ = AV.p (.c _))) ?_
   refine aC hg4 (iG (j := 32) rfl rfl (by first | decide | omega) rfl) ?_
   refine aC hg4 (ay (rfl : _ = AV.vec _)) ?_
   refine aC hg4 (ay (rfl : _ = AV.p (.c _))) ?_
   refine aC hg4 (ay (rfl : _ = AV.p (.c _))) ?_
   refine aC hg4 (bH rfl rfl (c := ((j + k + 2 : Nat) : Int)) (by rw [iW0 _ (by omega)]; omega)) ?_
   refine aC hg4 (bB rfl rfl (c := ((j + k : Nat) : Int)) (by rw [iW0 _ (by omega)]; omega)) ?_
   refine aC hg4 (by first | exact fY hT rfl rfl rfl rfl rfl rfl rfl (by first | omega | (simp; omega)) | exact fw hT rfl rfl rfl rfl rfl rfl rfl (by first | omega | (simp; omega))) ?_
   refine aC hg4 (dm hT rfl rfl rfl rfl (by first | omega | (simp; omega)) rfl) ?_
   refine aC hg4 (bf hT rfl rfl rfl rfl (cU (by omega))) ?_
   refine aC hg4 (kt rfl rfl (mF hr hq3)) ?_
   refine aC hg4 (bO rfl rfl) ?_
   refine ab (aM rfl hg4 (rfl : _ = AV.p (.c _)))<|ag ?_
   refine az rfl (fun hb6 => ?_) (fun hb6 => ?_)
   ·have hb6_ := dT0 hb6
    have hdec : dy v u j < g := dg.dec hg (Or.inr (Int.ofNat_lt.1 (by assumption)))
    have hstep : (g - 1) * v.getD (k + 1) 0 + (r + v.getD (k + 1) 0) = (u.getD (j + k + 2) 0 * 4294967296 + u.getD (j + k + 1) 0) := by
     rw [← hg, ← Nat.add_assoc, Nat.add_right_comm, ← Nat.succ_mul, show (g - 1).succ = g by omega]
    refine au<|aB<|ae hP<|ak rfl<|ab (bB rfl rfl (c := ((g - 1 : Nat) : Int)) (by rw [IntWalk.u64_in _ (by omega)]; omega)) ?_
    refine aj rfl<|ag<|ae hP<|ak rfl<|ak rfl<|ak rfl<|ab (bB rfl rfl (c := ((k + 1 : Nat) : Int)) (by rw [iW0 _ (by omega)]; omega)) ?_
    refine cJ ?_
    refine cr hT rfl rfl rfl ?_
    refine ab (bf hT rfl rfl rfl rfl (cU (by omega))) ?_
    refine ab (bH rfl rfl (c := ((r + v.getD (k + 1) 0 : Nat) : Int)) (by rw [IntWalk.u64_in _ (by omega)]; omega)) ?_
    refine aj rfl<|ag<|ae hP<|ak rfl<|ab (bO rfl rfl)<|ag ?_
    refine az rfl (fun hb7 => ?_) (fun hb7 => ?_)
    ·have hb7_ := dT0 hb7
     have hex := dg.exit hstep (Or.inr (by omega))
     refine a7 ?_
     exact ⟨g - 1, ⟨hex.1, by omega, hex.2⟩, (aF ⟨.refl _, .refl _, .refl _, .refl _, .refl _, .refl _, .refl _, trivial⟩ ⟨rfl, rfl, trivial⟩)⟩
    have hb7_ := dF0 hb7
    refine au ?_
    exact ⟨(g - 1, r + v.getD (k + 1) 0), ⟨hstep, by omega, by omega, by omega⟩, by show g - 1 < g; omega, (aF ⟨.refl _, .refl _, .refl _, .refl _, .refl _, .refl _, .refl _, .refl _, trivial⟩ ⟨rfl, rfl, trivial⟩)⟩
   have hb6_ := dF0 hb6
   have hex := dg.exit hg (Or.inl ⟨by omega, by omega⟩)
   refine a7 ?_
   exact ⟨g, ⟨hex.1, hdq, hex.2⟩, (aF ⟨.refl _, .refl _, .refl _, .refl _, .refl _, .refl _, .refl _, trivial⟩ ⟨rfl, rfl, trivial⟩)⟩
  rintro g ⟨hgB, hg1, hg2⟩
  refine ae hP<|aj rfl<|ag<|ae hP<|aj rfl<|ag<|aq<|ae hP<|ak rfl<|ab (aU hT rfl rfl rfl rfl)<|ak rfl<|ag<|aB<|bn (ι := List Nat × Nat × Nat × Nat) (fun ⟨o, i, c, e⟩ => stL [(8, Z (s : Int)), (9, .p (.c (W v))), (10, Z ((k + 2 : Nat) : Int)), (11, .vec 60), (12, .vec 70), (13, Z ((j : Nat) : Int)), (15, .p (.c (.v (.int .u64 ((g : Nat) : Int))))), (17, .p (.c (.v (.int .u64 ((c : Nat) : Int))))), (18, .p (.c (w32 (e)))), (147, .p (.c (W v))), (148, Z ((v.length : Nat) : Int)), (149, Z ((i : Nat) : Int))] [(60, WB 105 o), (70, WB 105 q)]) (fun ⟨o, i, c, e⟩ => i ≤ v.length ∧ o.length = u.length ∧ okW o ∧ c < 4294967296 ∧ e < 2 ∧ o.drop (j + k + 3) = u.drop (j + k + 3) ∧ wv o + 4294967296 ^ j * (g * wv (v.take i)) = wv u + 4294967296 ^ (j + i) * (c + e)) (fun ⟨_, i, _, _⟩ => v.length - i) (u, 0, 0, 0) ⟨Nat.zero_le _, rfl, hok, by omega, by omega, rfl, by simp [wv]⟩ (aF ⟨.refl _, .refl _, .refl _, .refl _, .refl _, .refl _, .refl _, .refl _, .refl _, .refl _, .refl _, .refl _, trivial⟩ ⟨rfl, rfl, trivial⟩) ?_
  rintro ⟨o, i, c, e⟩ ⟨hi, hlo, ho, hc, he, hd, hS⟩
  refine ae hP<|ab (bd rfl rfl)<|ag<|aq ?_
  refine az rfl (fun hb8 => ?_) (fun hb8 => ?_)
  ·have hb8_ := dT0 hb8
   have hlt : i < v.length := by omega
   have hvi := okv.getD i
   have hp1 := Nat.mul_le_mul (Nat.le_sub_one_of_lt hgB) (Nat.le_sub_one_of_lt (okv.getD i))
   have htB : (g * v.getD i 0 + c) / 4294967296 < 4294967296 := (Nat.div_lt_iff_lt_mul (by omega)).2 (by omega)
   refine au<|aq<|aB<|ae hP<|ak rfl<|cJ ?_
   refine cr hT rfl rfl rfl ?_
   refine aj rfl<|aj rfl<|ag<|ae hP<|ak rfl<|ak rfl<|ab (bf hT rfl rfl rfl rfl (cU (by omega))) ?_
   refine ab (bK rfl rfl (c := ((g * v.getD i 0 : Nat) : Int)) (by rw [← Int.natCast_mul, cU (by omega)])) ?_
   refine ak rfl<|ab (bH rfl rfl (c := ((g * v.getD i 0 + c : Nat) : Int)) (by rw [← Int.natCast_add, cU (by omega)])) ?_
   refine aj rfl<|ag<|ae hP<|ak rfl<|ab (c9 (j := 32) rfl rfl (by first | decide | omega)) ?_
   refine aj rfl<|ag<|aw hP<|ab (ay (rfl : _ = AV.vec _))<|ak rfl<|ak rfl<|ab (bH rfl rfl (c := ((j + i : Nat) : Int)) (by rw [iW0 _ (by omega)]; omega)) ?_
   refine ab (ay (rfl : _ = AV.vec _))<|ak rfl<|ak rfl<|ab (bH rfl rfl (c := ((j + i : Nat) : Int)) (by rw [iW0 _ (by omega)]; omega)) ?_
   refine c8 ?_
   refine ab (dm hT rfl rfl rfl rfl (by first | omega | (simp; omega)) rfl) ?_
   refine ak rfl<|ab (bf hT rfl rfl rfl rfl (c := (((g * v.getD i 0 + c) % 4294967296 : Nat) : Int)) (by rw [IntKind.wrap_u32]; omega)) ?_
   refine ak rfl<|ab (ah (wA _ _ _ (ho.getD _) (Nat.mod_lt _ (by omega)) he)) ?_
   refine ab (ay (rfl : _ = AV.t _))<|ab (aD rfl (v := .c _) rfl)<|ab (aD rfl (v := .c _) rfl)<|c8 ?_
   refine dh ai (cn hT rfl rfl rfl rfl rfl (by first | omega | (simp; omega)) rfl) ?_
   refine aj rfl<|ag<|aw hP<|bw rfl rfl ?_
   refine ak rfl<|ag ?_
   have hr := xj (v := v) (g := g) (by omega) ho he rfl hS
   exact ⟨(o.set (j + i) ((o.getD (j + i) 0 + 8589934592 - (g * v.getD i 0 + c) % 4294967296 - e) % 4294967296), i + 1, (g * v.getD i 0 + c) / 4294967296, if o.getD (j + i) 0 < (g * v.getD i 0 + c) % 4294967296 + e then 1 else 0), ⟨by omega, by simpa using hlo, ho.set (Nat.mod_lt _ (by omega)), htB, by split <;> omega, by rw [List.drop_set_of_lt (by omega)]; exact hd, hr⟩, by show v.length - (i + 1) < v.length - i; omega, (aF ⟨.refl _, .refl _, .refl _, .refl _, .refl _, .refl _, .refl _, .refl _, .refl _, .refl _, .refl _, .refl _, trivial⟩ ⟨rfl, rfl, trivial⟩)⟩
  have hb8_ := dF0 hb8
  have hie : i = v.length := by omega
  subst hie
  rw [List.take_length, hn1] at hS
  have hml1 := yR (o := o) (p := j + k + 2) (c := c) (e := e) (A := 4294967296 ^ j * (g * wv v)) (S := wv u) (by omega) ho hc he (by rw [show j + k + 2 = j + (k + 2) by omega]; exact hS)
  obtain ⟨o1, ho1⟩ : ∃ o1, o1 = o.set (j + k + 2) ((o.getD (j + k + 2) 0 + 8589934592 - c - e) % 4294967296) := ⟨_, rfl⟩
  have hok1 : okW o1 := by rw [ho1]; exact ho.set (Nat.mod_lt _ (by omega))
  have hlo1 : o1.length = u.length := by rw [ho1]; simpa using hlo
  have hd1 : o1.drop (j + k + 3) = u.drop (j + k + 3) := by rw [ho1, List.drop_set_of_lt (by omega)]; exact hd
  rw [← ho1, show j + k + 2 + 1 = j + k + 3 by omega] at hml1
  refine a7<|cB (ι := List Nat) (fun u1 => stL [(8, Z (s : Int)), (9, .p (.c (W v))), (10, Z ((k + 2 : Nat) : Int)), (11, .vec 60), (12, .vec 70), (13, Z ((j : Nat) : Int)), (15, .p (.c (.v (.int .u64 ((dy v u j : Nat) : Int)))))] [(60, WB 105 u1), (70, WB 105 q)]) (fun u1 => u1.length = u.length ∧ okW u1 ∧ wv u1 + 4294967296 ^ j * (dy v u j * wv v) = wv u) ?_ ?_
  ·refine ae hP<|ab (ay (rfl : _ = AV.vec _))<|ak rfl<|ak rfl<|ab (bH rfl rfl (c := ((j + k + 2 : Nat) : Int)) (by rw [iW0 _ (by omega)]; omega)) ?_
   refine ab (ay (rfl : _ = AV.vec _))<|ak rfl<|ak rfl<|ab (bH rfl rfl (c := ((j + k + 2 : Nat) : Int)) (by rw [iW0 _ (by omega)]; omega)) ?_
   refine c8 ?_
   refine ab (dm hT rfl rfl rfl rfl (by first | omega | (simp; omega)) rfl) ?_
   refine ak rfl<|ab (bf hT rfl rfl rfl rfl (ky hc)) ?_
   refine ak rfl<|ab (ah (wA _ _ _ (ho.getD _) hc he)) ?_
   refine ab (ay (rfl : _ = AV.t _))<|ab (aD rfl (v := .c _) rfl)<|ab (aD rfl (v := .c _) rfl)<|c8 ?_
   refine dh ai (cn hT rfl rfl rfl rfl rfl (by first | omega | (simp; omega)) ho1.symm) ?_
   refine aj rfl<|ag<|ae hP<|ak rfl<|ab (bO rfl rfl)<|ag ?_
   refine az rfl (fun hb9 => ?_) (fun hb9 => ?_)
   ·have hb9_ := dT0 hb9
    have hbo : o.getD (j + k + 2) 0 < c + e := by
     rcases Nat.lt_or_ge (o.getD (j + k + 2) 0) (c + e) with h | h
     ·exact h
     rw [if_neg (by omega)] at *; omega
    rw [if_pos hbo, Nat.mul_one] at hml1
    have hgq := dg.bad hok1 hlo1 hd1 hg2 hml1
    have hg0 : 0 < g := by omega
    refine ae hP<|ak rfl<|ab (bB rfl rfl (c := ((g - 1 : Nat) : Int)) (by rw [IntWalk.u64_in _ (by omega)]; omega)) ?_
    refine aj rfl<|ag<|ae hP<|aj rfl<|ag<|aq<|ae hP<|ak rfl<|ab (aU hT rfl rfl rfl rfl)<|ak rfl<|ag<|aB<|bn (ι := List Nat × Nat × Nat) (fun ⟨o, i, c⟩ => stL [(8, Z (s : Int)), (9, .p (.c (W v))), (10, Z ((k + 2 : Nat) : Int)), (11, .vec 60), (12, .vec 70), (13, Z ((j : Nat) : Int)), (15, .p (.c (.v (.int .u64 ((g - 1 : Nat) : Int))))), (22, .p (.c (w32 (c)))), (203, .p (.c (W v))), (204, Z ((v.length : Nat) : Int)), (205, Z ((i : Nat) : Int))] [(60, WB 105 o), (70, WB 105 q)]) (fun ⟨o, i, c⟩ => i ≤ v.length ∧ o.length = u.length ∧ okW o ∧ c < 2 ∧ o.drop (j + k + 3) = u.drop (j + k + 3) ∧ wv o + 4294967296 ^ (j + i) * c = wv o1 + 4294967296 ^ j * wv (v.take i)) (fun ⟨_, i, _⟩ => v.length - i) (o1, 0, 0) ⟨Nat.zero_le _, hlo1, hok1, by omega, hd1, by simp [wv]⟩ (aF ⟨.refl _, .refl _, .refl _, .refl _, .refl _, .refl _, .refl _, .refl _, .refl _, .refl _, .refl _, trivial⟩ ⟨rfl, rfl, trivial⟩) ?_
    clear hbo hS hd he hc ho hlo hi ho1 hd1 hok1 hlo1
    rintro ⟨o, i, c⟩ ⟨hi, hlo, ho, hc, hd, hS2⟩
    refine ae hP<|ab (bd rfl rfl)<|ag<|aq ?_
    refine az rfl (fun hb10 => ?_) (fun hb10 => ?_)
    ·have hb10_ := dT0 hb10
     have hlt : i < v.length := by omega
     have hvi := okv.getD i
     have hoi := ho.getD (j + i)
     have hc2 : (o.getD (j + i) 0 + v.getD i 0 + c) / 4294967296 < 2 := (Nat.div_lt_iff_lt_mul (by omega)).2 (by omega)
     refine au<|aq<|aB<|ae hP<|ak rfl<|cJ ?_
     refine cr hT rfl rfl rfl ?_
     refine aj rfl<|aj rfl<|ag<|aw hP<|ab (ay (rfl : _ = AV.vec _))<|ak rfl<|ak rfl<|ab (bH rfl rfl (c := ((j + i : Nat) : Int)) (by rw [iW0 _ (by omega)]; omega)) ?_
     refine ab (ay (rfl : _ = AV.vec _))<|ak rfl<|ak rfl<|ab (bH rfl rfl (c := ((j + i : Nat) : Int)) (by rw [iW0 _ (by omega)]; omega)) ?_
     refine c8 ?_
     refine ab (dm hT rfl rfl rfl rfl (by first | omega | (simp; omega)) rfl) ?_
     refine ak rfl<|ak rfl<|ab (ah (DJ _ _ _ (ho.getD _) (okv.getD _) (by omega))) ?_
     refine ab (ay (rfl : _ = AV.t _))<|ab (aD rfl (v := .c _) rfl)<|ab (aD rfl (v := .c _) rfl)<|c8 ?_
     refine dh ai (cn hT rfl rfl rfl rfl rfl (by first | omega | (simp; omega)) rfl) ?_
     refine aj rfl<|ag<|aw hP<|bw rfl rfl ?_
     refine ak rfl<|ag ?_
     have hr := xR (v := v) (i := i) (by omega) rfl hS2
     exact ⟨(o.set (j + i) ((o.getD (j + i) 0 + v.getD i 0 + c) % 4294967296), i + 1, (o.getD (j + i) 0 + v.getD i 0 + c) / 4294967296), ⟨by omega, by simpa using hlo, ho.set (Nat.mod_lt _ (by omega)), hc2, by rw [List.drop_set_of_lt (by omega)]; exact hd, hr⟩, by show v.length - (i + 1) < v.length - i; omega, (aF ⟨.refl _, .refl _, .refl _, .refl _, .refl _, .refl _, .refl _, .refl _, .refl _, .refl _, .refl _, trivial⟩ ⟨rfl, rfl, trivial⟩)⟩
    have hb10_ := dF0 hb10
    have hie : i = v.length := by omega
    subst hie
    rw [List.take_length, hn1] at hS2
    have hbk := dg.back (o := o.set (j + k + 2) ((o.getD (j + k + 2) 0 + c) % 4294967296)) (o1 := o) (c := c) (ho.set (Nat.mod_lt _ (by omega))) (by simpa using hlo) (by rw [List.drop_set_of_lt (by omega)]; exact hd) hgq hml1 (by rw [show j + k + 2 = j + (k + 2) by omega]; exact hS2) ho hc rfl hlo
    refine a7<|aw hP<|ab (ay (rfl : _ = AV.vec _))<|ak rfl<|ak rfl<|ab (bH rfl rfl (c := ((j + k + 2 : Nat) : Int)) (by rw [iW0 _ (by omega)]; omega)) ?_
    refine c8 ?_
    refine ab (dm hT rfl rfl rfl rfl (by first | omega | (simp; omega)) rfl) ?_
    refine ak rfl<|ab (bH rfl rfl (c := (((o.getD (j + k + 2) 0 + c) % 4294967296 : Nat) : Int)) (by rw [IntKind.wrap_u32]; omega)) ?_
    refine c8 ?_
    refine dh ai (cn hT rfl rfl rfl rfl rfl (by first | omega | (simp; omega)) rfl) ?_
    refine ag ?_
    exact ⟨_, ⟨by simpa using hlo, ho.set (Nat.mod_lt _ (by omega)), hbk⟩, (aF ⟨.refl _, .refl _, .refl _, .refl _, .refl _, .refl _, aN (by omega), trivial⟩ ⟨rfl, rfl, trivial⟩)⟩
   have hb9_ := dF0 hb9
   have hbo : ¬ o.getD (j + k + 2) 0 < c + e := by
    intro h
    rw [if_pos h] at *; omega
   rw [if_neg hbo, Nat.mul_zero, Nat.add_zero] at hml1
   have hgq := dg.good hg1 hml1
   refine au ?_
   exact ⟨o1, ⟨hlo1, hok1, hgq ▸ hml1⟩, (aF ⟨.refl _, .refl _, .refl _, .refl _, .refl _, .refl _, aN (by omega), trivial⟩ ⟨rfl, rfl, trivial⟩)⟩
  rintro u1 ⟨hl1, hok1, hfin⟩
  refine aw hP<|ab (ay (rfl : _ = AV.vec _))<|ak rfl<|ak rfl<|ab (bf hT rfl rfl rfl rfl (ky dg.q_lt)) ?_
  refine c8 ?_
  refine dh ai (cn hT rfl rfl rfl rfl rfl (by first | omega | (simp; omega)) rfl) ?_
  refine ag<|aw hP<|ak rfl<|ab (bB rfl rfl (by first | exact iW0 _ (by omega) | rfl)) ?_
  refine aj rfl<|ag ?_
  have hdn := dg.done hok1 hl1 hfin
  exact ⟨(u1, q.set j (dy v u j), j), ⟨by omega, hok1, by simpa using hlq, hqok.set dg.q_lt, by simp; omega, hdn, zt (by omega) hM hfin⟩, by show j < j + 1; omega, (aF ⟨.refl _, .refl _, .refl _, .refl _, .refl _, .refl _, trivial⟩ ⟨rfl, rfl, trivial⟩)⟩
 have hb3_ := dF0 hb3
 have hie : i = 0 := by omega
 subst hie
 rw [List.drop_zero] at hlow hM
 rw [Nat.pow_zero, Nat.one_mul] at hM
 have hE : a / b = wv q ∧ a % b = wv u / 2 ^ s := Gy (m := a) (b := b) (s := s) (q := wv q) (r := wv u) (hwv ▸ hM) (hwv ▸ hlow)
 have hlt2 : wv u < 4294967296 ^ (k + 2) := Nat.lt_trans hlow (by have := ff okv; rwa [hn1] at this)
 have htk : wv (u.take (k + 2)) = wv u := by
  have e := el u (k + 2) (by omega)
  rcases Nat.eq_zero_or_pos (wv (u.drop (k + 2))) with h | h
  ·rw [h, Nat.mul_zero] at e; omega
  have := Nat.le_mul_of_pos_right (4294967296 ^ (k + 2)) h
  omega
 have hshl : (wl (wv (u.take (k + 2)))).length ≤ 1099511627776 := by
  have := gB (htk.symm ▸ hlt2 : wv (u.take (k + 2)) < 4294967296 ^ (k + 2))
  omega
 refine a7<|cH (t := 12) rfl rfl ?_
 refine cH (t := 11) rfl rfl ?_
 refine ae hP<|ak rfl<|ab (ah (eQ _ hqok)) ?_
 refine ak rfl<|ak rfl<|ab (kC hT rfl rfl rfl rfl rfl rfl (by omega)) ?_
 refine ab (ah (eQ _ (hok.take _))) ?_
 refine ak rfl<|ab (ah (FM (wl (wv (u.take (k + 2)))) s (bG _) hshl hs32)) ?_
 refine aj rfl<|aj rfl<|ag<|am<|E11 rfl rfl rfl ?_
 exact aH (by rw [bD, htk, hE.1, hE.2])
end
section
open Go Go.AM
theorem Bv (m : Nat) :
  aI Tryz.prog 254 [.p (.c (nt m))] (Z (a8 m)) := by
 refine aK Tryz.func254 rfl rfl rfl rfl ?_
 refine iT (t := 0) rfl rfl (fun hlen => ?_)
 have hb32 : ∀ x : Nat, x < 4294967296 → a8 x ≤ 32 := fun x h => ga (k := 32) h
 refine ae hP<|aj rfl<|ag<|aq<|ae hP<|ak rfl<|ab (aU hT rfl rfl rfl rfl)<|ab (bq rfl rfl)<|ag ?_
 refine az rfl (fun hb1 => ?_) (fun hb1 => ?_)
 ·have hb1_ := bT hb1
  refine ae hP<|aj rfl<|ag<|am<|E1 rfl rfl ?_
  have h0 : wl m = [] := by
   rcases h : wl m with _ | ⟨x, r⟩
   ·rfl
   rw [h] at hb1_; simp at hb1_; omega
  have : m = 0 := by rw [← bD m, h0]; rfl
  exact aN (by rw [this]; rfl)
 have hb1_ := bF hb1
 refine au<|ae hP<|ak rfl<|ab (aU hT rfl rfl rfl rfl)<|ab (bB rfl rfl (by first | exact iW0 _ (by omega) | rfl)) ?_
 refine ab (bK rfl rfl (by first | exact iW0 _ (by omega) | rfl)) ?_
 refine ak rfl<|ak rfl<|ab (aU hT rfl rfl rfl rfl)<|ab (bB rfl rfl (by first | exact iW0 _ (by omega) | rfl)) ?_
 refine cJ ?_
 refine cr hT rfl rfl rfl ?_
 refine ab (ah (Dt _ ((bG m).getD _))) ?_
 refine ab (bH rfl rfl (iW0 _ (by have := hb32 _ ((bG m).getD (((wl m).length : Int) - 1).toNat); omega))) ?_
 refine aj rfl<|ag<|am<|E1 rfl rfl ?_
 obtain ⟨k, hk⟩ : ∃ k, (wl m).length = k + 1 := ⟨(wl m).length - 1, by omega⟩
 have hkk : (((wl m).length : Int) - 1).toNat = k := by omega
 exact aN (by rw [hkk, ut hk]; omega)
end
section
open Go Go.AM
theorem ji (neg : Bool) (ws : List Nat) (h : okW ws) :
  aI Tryz.prog 63 [B neg, .p (.c (W ws))] (I (sg neg (wv ws))) := by
 refine aK Tryz.func63 rfl rfl rfl rfl ?_
 refine ae hP<|ao ai (aA hT rfl rfl)<|ag<|ae hP<|ak rfl<|ab (ah (eQ _ h)) ?_
 refine aj rfl<|ag<|aq<|ae hP<|ak rfl<|ab (aU hT rfl rfl rfl rfl)<|ab (bq rfl rfl)<|ag ?_
 refine az rfl (fun hb1 => ?_) (fun hb1 => ?_)
 ·have hb1_ := bT hb1
  refine ae hP<|ab (aV hT rfl rfl rfl (es := [_, _]) rfl)<|aG hT rfl<|ag<|am<|E2 hT rfl rfl rfl rfl rfl rfl rfl ?_
  have h0 : wv ws = 0 := mN (by omega)
  rw [h0, vm]
  exact .refl _
 have hb1_ := bF hb1
 refine au<|ae hP<|ak rfl<|ak rfl<|ab (aV hT rfl rfl rfl (es := [_, _]) rfl)<|aG hT rfl<|ag<|am<|E2 hT rfl rfl rfl rfl rfl rfl rfl ?_
 have h0 : 0 < wv ws := by
  rcases Nat.eq_zero_or_pos (wv ws) with e | e
  ·rw [e] at hb1_; exact absurd rfl hb1_
  exact e
 exact aH (by show _ = AV.p (.a [zn _, zm _]); rw [Cw h0, Cx])
theorem na (x : Int) :
  aI Tryz.prog 62 [I x] (I x.natAbs) := by
 refine aK Tryz.func62 rfl rfl rfl rfl ?_
 refine ae hP<|ao ai (aJ rfl rfl)<|ao ai (aA hT rfl rfl)<|ag<|ae hP<|aE hT rfl<|aZ hT rfl rfl rfl rfl ?_
 refine ab (ah (ji _ (wl x.natAbs) (bG _))) ?_
 refine aG hT rfl<|ag<|am<|E2 hT rfl rfl rfl rfl rfl rfl rfl ?_
 exact Sub.I (zU x)
theorem iN (x : Int) :
  aI Tryz.prog 39 [I x] (I (-x)) := by
 refine aK Tryz.func39 rfl rfl rfl rfl ?_
 refine ae hP<|ao ai (aJ rfl rfl)<|ao ai (aA hT rfl rfl)<|ag<|ae hP<|aE hT rfl<|aZ hT rfl rfl rfl rfl ?_
 refine ab (bv rfl)<|aE hT rfl<|aZ hT rfl rfl rfl rfl ?_
 refine ab (ah (ji _ (wl x.natAbs) (bG _))) ?_
 refine aG hT rfl<|ag<|am<|E2 hT rfl rfl rfl rfl rfl rfl rfl ?_
 exact Sub.I (yO x)
theorem dT (x y : Int) (hx : L 45 x) (hy : L 45 y) :
  aI Tryz.prog 38 [I x, I y] (I (x + y)) := by
 refine aK Tryz.func38 rfl rfl rfl rfl ?_
 refine ae hP<|ao ai (aJ rfl rfl)<|ao ai (aJ rfl rfl)<|ao ai (aA hT rfl rfl)<|ag<|ae hP<|aE hT rfl<|aZ hT rfl rfl rfl rfl ?_
 refine aE hT rfl<|aZ hT rfl rfl rfl rfl ?_
 refine aj rfl<|aj rfl<|ag<|aq<|aB<|ae hP<|aE hT rfl<|aZ hT rfl rfl rfl rfl ?_
 refine aE hT rfl<|aZ hT rfl rfl rfl rfl ?_
 refine ab (tm hT rfl rfl rfl rfl)<|aj rfl<|ag ?_
 refine az rfl (fun hb1 => ?_) (fun hb1 => ?_)
 ·refine ae hP<|aE hT rfl<|aZ hT rfl rfl rfl rfl ?_
  refine ak rfl<|ak rfl<|ab (ah (FP (wl x.natAbs) (wl y.natAbs) (bG _) (bG _) (sz hx) (sz hy))) ?_
  refine ab (ah (ji _ _ (bG _))) ?_
  refine aG hT rfl<|ag<|am<|E2 hT rfl rfl rfl rfl rfl rfl rfl ?_
  exact Sub.I (by rw [bD]; exact uB (by assumption))
 refine ae hP<|ak rfl<|ak rfl<|ab (ah (pL x.natAbs y.natAbs)) ?_
 refine ab (bd rfl rfl)<|aj rfl<|ag ?_
 refine az rfl (fun hb2 => ?_) (fun hb2 => ?_)
 ·have hb2_ := dT0 hb2
  have hc := JQ (m := x.natAbs) (n := y.natAbs) (by assumption)
  refine ae hP<|aE hT rfl<|aZ hT rfl rfl rfl rfl ?_
  refine ak rfl<|ak rfl<|ab (ah (vQ (wl y.natAbs) (wl x.natAbs) (bG _) (bG _) (sz hy) (fA (by omega)) (by rw [bD, bD]; omega))) ?_
  refine ab (ah (ji _ _ (bG _))) ?_
  refine aG hT rfl<|ag<|am<|E2 hT rfl rfl rfl rfl rfl rfl rfl ?_
  exact Sub.I (by rw [bD]; exact zR (by assumption) hc)
 have hb2_ := dF0 hb2
 have hc := JR (m := x.natAbs) (n := y.natAbs) (by assumption)
 refine au<|ae hP<|aE hT rfl<|aZ hT rfl rfl rfl rfl ?_
 refine ak rfl<|ak rfl<|ab (ah (vQ (wl x.natAbs) (wl y.natAbs) (bG _) (bG _) (sz hx) (fA hc) (by rw [bD, bD]; exact hc))) ?_
 refine ab (ah (ji _ _ (bG _))) ?_
 refine aG hT rfl<|ag<|am<|E2 hT rfl rfl rfl rfl rfl rfl rfl ?_
 exact Sub.I (by rw [bD]; exact zS (by assumption) hc)
theorem jK (x y : Int) (hx : L 45 x) (hy : L 45 y) :
  aI Tryz.prog 108 [I x, I y] (I (x - y)) := by
 refine aK Tryz.func108 rfl rfl rfl rfl ?_
 refine ae hP<|ao ai (aJ rfl rfl)<|ao ai (aJ rfl rfl)<|ao ai (aA hT rfl rfl)<|ag<|ae hP<|av hT rfl<|av hT rfl<|ab (ah (iN y)) ?_
 refine ab (ah (dT x (-y) hx hy.neg)) ?_
 refine aG hT rfl<|ag<|am<|E2 hT rfl rfl rfl rfl rfl rfl rfl ?_
 exact Sub.I (by omega)
theorem dK (x y : Int) (hx : L 45 x) (hy : L 45 y) :
  aI Tryz.prog 16 [I x, I y] (I (x * y)) := by
 refine aK Tryz.func16 rfl rfl rfl rfl ?_
 refine ae hP<|ao ai (aJ rfl rfl)<|ao ai (aJ rfl rfl)<|ao ai (aA hT rfl rfl)<|ag<|ae hP<|aE hT rfl<|aZ hT rfl rfl rfl rfl ?_
 refine aE hT rfl<|aZ hT rfl rfl rfl rfl ?_
 refine ab (jf hT rfl rfl rfl rfl)<|aE hT rfl<|aZ hT rfl rfl rfl rfl ?_
 refine aE hT rfl<|aZ hT rfl rfl rfl rfl ?_
 refine ab (ah (FN (wl x.natAbs) (wl y.natAbs) (bG _) (bG _) (sz hx) (sz hy))) ?_
 refine ab (ah (ji _ _ (bG _))) ?_
 refine aG hT rfl<|ag<|am<|E2 hT rfl rfl rfl rfl rfl rfl rfl ?_
 exact Sub.I (by rw [bD]; exact yP x y)
end
section
open Go Go.AM
theorem cW (x : Int) :
  aI Tryz.prog 58 [I x] (Z (sgn x)) := by
 refine aK Tryz.func58 rfl rfl rfl rfl ?_
 refine ae hP<|ao ai (aJ rfl rfl)<|aj rfl<|ag<|aq<|aB<|ae hP<|aE hT rfl<|aZ hT rfl rfl rfl rfl ?_
 refine ab (aU hT rfl rfl rfl rfl)<|ab (bq rfl rfl)<|aj rfl<|ag ?_
 refine az rfl (fun hb1 => ?_) (fun hb1 => ?_)
 ·have hb1_ := bT hb1
  refine ae hP<|aj rfl<|ag<|am<|E1 rfl rfl ?_
  have h0 := wl_len_zero.1 hb1_
  exact aN (by rw [h0]; rfl)
 have hb1_ := bF hb1
 refine ae hP<|aE hT rfl<|aZ hT rfl rfl rfl rfl ?_
 refine aj rfl<|ag ?_
 refine az rfl (fun hb2 => ?_) (fun hb2 => ?_)
 ·refine ae hP<|aj rfl<|ag<|am<|E1 rfl rfl ?_
  exact aN (jH hb2).symm
 refine au<|ae hP<|aj rfl<|ag<|am<|E1 rfl rfl ?_
 have h0 : x ≠ 0 := fun e => hb1_ (wl_len_zero.2 e)
 exact aN (px h0 hb2).symm
theorem dq (x y : Int) :
  aI Tryz.prog 14 [I x, I y] (Z (bu x y)) := by
 refine aK Tryz.func14 rfl rfl rfl rfl ?_
 refine ae hP<|ao ai (aJ rfl rfl)<|ao ai (aJ rfl rfl)<|aj rfl<|ag<|aq<|ae hP<|aE hT rfl<|aZ hT rfl rfl rfl rfl ?_
 refine aE hT rfl<|aZ hT rfl rfl rfl rfl ?_
 refine ab (jf hT rfl rfl rfl rfl)<|ag ?_
 refine az rfl (fun hb1 => ?_) (fun hb1 => ?_)
 ·refine ae hP<|av hT rfl<|ab (ah (cW _)) ?_
  refine av hT rfl<|ab (ah (cW _)) ?_
  refine ab (ah (nG _ _)) ?_
  refine aj rfl<|ag<|am<|E1 rfl rfl ?_
  exact aN (Ce hb1)
 refine au<|ae hP<|aE hT rfl<|aZ hT rfl rfl rfl rfl ?_
 refine aE hT rfl<|aZ hT rfl rfl rfl rfl ?_
 refine ab (ah (pL x.natAbs y.natAbs)) ?_
 refine av hT rfl<|ab (ah (cW _)) ?_
 refine ab (bg hT rfl rfl rfl (es := [_, _]) rfl rfl rfl)<|ab (ah (IL _ _)) ?_
 refine ab (bK rfl rfl (Cd hb1)) ?_
 refine aj rfl<|ag<|am<|E1 rfl rfl ?_
 exact .refl _
theorem tL (x : Int) :
  aI Tryz.prog 242 [I x] (Z (a8 x.natAbs)) := by
 refine aK Tryz.func242 rfl rfl rfl rfl ?_
 refine ae hP<|ao ai (aJ rfl rfl)<|aj rfl<|ag<|ae hP<|aE hT rfl<|aZ hT rfl rfl rfl rfl ?_
 refine ab (ah (Bv x.natAbs)) ?_
 refine aj rfl<|ag<|am<|E1 rfl rfl ?_
 exact .refl _
theorem mr (x : Int) (hx : L 45 x) :
  aI Tryz.prog 100 [I x] (B true) := by
 have hlen := sz hx
 refine aK Tryz.func100 rfl rfl rfl rfl ?_
 refine ae hP<|ao ai (aJ rfl rfl)<|aj rfl<|ag<|aq<|ae hP<|aE hT rfl<|aZ hT rfl rfl rfl rfl ?_
 refine ab (aU hT rfl rfl rfl rfl)<|ab (bq rfl rfl)<|ag ?_
 refine az rfl (fun hb1 => ?_) (fun hb1 => ?_)
 ·have hb1_ := bT hb1
  refine ae hP<|aE hT rfl<|aZ hT rfl rfl rfl rfl ?_
  refine ab (bv rfl)<|aj rfl<|ag<|am<|E1 rfl rfl ?_
  have h0 := wl_len_zero.1 hb1_
  exact aH (by rw [h0]; rfl)
 have hb1_ := bF hb1
 refine au<|ae hP<|aE hT rfl<|aZ hT rfl rfl rfl rfl ?_
 refine aE hT rfl<|aZ hT rfl rfl rfl rfl ?_
 refine ab (aU hT rfl rfl rfl rfl)<|ab (bB rfl rfl (by first | exact iW0 _ (by omega) | rfl)) ?_
 refine cJ ?_
 refine cr hT rfl rfl rfl ?_
 refine ab (bo rfl rfl)<|aj rfl<|ag<|am<|E1 rfl rfl ?_
 have h1 : (wl x.natAbs).length ≠ 0 := fun e => hb1_ (by rw [e]; rfl)
 have h2 : (((wl x.natAbs).length : Int) - 1).toNat = (wl x.natAbs).length - 1 := by omega
 rw [h2]
 have h3 := ol (k := x.natAbs) (n := (wl x.natAbs).length - 1) (by omega)
 exact aH (by rw [show ((((wl x.natAbs).getD ((wl x.natAbs).length - 1) 0 : Nat) : Int) != 0) = true from bne_iff_ne.2 (by omega)])
theorem dV (z : Int) (hz : bp z) :
  aI Tryz.prog 136 [.p (.c (.v (.int .i64 z)))] (I z) := by
 have hz1 : z.natAbs < 18446744073709551616 := by unfold bp at hz; omega
 refine aK Tryz.func136 rfl rfl rfl rfl ?_
 refine ae hP<|ao ai (aA hT rfl rfl)<|ag<|ae hP<|ak rfl<|ak rfl<|ab (fX rfl rfl)<|ab (oP rfl rfl)<|ab (bf hT rfl rfl rfl rfl (c := ((z.natAbs : Nat) : Int)) (DS hz)) ?_
 refine aj rfl<|ag<|ae hP<|ak rfl<|ab (bd rfl rfl)<|ak rfl<|ab (bf hT rfl rfl rfl rfl (en _)) ?_
 refine ak rfl<|ab (c9 (j := 32) rfl rfl (by decide)) ?_
 refine ab (bf hT rfl rfl rfl rfl (c := ((z.natAbs / 2 ^ 32 : Nat) : Int)) (by simp only [IntKind.wrap_u32]; omega)) ?_
 refine ab (bg hT rfl rfl rfl (es := [_, _]) rfl rfl rfl)<|ab (ah (ji _ [z.natAbs % 4294967296, z.natAbs / 2 ^ 32] (pJ (by omega)))) ?_
 refine aG hT rfl<|ag<|am<|E2 hT rfl rfl rfl rfl rfl rfl rfl ?_
 exact Sub.I (by rw [rP]; exact xc)
theorem pQ (neg : Bool) (m : Nat) : aI Tryz.prog 63 [B neg, .p (.c (nt m))] (I (sg neg m)) := by
 have h := ji neg (wl m) (bG m)
 rwa [bD] at h
theorem dB (x y : Int) (hx : L 44 x) (hy : L 44 y) (h0 : y ≠ 0) :
  aI Tryz.prog 113 [I x, I y] (.t [PI (x / y), PI (x % y), PE 0]) := by
 have hq : L 44 (sg (!(decide (x < 0) == decide (y < 0))) (x.natAbs / y.natAbs)) := L.of_le hx (by rw [ou]; exact Nat.div_le_self _ _)
 have hr : L 44 (sg (decide (x < 0)) (x.natAbs % y.natAbs)) := L.of_le hx (by rw [ou]; exact Nat.mod_le _ _)
 refine aK Tryz.func113 rfl rfl rfl rfl ?_
 refine ae hP<|ao ai (aJ rfl rfl)<|ao ai (aJ rfl rfl)<|ao ai (aA hT rfl rfl)<|ao ai (aA hT rfl rfl)<|aj rfl<|ag<|aq<|ae hP<|aE hT rfl<|aZ hT rfl rfl rfl rfl ?_
 refine ab (aU hT rfl rfl rfl rfl)<|ab (bq rfl rfl)<|ag ?_
 refine az rfl (fun hb1 => ?_) (fun hb1 => ?_)
 ·have hb1_ := bT hb1
  exact absurd (wl_len_zero.1 hb1_) h0
 have hb1_ := bF hb1
 refine au<|ae hP<|aE hT rfl<|aZ hT rfl rfl rfl rfl ?_
 refine aE hT rfl<|aZ hT rfl rfl rfl rfl ?_
 refine ab (ah (FO x.natAbs y.natAbs (sz (hx.mono (by decide))) (by omega))) ?_
 refine ab (ay (rfl : _ = AV.t _))<|ab (aD rfl (v := .c _) rfl)<|ab (aD rfl (v := .c _) rfl)<|aj rfl<|aj rfl<|ag<|ae hP<|aE hT rfl<|aZ hT rfl rfl rfl rfl ?_
 refine aE hT rfl<|aZ hT rfl rfl rfl rfl ?_
 refine ab (jf hT rfl rfl rfl rfl)<|ak rfl<|ab (ah (pQ _ _)) ?_
 refine aE hT rfl<|aZ hT rfl rfl rfl rfl ?_
 refine ak rfl<|ab (ah (pQ _ _)) ?_
 refine ao ai (aA hT rfl rfl)<|ao ai (aA hT rfl rfl)<|aG hT rfl<|aG hT rfl<|ag<|aq<|ae hP<|aE hT rfl<|aZ hT rfl rfl rfl rfl ?_
 refine ag ?_
 refine az rfl (fun hb2 => ?_) (fun hb2 => ?_)
 ·have e1 := (jF h0 (dT0 hb2)).1
  have e2 := (jF h0 (dT0 hb2)).2
  refine ae hP<|av hT rfl<|av hT rfl<|ab (ah (na _)) ?_
  refine ab (ah (dT _ _ (hr.mono (by decide)) (hy.abs.mono (by decide)))) ?_
  refine aG hT rfl<|ag<|aw hP<|av hT rfl<|av hT rfl<|ab (ah (cW _)) ?_
  refine ab (ah (dV (sgn y) (by unfold sgn; split <;> (try split) <;> decide))) ?_
  refine ab (ah (jK _ _ (hq.mono (by decide)) ((DM y).mono (by decide)))) ?_
  refine aG hT rfl<|ag<|ae hP<|av hT rfl<|av hT rfl<|aG hT rfl<|aG hT rfl<|aj rfl<|ag<|am ?_
  refine c7 rfl (.inr rfl) (aR hT rfl rfl rfl rfl (cs := [_, _]) rfl rfl) (aR hT rfl rfl rfl rfl (cs := [_, _]) rfl rfl) (bN rfl) ?_ br
  exact aH (by rw [e1, e2])
 have e1 := (jE h0 (dF0 hb2)).1
 have e2 := (jE h0 (dF0 hb2)).2
 refine au<|ae hP<|av hT rfl<|av hT rfl<|aG hT rfl<|aG hT rfl<|aj rfl<|ag<|am ?_
 refine c7 rfl (.inr rfl) (aR hT rfl rfl rfl rfl (cs := [_, _]) rfl rfl) (aR hT rfl rfl rfl rfl (cs := [_, _]) rfl rfl) (bN rfl) ?_ br
 exact aH (by rw [e1, e2])
theorem Gh (x y : Int) (hx : L 44 x) (hy : L 44 y) (h0 : y ≠ 0) :
  aI Tryz.prog 61 [I x, I y] (I (x % y)) := by
 refine aK Tryz.func61 rfl rfl rfl rfl ?_
 refine ae hP<|ao ai (aJ rfl rfl)<|ao ai (aJ rfl rfl)<|ao ai (aA hT rfl rfl)<|ag<|ae hP<|av hT rfl<|av hT rfl<|ab (ah (dB x y hx hy h0)) ?_
 refine ab (ay (rfl : _ = AV.t _))<|ab (aD rfl (v := .a _) rfl)<|ab (aD rfl (v := .a _) rfl)<|ab (aD rfl (v := .c _) rfl)<|ao ai (aA hT rfl rfl)<|ao ai (aA hT rfl rfl)<|aG hT rfl<|aG hT rfl<|aj rfl<|ag<|ae hP<|av hT rfl<|aG hT rfl<|ag<|am<|E2 hT rfl rfl rfl rfl rfl rfl rfl ?_
 exact .refl _
theorem mZ (x y : Int) (hx : L 44 x) (hy : L 44 y) :
  aI Tryz.prog 15 [I x, I y] (I (Int.gcd x y)) := by
 refine aK Tryz.func15 rfl rfl rfl rfl ?_
 refine ae hP<|ao ai (aJ rfl rfl)<|ao ai (aJ rfl rfl)<|ao ai (aA hT rfl rfl)<|ag<|aq<|aB<|bn (ι := Int × Int) (fun p => stL [(2, .loc 2 0), (3, .loc 3 0), (4, .loc 4 0)] [(2, ⟨false, 1, 29, [zn (p.1), zm (p.1)]⟩), (3, ⟨false, 1, 29, [zn (p.2), zm (p.2)]⟩), (4, ⟨false, 1, 29, [zn (0), zm (0)]⟩)]) (fun p => L 44 p.1 ∧ L 44 p.2 ∧ Int.gcd p.1 p.2 = Int.gcd x y) (fun p => p.2.natAbs) (x, y) ⟨hx, hy, rfl⟩ (aF ⟨.refl _, .refl _, .refl _, trivial⟩ ⟨rfl, rfl, rfl, trivial⟩) ?_
 rintro ⟨a, b⟩ ⟨ha, hb, hg⟩
 refine aq<|ae hP<|aE hT rfl<|aZ hT rfl rfl rfl rfl ?_
 refine ab (aU hT rfl rfl rfl rfl)<|ab (bO rfl rfl)<|ag ?_
 refine az rfl (fun hb1 => ?_) (fun hb1 => ?_)
 ·have hb1_ := dT0 hb1
  have h0 : b ≠ 0 := fun e => by
   have e2 : 0 < ((wl b.natAbs).length : Int) := hb1_
   rw [e] at e2; exact absurd e2 (by decide)
  refine au<|aB<|aw hP<|av hT rfl<|av hT rfl<|av hT rfl<|ab (ah (Gh a b ha hb h0)) ?_
  refine aG hT rfl<|aG hT rfl<|ag ?_
  refine ⟨(b, a % b), ⟨hb, (ha.emod hb).mono (by decide), ?_⟩, ?_, aF ⟨.refl _, .refl _, .refl _, trivial⟩ ⟨rfl, rfl, rfl, trivial⟩⟩
  ·rw [← hg]; exact tS a b
  have h1 := Int.emod_nonneg a h0
  have h2 := Int.emod_lt a h0
  show (a % b).natAbs < b.natAbs
  omega
 have hb1_ := dF0 hb1
 refine a7<|ae hP<|av hT rfl<|ab (ah (na _)) ?_
 refine aG hT rfl<|ag<|am<|E2 hT rfl rfl rfl rfl rfl rfl rfl ?_
 have h0 : b = 0 := by
  have e2 : ¬ 0 < ((wl b.natAbs).length : Int) := hb1_
  have : ((wl b.natAbs).length : Int) = 0 := by omega
  exact wl_len_zero.1 this
 exact Sub.I (by rw [← hg, h0]; simp)
theorem xu (x : Int) (hx : L 44 x) :
  aI Tryz.prog 243 [I x, Z 1] (I x) := by
 refine aK Tryz.func243 rfl rfl rfl rfl ?_
 refine ae hP<|ao ai (aJ rfl rfl)<|ao ai (aA hT rfl rfl)<|ag<|ae hP<|ab (ah (dV 1 (by decide))) ?_
 refine ao ai (aA hT rfl rfl)<|aG hT rfl<|ag<|aq<|aB<|ee 2 ?_
 refine aq<|ae hP<|ak rfl<|ab (bO rfl rfl)<|ag<|aW rfl (by decide) ?_
 refine au<|aq<|aB<|aq<|ae hP<|ak rfl<|ab (bW rfl rfl (by first | decide | omega) (by first | exact Int.tmod_eq_emod_of_nonneg (by omega) | rfl)) ?_
 refine ab (bq rfl rfl)<|ag<|aW rfl rfl<|aw hP<|av hT rfl<|av hT rfl<|ab (ah (dK 1 x (L.mono (n := 0) (by decide) (by decide)) (hx.mono (by decide)))) ?_
 refine aG hT rfl<|ag<|ae hP<|ak rfl<|ab (bO rfl rfl)<|ag<|aQ rfl rfl<|au<|aw hP<|ak rfl<|ab (dj rfl rfl (by first | decide | omega) (by first | exact iW0 _ (by omega) | rfl)) ?_
 refine aj rfl<|ag<|aq<|ae hP<|ak rfl<|ab (bO rfl rfl)<|ag<|aQ rfl (by decide) ?_
 refine a7<|ae hP<|av hT rfl<|aG hT rfl<|ag<|am<|E2 hT rfl rfl rfl rfl rfl rfl rfl ?_
 exact Sub.I (by rw [Int.one_mul])
end
section
open Go Go.AM
theorem zc (x : Int) (hx : L 40 x) :
  aI Tryz.prog 212 [I x, Z 2] (.t [PI (rootV x), PE (jA x)]) := by
 have hbl := zH hx
 refine aK Tryz.func212 rfl rfl rfl rfl ?_
 refine ae hP<|ao ai (aJ rfl rfl)<|ao ai (aA hT rfl rfl)<|aj rfl<|ag<|ae hP<|av hT rfl<|ab (ah (tL x)) ?_
 refine aj rfl<|ag<|aq<|aB<|ae hP<|aE hT rfl<|aZ hT rfl rfl rfl rfl ?_
 refine ak rfl ?_
 refine a6 (t := 16) rfl (fun hg1 => ?_) (fun hg1 => ?_)
 ·have hx0 : x < 0 := dT0 hg1
  refine aY hg1 ?_
  refine aY hg1 ?_
  refine ab (aO rfl hg1 (rfl : _ = AV.p (.c _)))<|aj rfl<|ag<|aW rfl rfl<|ae hP<|ab (aV hT rfl rfl rfl (es := [_, _]) rfl)<|aG hT rfl<|aj rfl<|ag<|am ?_
  refine cq rfl (.inr rfl) (aR hT rfl rfl rfl rfl (cs := [_, _]) rfl rfl) (bN rfl) ?_ br
  exact aH (by rw [(gx hx0).1, (gx hx0).2])
 have hx0 : ¬ x < 0 := dF0 hg1
 refine aC hg1 (ay (rfl : _ = AV.p (.c _))) ?_
 refine aC hg1 (bd rfl rfl) ?_
 refine ab (aM rfl hg1 (rfl : _ = AV.p (.c _)))<|aj rfl<|ag<|aQ rfl rfl<|ae hP<|ak rfl<|ab (bq rfl rfl)<|ak rfl ?_
 refine a6 (t := 24) rfl (fun hg2 => ?_) (fun hg2 => ?_)
 ·have hg2_ := bT hg2
  refine aY hg2 ?_
  refine aY hg2 ?_
  refine ab (aO rfl hg2 (rfl : _ = AV.p (.c _)))<|aj rfl<|ag<|aW rfl rfl<|ae hP<|av hT rfl<|aG hT rfl<|aj rfl<|ag<|am ?_
  refine cq rfl (.inr rfl) (aR hT rfl rfl rfl rfl (cs := [_, _]) rfl rfl) (bN rfl) ?_ br
  have e := yq hg2_
  exact aH (by rw [e]; rfl)
 have hg2_ := bF hg2
 refine aC hg2 (ay (rfl : _ = AV.p (.c _))) ?_
 refine aC hg2 (bq rfl rfl) ?_
 refine ab (aM rfl hg2 (rfl : _ = AV.p (.c _)))<|aj rfl<|ag<|aQ rfl rfl<|ae hP<|ak rfl<|ak rfl<|ab (dc rfl rfl)<|aj rfl<|ag ?_
 refine az rfl (fun hb3 => ?_) (fun hb3 => ?_)
 ·have hb3_ := dT0 hb3
  refine ae hP<|ab (ah (dV _ (by decide))) ?_
  refine aG hT rfl<|aj rfl<|ag<|am ?_
  refine cq rfl (.inr rfl) (aR hT rfl rfl rfl rfl (cs := [_, _]) rfl rfl) (bN rfl) ?_ br
  exact aH (by rw [wK hx0 hg2_ hb3_, gy hx0])
 have hb3_ := dF0 hb3
 have hx1 : 0 < x := by
  rcases Int.lt_trichotomy x 0 with e | e | e
  ·exact absurd e hx0
  ·rw [e] at hg2_; exact absurd rfl hg2_
  exact e
 refine au<|ae hP<|ab (bg hT rfl rfl rfl (es := [_]) rfl rfl rfl)<|ak rfl<|ak rfl<|bw rfl rfl ?_
 refine ab (bB rfl rfl (by first | exact iW0 _ (by omega) | rfl)) ?_
 refine ak rfl<|ab (dj rfl rfl (by decide) (MC _ hbl)) ?_
 refine ab (ah (pK [1] ((a8 x.natAbs + 1) / 2) vM (by decide) (by omega))) ?_
 refine ab (ah (pQ _ _)) ?_
 refine ao ai (aA hT rfl rfl)<|aG hT rfl<|ag<|aB<|bn (ι := Int) (fun s => stL [(1, Z 2), (2, .loc 2 0), (4, .loc 4 0), (7, .loc 7 0)] [(2, ⟨false, 1, 29, [zn (x), zm (x)]⟩), (4, ⟨false, 1, 29, [zn (0), zm (0)]⟩), (7, ⟨false, 1, 29, [zn (s), zm (s)]⟩)]) (fun s => 0 < s ∧ rootV x ≤ s ∧ s ≤ 2 * x) (fun s => s.toNat) (2 ^ ((a8 x.natAbs + 1) / 2) : Nat) ?_ (aF ⟨.refl _, .refl _, .refl _, .refl _, trivial⟩ ⟨rfl, rfl, ?_, trivial⟩) ?_
 ·exact ox hx1
 ·exact congrArg (fun z => some (⟨false, 1, 29, [zn z, zm z]⟩ : Blk)) (HX _)
 intro s hs
 have ix : LB x 40 := ⟨hx⟩
 have is : LB s 41 := ⟨L.of_le (b := 2 * x) (lz (by rfl)) (by omega)⟩
 refine aB<|ae hP<|av hT rfl<|av hT rfl<|ak rfl<|ab (bB rfl rfl (by first | exact iW0 _ (by omega) | rfl)) ?_
 refine ab (ah (xu s lz)) ?_
 refine ab (ah (dB x s lz lz (by omega))) ?_
 refine ab (ay (rfl : _ = AV.t _))<|ab (aD rfl (v := .a _) rfl)<|ab (aD rfl (v := .a _) rfl)<|ab (aD rfl (v := .c _) rfl)<|ao ai (aA hT rfl rfl)<|ao ai (aA hT rfl rfl)<|aG hT rfl<|aG hT rfl<|aj rfl<|ag<|ae hP<|av hT rfl<|ak rfl<|ab (bB rfl rfl (by first | exact iW0 _ (by omega) | rfl)) ?_
 refine ab (ah (dV _ (by decide))) ?_
 refine ab (ah (dK _ _ lz lz)) ?_
 refine av hT rfl<|ab (ah (dT _ _ lz lz)) ?_
 refine ak rfl<|ab (ah (dV _ (by decide))) ?_
 refine ab (ah (dB _ 2 lz lz (by decide))) ?_
 refine ab (ay (rfl : _ = AV.t _))<|ab (aD rfl (v := .a _) rfl)<|ab (aD rfl (v := .a _) rfl)<|ab (aD rfl (v := .c _) rfl)<|aG hT rfl<|ag<|aq<|ae hP<|av hT rfl<|av hT rfl<|ab (ah (dq _ _)) ?_
 refine ab (dc rfl rfl)<|ag ?_
 refine az rfl (fun hb4 => ?_) (fun hb4 => ?_)
 ·have hb4_ := dT0 hb4
  have hge := kH hb4_
  refine ae hP<|av hT rfl<|aG hT rfl<|aj rfl<|ag<|am ?_
  refine cq rfl (.inr rfl) (aR hT rfl rfl rfl rfl (cs := [_, _]) rfl rfl) (bN rfl) ?_ br
  have e := qm hx1 hs.1 hs.2.1 hge
  exact aH (by rw [e, gy hx0])
 have hb4_ := dF0 hb4
 have hge := ju hb4_
 refine au<|aw hP<|av hT rfl<|aG hT rfl<|ag ?_
 refine ⟨(s * 1 + x / s) / 2, ⟨(kl hx1 hs.1).2, (kl hx1 hs.1).1, Int.le_trans (Int.le_of_lt hge) hs.2.2⟩, ?_, aF ⟨.refl _, .refl _, .refl _, .refl _, trivial⟩ ⟨rfl, rfl, rfl, trivial⟩⟩
 have h3 := (kl hx1 hs.1).2
 show ((s * 1 + x / s) / 2).toNat < s.toNat
 omega
theorem BP (x : Int) (hx : L 40 x) :
  aI Tryz.prog 178 [I x] (.t [PI (rootV x), PI (if x < 0 then 0 else x - rootV x * rootV x), PE (jA x)]) := by
 have ix : LB x 40 := ⟨hx⟩
 refine aK Tryz.func178 rfl rfl rfl rfl ?_
 refine ae hP<|ao ai (aJ rfl rfl)<|ao ai (aA hT rfl rfl)<|ao ai (aA hT rfl rfl)<|aj rfl<|ag<|ae hP<|av hT rfl<|ab (ah (zc x hx)) ?_
 refine ab (ay (rfl : _ = AV.t _))<|ab (aD rfl (v := .a _) rfl)<|ab (aD rfl (v := .c _) rfl)<|ao ai (aA hT rfl rfl)<|aG hT rfl<|aj rfl<|ag<|aq<|ae hP<|ak rfl<|ab (bo rfl rfl)<|ag ?_
 refine az rfl (fun hb1 => ?_) (fun hb1 => ?_)
 ·have hb1_ := b8 hb1
  refine ae hP<|ab (aV hT rfl rfl rfl (es := [_, _]) rfl)<|ab (aV hT rfl rfl rfl (es := [_, _]) rfl)<|ak rfl<|aG hT rfl<|aG hT rfl<|aj rfl<|ag<|am ?_
  refine c7 rfl (.inr rfl) (aR hT rfl rfl rfl rfl (cs := [_, _]) rfl rfl) (aR hT rfl rfl rfl rfl (cs := [_, _]) rfl rfl) (bN rfl) ?_ br
  have h0 : x < 0 := by
   rcases Int.lt_or_le x 0 with h | h
   ·exact h
   exact absurd (gy (by omega)) hb1_
  exact aH (by rw [(gx h0).1, if_pos h0])
 have hb1_ := bU hb1
 refine au<|ae hP<|av hT rfl<|av hT rfl<|av hT rfl<|av hT rfl<|ab (ah (dK _ _ lz lz)) ?_
 refine ab (ah (jK _ _ lz lz)) ?_
 refine aG hT rfl<|aG hT rfl<|aj rfl<|ag<|am ?_
 refine c7 rfl (.inr rfl) (aR hT rfl rfl rfl rfl (cs := [_, _]) rfl rfl) (aR hT rfl rfl rfl rfl (cs := [_, _]) rfl rfl) (bN rfl) ?_ br
 have h0 : ¬ x < 0 := fun h => by rw [(gx h).2] at hb1_; cases hb1_
 exact aH (by rw [if_neg h0, gy h0])
end
section
open Go Go.AM
theorem eo (z : Int) (hz : bp z) :
  aI Tryz.prog 110 [.p (.c (.v (.int .i64 z)))] (I z) := by
 refine aK Tryz.func110 rfl rfl rfl rfl ?_
 refine ae hP<|ao ai (aA hT rfl rfl)<|ag<|ae hP<|ak rfl<|ab (ah (dV z hz)) ?_
 refine aG hT rfl<|ag<|am<|E2 hT rfl rfl rfl rfl rfl rfl rfl ?_
 exact .refl _
theorem cY (x y : Int) (hx : L 40 x) (hy : L 40 y) :
  aI Tryz.prog 109 [.p (.c (.sl 2 [zn x, zm x, zn y, zm y]))] (I (x * y)) := by
 have ix : LB x 40 := ⟨hx⟩
 have iy : LB y 40 := ⟨hy⟩
 refine aK Tryz.func109 rfl rfl rfl rfl ?_
 refine ae hP<|ao ai (aA hT rfl rfl)<|ag<|ae hP<|ab (ah (eo _ (by first | assumption | decide))) ?_
 refine ao ai (aA hT rfl rfl)<|aG hT rfl<|ag<|aq<|ae hP<|ak rfl<|ab (aU hT rfl rfl rfl rfl)<|ak rfl<|ag<|aB<|ee 3 ?_
 refine ae hP<|ab (bd rfl rfl)<|ag<|aq<|aW rfl (by decide) ?_
 refine au<|aq<|aB<|ae hP<|cJ ?_
 refine ab (bj hT rfl rfl rfl (cs := [_, _]) rfl rfl)<|ao ai (aA hT rfl rfl)<|aG hT rfl<|ag<|aw hP<|av hT rfl<|av hT rfl<|ab (ah (dK _ _ lz lz)) ?_
 refine aG hT rfl<|ag<|aw hP<|bw rfl rfl ?_
 refine ak rfl<|ag<|ae hP<|ab (bd rfl rfl)<|ag<|aq<|aW rfl (by decide) ?_
 refine au<|aq<|aB<|ae hP<|cJ ?_
 refine ab (bj hT rfl rfl rfl (cs := [_, _]) rfl rfl)<|ao ai (aA hT rfl rfl)<|aG hT rfl<|ag<|aw hP<|av hT rfl<|av hT rfl<|ab (ah (dK _ _ lz lz)) ?_
 refine aG hT rfl<|ag<|aw hP<|bw rfl rfl ?_
 refine ak rfl<|ag<|ae hP<|ab (bd rfl rfl)<|ag<|aq<|aQ rfl (by decide) ?_
 refine a7<|ae hP<|av hT rfl<|aG hT rfl<|ag<|am<|E2 hT rfl rfl rfl rfl rfl rfl rfl ?_
 exact Sub.I (by rw [Int.one_mul])
theorem fU (x y z : Int) (hx : L 40 x) (hy : L 40 y) (hz : L 40 z) :
  aI Tryz.prog 109 [.p (.c (.sl 3 [zn x, zm x, zn y, zm y, zn z, zm z]))] (I (x * y * z)) := by
 have ix : LB x 40 := ⟨hx⟩
 have iy : LB y 40 := ⟨hy⟩
 have iz : LB z 40 := ⟨hz⟩
 refine aK Tryz.func109 rfl rfl rfl rfl ?_
 refine ae hP<|ao ai (aA hT rfl rfl)<|ag<|ae hP<|ab (ah (eo _ (by first | assumption | decide))) ?_
 refine ao ai (aA hT rfl rfl)<|aG hT rfl<|ag<|aq<|ae hP<|ak rfl<|ab (aU hT rfl rfl rfl rfl)<|ak rfl<|ag<|aB<|ee 4 ?_
 refine ae hP<|ab (bd rfl rfl)<|ag<|aq<|aW rfl (by decide) ?_
 refine au<|aq<|aB<|ae hP<|cJ ?_
 refine ab (bj hT rfl rfl rfl (cs := [_, _]) rfl rfl)<|ao ai (aA hT rfl rfl)<|aG hT rfl<|ag<|aw hP<|av hT rfl<|av hT rfl<|ab (ah (dK _ _ lz lz)) ?_
 refine aG hT rfl<|ag<|aw hP<|bw rfl rfl ?_
 refine ak rfl<|ag<|ae hP<|ab (bd rfl rfl)<|ag<|aq<|aW rfl (by decide) ?_
 refine au<|aq<|aB<|ae hP<|cJ ?_
 refine ab (bj hT rfl rfl rfl (cs := [_, _]) rfl rfl)<|ao ai (aA hT rfl rfl)<|aG hT rfl<|ag<|aw hP<|av hT rfl<|av hT rfl<|ab (ah (dK _ _ lz lz)) ?_
 refine aG hT rfl<|ag<|aw hP<|bw rfl rfl ?_
 refine ak rfl<|ag<|ae hP<|ab (bd rfl rfl)<|ag<|aq<|aW rfl (by decide) ?_
 refine au<|aq<|aB<|ae hP<|cJ ?_
 refine ab (bj hT rfl rfl rfl (cs := [_, _]) rfl rfl)<|ao ai (aA hT rfl rfl)<|aG hT rfl<|ag<|aw hP<|av hT rfl<|av hT rfl<|ab (ah (dK _ _ lz lz)) ?_
 refine aG hT rfl<|ag<|aw hP<|bw rfl rfl ?_
 refine ak rfl<|ag<|ae hP<|ab (bd rfl rfl)<|ag<|aq<|aQ rfl (by decide) ?_
 refine a7<|ae hP<|av hT rfl<|aG hT rfl<|ag<|am<|E2 hT rfl rfl rfl rfl rfl rfl rfl ?_
 exact Sub.I (by rw [Int.one_mul])
theorem oJ (x : Int) (hx : L 40 x) :
  aI Tryz.prog 126 [I x] (B (eR x)) := by
 have ix : LB x 40 := ⟨hx⟩
 refine aK Tryz.func126 rfl rfl rfl rfl ?_
 refine ae hP<|ao ai (aJ rfl rfl)<|aj rfl<|ag<|ae hP<|av hT rfl<|ab (ah (BP _ lz)) ?_
 refine ab (ay (rfl : _ = AV.t _))<|ab (aD rfl (v := .a _) rfl)<|ab (aD rfl (v := .a _) rfl)<|ab (aD rfl (v := .c _) rfl)<|ao ai (aA hT rfl rfl)<|ao ai (aA hT rfl rfl)<|aG hT rfl<|aG hT rfl<|aj rfl<|ag<|ae hP<|ak rfl<|ab (bq rfl rfl)<|ak rfl ?_
 refine a6 (t := 14) rfl (fun hg1 => ?_) (fun hg1 => ?_)
 ·have hg1_ := bT hg1
  refine aC hg1 (aL hT rfl rfl rfl rfl (cs := [_, _]) rfl rfl) ?_
  refine aC hg1 (ah (cW _)) ?_
  refine aC hg1 (bq rfl rfl) ?_
  refine ab (aO rfl hg1 (rfl : _ = AV.p (.c _)))<|aj rfl<|ag<|am<|E1 rfl rfl ?_
  exact aX (tI hg1)
 have hg1_ := bF hg1
 iterate 3 refine aY hg1 ?_
 refine ab (aM rfl hg1 (rfl : _ = AV.p (.c _)))<|aj rfl<|ag<|am<|E1 rfl rfl ?_
 exact aX (Gd hg1)
theorem eZ (a b c : Int) (ha : L 36 a) (hb : L 36 b) (hc : L 36 c) :
  aI Tryz.prog 40 [FA a b c] (I (dsc a b c)) := by
 have ia : LB a 36 := ⟨ha⟩
 have ib : LB b 36 := ⟨hb⟩
 have ic : LB c 36 := ⟨hc⟩
 refine aK Tryz.func40 rfl rfl rfl rfl ?_
 refine ae hP<|ao ai (aJ rfl rfl)<|ao ai (aA hT rfl rfl)<|ag<|ae hP<|aE hT rfl<|av hT rfl<|aE hT rfl<|av hT rfl<|ab (bg hT rfl rfl rfl (es := [_, _, _, _]) rfl rfl rfl)<|ab (ah (cY _ _ lz lz)) ?_
 refine ab (ah (eo _ (by first | assumption | decide))) ?_
 refine aE hT rfl<|av hT rfl<|aE hT rfl<|av hT rfl<|ab (bg hT rfl rfl rfl (es := [_, _, _, _, _, _]) rfl rfl rfl)<|ab (ah (fU _ _ _ lz lz lz)) ?_
 refine ab (ah (jK _ _ lz lz)) ?_
 refine aG hT rfl<|ag<|am<|E2 hT rfl rfl rfl rfl rfl rfl rfl ?_
 exact .refl _
theorem mR (a b c : Int) (ha : L 34 a) (hb : L 34 b) (hc : L 34 c) :
  aI Tryz.prog 111 [FA a b c] (Z (ck a b c)) := by
 have ia : LB a 34 := ⟨ha⟩
 have ib : LB b 34 := ⟨hb⟩
 have ic : LB c 34 := ⟨hc⟩
 have cDs := eZ a b c lz lz lz
 have ids : LB (dsc a b c) 40 := ⟨lz⟩
 generalize hδ : dsc a b c = δ at cDs ids
 refine aK Tryz.func111 rfl rfl rfl rfl ?_
 refine ae hP<|ao ai (aJ rfl rfl)<|aj rfl<|ag<|aq<|ae hP<|aE hT rfl<|av hT rfl<|aE hT rfl<|av hT rfl<|aE hT rfl<|av hT rfl<|ab (du hT rfl rfl rfl (es := [_, _, _, _, _, _]) rfl)<|ak rfl<|ag<|aB<|ee 4 ?_
 refine ae hP<|ab (bd rfl rfl)<|ag<|aq<|aW rfl (by decide) ?_
 refine au<|aq<|aB<|ae hP<|ab (jq hT rfl rfl rfl rfl rfl rfl (by decide) (es := [_, _]) rfl rfl) ?_
 refine ao ai (aA hT rfl rfl)<|aG hT rfl<|ag<|ae hP<|av hT rfl<|ab (ah (mr _ lz)) ?_
 refine ab (bv rfl)<|ag<|aQ rfl rfl<|au<|aw hP<|bw rfl rfl ?_
 refine ak rfl<|ag<|ae hP<|ab (bd rfl rfl)<|ag<|aq<|aW rfl (by decide) ?_
 refine au<|aq<|aB<|ae hP<|ab (jq hT rfl rfl rfl rfl rfl rfl (by decide) (es := [_, _]) rfl rfl) ?_
 refine ao ai (aA hT rfl rfl)<|aG hT rfl<|ag<|ae hP<|av hT rfl<|ab (ah (mr _ lz)) ?_
 refine ab (bv rfl)<|ag<|aQ rfl rfl<|au<|aw hP<|bw rfl rfl ?_
 refine ak rfl<|ag<|ae hP<|ab (bd rfl rfl)<|ag<|aq<|aW rfl (by decide) ?_
 refine au<|aq<|aB<|ae hP<|ab (jq hT rfl rfl rfl rfl rfl rfl (by decide) (es := [_, _]) rfl rfl) ?_
 refine ao ai (aA hT rfl rfl)<|aG hT rfl<|ag<|ae hP<|av hT rfl<|ab (ah (mr _ lz)) ?_
 refine ab (bv rfl)<|ag<|aQ rfl rfl<|au<|aw hP<|bw rfl rfl ?_
 refine ak rfl<|ag<|ae hP<|ab (bd rfl rfl)<|ag<|aq<|aQ rfl (by decide) ?_
 refine a7<|dE (t := stL [(1, .loc 1 0)] [(1, ⟨false, 1, 46, FL a b c⟩)]) (aF ⟨.refl _, trivial⟩ ⟨rfl, trivial⟩) ?_
 refine ae hP<|bA hT rfl rfl rfl rfl rfl rfl<|ab (ah cDs) ?_
 refine ao ai (aA hT rfl rfl)<|aG hT rfl<|ag<|aq<|aB<|ae hP<|av hT rfl<|ab (ah (oJ _ lz)) ?_
 refine aj rfl<|ag ?_
 refine az rfl (fun hb1 => ?_) (fun hb1 => ?_)
 ·refine ae hP<|aj rfl<|ag<|am<|E1 rfl rfl ?_
  exact aN (DD (by rw [hδ]; exact hb1))
 refine ae hP<|av hT rfl<|ab (ah (cW _)) ?_
 refine ab (bd rfl rfl)<|ak rfl ?_
 refine a6 (t := 29) rfl (fun hg2 => ?_) (fun hg2 => ?_)
 ·have hg2_ := dT0 hg2
  refine aC hg2 (aS hT rfl rfl rfl rfl rfl rfl) ?_
  refine aC hg2 (aL hT rfl rfl rfl rfl (cs := [_, _]) rfl rfl) ?_
  refine aC hg2 (ah (cW _)) ?_
  refine aC hg2 (fv rfl rfl) ?_
  refine ab (aO rfl hg2 (rfl : _ = AV.p (.c _)))<|aj rfl<|ag ?_
  refine az rfl (fun hb3 => ?_) (fun hb3 => ?_)
  ·have hb3_ := dT0 hb3
   refine ae hP<|aj rfl<|ag<|am<|E1 rfl rfl ?_
   exact aN (zE (by rw [hδ]; exact hb1) (by rw [hδ]; exact hg2_) hb3_)
  have hb3_ := dF0 hb3
  refine au<|ae hP<|aj rfl<|ag<|am<|E1 rfl rfl ?_
  exact aN (DE (by rw [hδ]; exact hb1) (by rw [hδ]; exact hg2_) hb3_)
 have hg2_ := dF0 hg2
 iterate 4 refine aY hg2 ?_
 refine ab (aM rfl hg2 (rfl : _ = AV.p (.c _)))<|aj rfl<|ag<|aQ rfl rfl<|au<|ae hP<|aj rfl<|ag<|am<|E1 rfl rfl ?_
 exact aN (zD (by rw [hδ]; exact hb1) (by rw [hδ]; exact hg2_))
theorem iW (a b c : Int) (ha : L 44 a) (hb : L 44 b) (hc : L 44 c) :
  aI Tryz.prog 53 [FA a b c] (B (prim a b c)) := by
 have ia : LB a 44 := ⟨ha⟩
 have ib : LB b 44 := ⟨hb⟩
 have ic : LB c 44 := ⟨hc⟩
 have ig := z6 hb hc
 refine aK Tryz.func53 rfl rfl rfl rfl ?_
 refine ae hP<|ao ai (aJ rfl rfl)<|aj rfl<|ag<|ae hP<|aE hT rfl<|av hT rfl<|aE hT rfl<|av hT rfl<|aE hT rfl<|av hT rfl<|ab (ah (mZ _ _ lz lz)) ?_
 refine ab (ah (mZ _ _ lz lz)) ?_
 refine ab (ah (eo _ (by first | assumption | decide))) ?_
 refine ab (ah (dq _ _)) ?_
 refine ab (bq rfl rfl)<|aj rfl<|ag<|am<|E1 rfl rfl ?_
 exact aX (Bf _ _ _)
theorem pE (a b c x y : Int) (ha : L 36 a) (hb : L 36 b) (hc : L 36 c) (hx : L 36 x) (hy : L 36 y) :
  aI Tryz.prog 44 [FA a b c, I x, I y] (I (vl a b c x y)) := by
 have ia : LB a 36 := ⟨ha⟩
 have ib : LB b 36 := ⟨hb⟩
 have ic : LB c 36 := ⟨hc⟩
 have ix : LB x 36 := ⟨hx⟩
 have iy : LB y 36 := ⟨hy⟩
 refine aK Tryz.func44 rfl rfl rfl rfl ?_
 refine ae hP<|ao ai (aJ rfl rfl)<|ao ai (aJ rfl rfl)<|ao ai (aJ rfl rfl)<|ao ai (aA hT rfl rfl)<|ag<|ae hP<|aE hT rfl<|av hT rfl<|av hT rfl<|av hT rfl<|ab (bg hT rfl rfl rfl (es := [_, _, _, _, _, _]) rfl rfl rfl)<|ab (ah (fU _ _ _ lz lz lz)) ?_
 refine aE hT rfl<|av hT rfl<|av hT rfl<|av hT rfl<|ab (bg hT rfl rfl rfl (es := [_, _, _, _, _, _]) rfl rfl rfl)<|ab (ah (fU _ _ _ lz lz lz)) ?_
 refine ab (ah (dT _ _ lz lz)) ?_
 refine aE hT rfl<|av hT rfl<|av hT rfl<|av hT rfl<|ab (bg hT rfl rfl rfl (es := [_, _, _, _, _, _]) rfl rfl rfl)<|ab (ah (fU _ _ _ lz lz lz)) ?_
 refine ab (ah (dT _ _ lz lz)) ?_
 refine aG hT rfl<|ag<|am<|E2 hT rfl rfl rfl rfl rfl rfl rfl ?_
 exact .refl _
theorem Fh (a b c p q r s : Int) (ha : L 34 a) (hb : L 34 b) (hc : L 34 c) (hp : L 34 p) (hq : L 34 q) (hr : L 34 r) (hs : L 34 s) :
  aI Tryz.prog 46 [FA a b c, MA p q r s] (FA (vl a b c p r) (apB a b c p q r s) (vl a b c q s)) := by
 have ia : LB a 34 := ⟨ha⟩
 have ib : LB b 34 := ⟨hb⟩
 have ic : LB c 34 := ⟨hc⟩
 have ip : LB p 34 := ⟨hp⟩
 have iq : LB q 34 := ⟨hq⟩
 have ir : LB r 34 := ⟨hr⟩
 have is : LB s 34 := ⟨hs⟩
 refine aK Tryz.func46 rfl rfl rfl rfl ?_
 refine ae hP<|ao ai (aJ rfl rfl)<|ao ai (aJ rfl rfl)<|ao ai (aA hT rfl rfl)<|ag<|ae hP<|aE hT rfl<|av hT rfl<|aE hT rfl<|av hT rfl<|ab (bg hT rfl rfl rfl (es := [_, _, _, _]) rfl rfl rfl)<|ab (ah (cY _ _ lz lz)) ?_
 refine aE hT rfl<|av hT rfl<|aE hT rfl<|av hT rfl<|ab (bg hT rfl rfl rfl (es := [_, _, _, _]) rfl rfl rfl)<|ab (ah (cY _ _ lz lz)) ?_
 refine ab (ah (dT _ _ lz lz)) ?_
 refine ao ai (aA hT rfl rfl)<|aG hT rfl<|ag<|ae hP<|aE hT rfl<|av hT rfl<|aE hT rfl<|av hT rfl<|aE hT rfl<|av hT rfl<|ab (bg hT rfl rfl rfl (es := [_, _, _, _, _, _]) rfl rfl rfl)<|ab (ah (fU _ _ _ lz lz lz)) ?_
 refine aE hT rfl<|av hT rfl<|aE hT rfl<|av hT rfl<|aE hT rfl<|av hT rfl<|ab (bg hT rfl rfl rfl (es := [_, _, _, _, _, _]) rfl rfl rfl)<|ab (ah (fU _ _ _ lz lz lz)) ?_
 refine ab (ah (dT _ _ lz lz)) ?_
 refine ao ai (aA hT rfl rfl)<|aG hT rfl<|ag<|ae hP<|bA hT rfl rfl rfl rfl rfl rfl<|aE hT rfl<|av hT rfl<|aE hT rfl<|av hT rfl<|ab (ah (pE _ _ _ _ _ lz lz lz lz lz)) ?_
 refine ab (ah (eo _ (by first | assumption | decide))) ?_
 refine av hT rfl<|ab (bg hT rfl rfl rfl (es := [_, _, _, _]) rfl rfl rfl)<|ab (ah (cY _ _ lz lz)) ?_
 refine aE hT rfl<|av hT rfl<|av hT rfl<|ab (bg hT rfl rfl rfl (es := [_, _, _, _]) rfl rfl rfl)<|ab (ah (cY _ _ lz lz)) ?_
 refine ab (ah (dT _ _ lz lz)) ?_
 refine bA hT rfl rfl rfl rfl rfl rfl<|aE hT rfl<|av hT rfl<|aE hT rfl<|av hT rfl<|ab (ah (pE _ _ _ _ _ lz lz lz lz lz)) ?_
 refine ab (aV hT rfl rfl rfl (es := [_, _, _, _, _, _]) rfl)<|aG hT rfl<|ag<|am ?_
 refine bR rfl (.inr rfl) (aR hT rfl rfl rfl rfl (cs := [_, _, _, _, _, _]) rfl rfl) ?_ br
 exact .refl _
theorem yD (p q r s : Int) :
  aI Tryz.prog 209 [MA p q r s] (MA p q r s) := by
 refine aK Tryz.func209 rfl rfl rfl rfl ?_
 refine ae hP<|ao ai (aJ rfl rfl)<|ao ai (aA hT rfl rfl)<|ag<|ae hP<|aE hT rfl<|av hT rfl<|aE hT rfl<|av hT rfl<|ab (du hT rfl rfl rfl (es := [_, _, _, _]) rfl)<|aE hT rfl<|av hT rfl<|aE hT rfl<|av hT rfl<|ab (du hT rfl rfl rfl (es := [_, _, _, _]) rfl)<|ab (du hT rfl rfl rfl (es := [_, _, _, _, _, _, _, _]) rfl)<|aG hT rfl<|ag<|am ?_
 refine bR rfl (.inr rfl) (aR hT rfl rfl rfl rfl (cs := [_, _, _, _, _, _, _, _]) rfl rfl) ?_ br
 exact .refl _
theorem vD (p q r s t u v w : Int) (hp : L 38 p) (hq : L 38 q) (hr : L 38 r) (hs : L 38 s) (ht : L 38 t) (hu : L 38 u) (hv : L 38 v) (hw : L 38 w) :
  aI Tryz.prog 172 [MA p q r s, MA t u v w] (MA (p * t + q * v) (p * u + q * w) (r * t + s * v) (r * u + s * w)) := by
 have ip : LB p 38 := ⟨hp⟩
 have iq : LB q 38 := ⟨hq⟩
 have ir : LB r 38 := ⟨hr⟩
 have is : LB s 38 := ⟨hs⟩
 have it : LB t 38 := ⟨ht⟩
 have iu : LB u 38 := ⟨hu⟩
 have iv : LB v 38 := ⟨hv⟩
 have iw : LB w 38 := ⟨hw⟩
 refine aK Tryz.func172 rfl rfl rfl rfl ?_
 refine ae hP<|ao ai (aJ rfl rfl)<|ao ai (aJ rfl rfl)<|ao ai (aA hT rfl rfl)<|ag<|ae hP<|ab (aL hT rfl rfl rfl rfl (cs := [_, _, _, _, _, _, _, _]) rfl rfl)<|ab (ah (yD _ _ _ _)) ?_
 refine ab (aL hT rfl rfl rfl rfl (cs := [_, _, _, _, _, _, _, _]) rfl rfl)<|ab (ah (yD _ _ _ _)) ?_
 refine ao ai (aA hT rfl rfl)<|ao ai (aA hT rfl rfl)<|aG hT rfl<|aG hT rfl<|ag<|ae hP<|ao ai (aA hT rfl rfl)<|ag<|aq<|ae hP<|ak rfl<|ag<|aB<|ee 3 ?_
 refine ae hP<|ab (bd rfl rfl)<|ag<|aq<|aW rfl (by decide) ?_
 refine au<|aq<|aB<|ae hP<|ak rfl<|aj rfl<|ag<|ae hP<|ak rfl<|ag<|aB<|ee 3 ?_
 refine ae hP<|ab (bd rfl rfl)<|ag<|aq<|aW rfl (by decide) ?_
 refine au<|aq<|aB<|ae hP<|ak rfl<|aj rfl<|ag<|aw hP<|ak rfl<|ak rfl<|ak rfl<|ab (aT hT rfl rfl rfl rfl rfl (by first | decide | omega)) ?_
 refine ab (aT hT rfl rfl rfl rfl rfl (by first | decide | omega)) ?_
 refine av hT rfl<|ak rfl<|ab (aT hT rfl rfl rfl rfl rfl (by first | decide | omega)) ?_
 refine ab (aT hT rfl rfl rfl rfl rfl (by first | decide | omega)) ?_
 refine av hT rfl<|ab (bg hT rfl rfl rfl (es := [_, _, _, _]) rfl rfl rfl)<|ab (ah (cY _ _ lz lz)) ?_
 refine ak rfl<|ab (aT hT rfl rfl rfl rfl rfl (by first | decide | omega)) ?_
 refine ab (aT hT rfl rfl rfl rfl rfl (by first | decide | omega)) ?_
 refine av hT rfl<|ak rfl<|ab (aT hT rfl rfl rfl rfl rfl (by first | decide | omega)) ?_
 refine ab (aT hT rfl rfl rfl rfl rfl (by first | decide | omega)) ?_
 refine av hT rfl<|ab (bg hT rfl rfl rfl (es := [_, _, _, _]) rfl rfl rfl)<|ab (ah (cY _ _ lz lz)) ?_
 refine ab (ah (dT _ _ lz lz)) ?_
 refine ab (aT hT rfl rfl rfl rfl rfl (by first | decide | omega)) ?_
 refine ab (aT hT rfl rfl rfl rfl rfl (by first | decide | omega)) ?_
 refine aG hT rfl<|ag<|aw hP<|bw rfl rfl ?_
 refine ak rfl<|ag<|ae hP<|ab (bd rfl rfl)<|ag<|aq<|aW rfl (by decide) ?_
 refine au<|aq<|aB<|ae hP<|ak rfl<|aj rfl<|ag<|aw hP<|ak rfl<|ak rfl<|ak rfl<|ab (aT hT rfl rfl rfl rfl rfl (by first | decide | omega)) ?_
 refine ab (aT hT rfl rfl rfl rfl rfl (by first | decide | omega)) ?_
 refine av hT rfl<|ak rfl<|ab (aT hT rfl rfl rfl rfl rfl (by first | decide | omega)) ?_
 refine ab (aT hT rfl rfl rfl rfl rfl (by first | decide | omega)) ?_
 refine av hT rfl<|ab (bg hT rfl rfl rfl (es := [_, _, _, _]) rfl rfl rfl)<|ab (ah (cY _ _ lz lz)) ?_
 refine ak rfl<|ab (aT hT rfl rfl rfl rfl rfl (by first | decide | omega)) ?_
 refine ab (aT hT rfl rfl rfl rfl rfl (by first | decide | omega)) ?_
 refine av hT rfl<|ak rfl<|ab (aT hT rfl rfl rfl rfl rfl (by first | decide | omega)) ?_
 refine ab (aT hT rfl rfl rfl rfl rfl (by first | decide | omega)) ?_
 refine av hT rfl<|ab (bg hT rfl rfl rfl (es := [_, _, _, _]) rfl rfl rfl)<|ab (ah (cY _ _ lz lz)) ?_
 refine ab (ah (dT _ _ lz lz)) ?_
 refine ab (aT hT rfl rfl rfl rfl rfl (by first | decide | omega)) ?_
 refine ab (aT hT rfl rfl rfl rfl rfl (by first | decide | omega)) ?_
 refine aG hT rfl<|ag<|aw hP<|bw rfl rfl ?_
 refine ak rfl<|ag<|ae hP<|ab (bd rfl rfl)<|ag<|aq<|aQ rfl (by decide) ?_
 refine a7<|aw hP<|bw rfl rfl ?_
 refine ak rfl<|ag<|ae hP<|ab (bd rfl rfl)<|ag<|aq<|aW rfl (by decide) ?_
 refine au<|aq<|aB<|ae hP<|ak rfl<|aj rfl<|ag<|ae hP<|ak rfl<|ag<|aB<|ee 3 ?_
 refine ae hP<|ab (bd rfl rfl)<|ag<|aq<|aW rfl (by decide) ?_
 refine au<|aq<|aB<|ae hP<|ak rfl<|aj rfl<|ag<|aw hP<|ak rfl<|ak rfl<|ak rfl<|ab (aT hT rfl rfl rfl rfl rfl (by first | decide | omega)) ?_
 refine ab (aT hT rfl rfl rfl rfl rfl (by first | decide | omega)) ?_
 refine av hT rfl<|ak rfl<|ab (aT hT rfl rfl rfl rfl rfl (by first | decide | omega)) ?_
 refine ab (aT hT rfl rfl rfl rfl rfl (by first | decide | omega)) ?_
 refine av hT rfl<|ab (bg hT rfl rfl rfl (es := [_, _, _, _]) rfl rfl rfl)<|ab (ah (cY _ _ lz lz)) ?_
 refine ak rfl<|ab (aT hT rfl rfl rfl rfl rfl (by first | decide | omega)) ?_
 refine ab (aT hT rfl rfl rfl rfl rfl (by first | decide | omega)) ?_
 refine av hT rfl<|ak rfl<|ab (aT hT rfl rfl rfl rfl rfl (by first | decide | omega)) ?_
 refine ab (aT hT rfl rfl rfl rfl rfl (by first | decide | omega)) ?_
 refine av hT rfl<|ab (bg hT rfl rfl rfl (es := [_, _, _, _]) rfl rfl rfl)<|ab (ah (cY _ _ lz lz)) ?_
 refine ab (ah (dT _ _ lz lz)) ?_
 refine ab (aT hT rfl rfl rfl rfl rfl (by first | decide | omega)) ?_
 refine ab (aT hT rfl rfl rfl rfl rfl (by first | decide | omega)) ?_
 refine aG hT rfl<|ag<|aw hP<|bw rfl rfl ?_
 refine ak rfl<|ag<|ae hP<|ab (bd rfl rfl)<|ag<|aq<|aW rfl (by decide) ?_
 refine au<|aq<|aB<|ae hP<|ak rfl<|aj rfl<|ag<|aw hP<|ak rfl<|ak rfl<|ak rfl<|ab (aT hT rfl rfl rfl rfl rfl (by first | decide | omega)) ?_
 refine ab (aT hT rfl rfl rfl rfl rfl (by first | decide | omega)) ?_
 refine av hT rfl<|ak rfl<|ab (aT hT rfl rfl rfl rfl rfl (by first | decide | omega)) ?_
 refine ab (aT hT rfl rfl rfl rfl rfl (by first | decide | omega)) ?_
 refine av hT rfl<|ab (bg hT rfl rfl rfl (es := [_, _, _, _]) rfl rfl rfl)<|ab (ah (cY _ _ lz lz)) ?_
 refine ak rfl<|ab (aT hT rfl rfl rfl rfl rfl (by first | decide | omega)) ?_
 refine ab (aT hT rfl rfl rfl rfl rfl (by first | decide | omega)) ?_
 refine av hT rfl<|ak rfl<|ab (aT hT rfl rfl rfl rfl rfl (by first | decide | omega)) ?_
 refine ab (aT hT rfl rfl rfl rfl rfl (by first | decide | omega)) ?_
 refine av hT rfl<|ab (bg hT rfl rfl rfl (es := [_, _, _, _]) rfl rfl rfl)<|ab (ah (cY _ _ lz lz)) ?_
 refine ab (ah (dT _ _ lz lz)) ?_
 refine ab (aT hT rfl rfl rfl rfl rfl (by first | decide | omega)) ?_
 refine ab (aT hT rfl rfl rfl rfl rfl (by first | decide | omega)) ?_
 refine aG hT rfl<|ag<|aw hP<|bw rfl rfl ?_
 refine ak rfl<|ag<|ae hP<|ab (bd rfl rfl)<|ag<|aq<|aQ rfl (by decide) ?_
 refine a7<|aw hP<|bw rfl rfl ?_
 refine ak rfl<|ag<|ae hP<|ab (bd rfl rfl)<|ag<|aq<|aQ rfl (by decide) ?_
 refine a7<|ae hP<|ab (aT hT rfl rfl rfl rfl rfl (by first | decide | omega)) ?_
 refine ab (aT hT rfl rfl rfl rfl rfl (by first | decide | omega)) ?_
 refine av hT rfl<|ab (aT hT rfl rfl rfl rfl rfl (by first | decide | omega)) ?_
 refine ab (aT hT rfl rfl rfl rfl rfl (by first | decide | omega)) ?_
 refine av hT rfl<|ab (aT hT rfl rfl rfl rfl rfl (by first | decide | omega)) ?_
 refine ab (aT hT rfl rfl rfl rfl rfl (by first | decide | omega)) ?_
 refine av hT rfl<|ab (aT hT rfl rfl rfl rfl rfl (by first | decide | omega)) ?_
 refine ab (aT hT rfl rfl rfl rfl rfl (by first | decide | omega)) ?_
 refine av hT rfl<|ab (aV hT rfl rfl rfl (es := [_, _, _, _, _, _, _, _]) rfl)<|aG hT rfl<|ag<|am ?_
 refine bR rfl (.inr rfl) (aR hT rfl rfl rfl rfl (cs := [_, _, _, _, _, _, _, _]) rfl rfl) ?_ br
 exact .refl _
theorem qt (a b c : Int) (ha : L 34 a) (hb : L 34 b) (hc : L 34 c) :
  aI Tryz.prog 112 [FA a b c] (B (rdd a b c)) := by
 have ia : LB a 34 := ⟨ha⟩
 have ib : LB b 34 := ⟨hb⟩
 have ic : LB c 34 := ⟨hc⟩
 refine aK Tryz.func112 rfl rfl rfl rfl ?_
 refine ae hP<|ao ai (aJ rfl rfl)<|aj rfl<|ag<|aq<|ae hP<|bA hT rfl rfl rfl rfl rfl rfl<|ab (ah (mR _ _ _ lz lz lz)) ?_
 refine ab (bo rfl rfl)<|ak rfl ?_
 refine a6 (t := 8) rfl (fun hg1 => ?_) (fun hg1 => ?_)
 ·have hg1_ := b8 hg1
  iterate 4 refine aY hg1 ?_
  refine ab (aO rfl hg1 (rfl : _ = AV.p (.c _)))<|ag<|aW rfl rfl<|ae hP<|aj rfl<|ag<|am<|E1 rfl rfl ?_
  exact aX (K1 hg1_)
 have hg1_ := bU hg1
 refine aC hg1 (aL hT rfl rfl rfl rfl (cs := [_, _, _, _, _, _]) rfl rfl) ?_
 refine aC hg1 (ah (eZ _ _ _ lz lz lz)) ?_
 refine aC hg1 (ah (cW _)) ?_
 refine aC hg1 (bO rfl rfl) ?_
 refine ab (aM rfl hg1 (rfl : _ = AV.p (.c _)))<|ag ?_
 refine az rfl (fun hb2 => ?_) (fun hb2 => ?_)
 ·have hb2_ := dT0 hb2
  refine ae hP<|aj rfl<|ag<|am<|E1 rfl rfl ?_
  exact aX (KZ hb2_)
 have hb2_ := dF0 hb2
 refine au<|ae hP<|aE hT rfl<|av hT rfl<|ab (ah (na _)) ?_
 refine aE hT rfl<|av hT rfl<|ab (ah (dq _ _)) ?_
 refine aE hT rfl<|av hT rfl<|aE hT rfl<|av hT rfl<|ab (ah (dq _ _)) ?_
 refine aj rfl<|aj rfl<|ag<|ae hP<|ak rfl<|ab (fv rfl rfl)<|ak rfl ?_
 refine a6 (t := 27) rfl (fun hg3 => ?_) (fun hg3 => ?_)
 ·have hg3_ := dT0 hg3
  refine aC hg3 (ay (rfl : _ = AV.p (.c _))) ?_
  refine aC hg3 (fv rfl rfl) ?_
  refine ab (aO rfl hg3 (rfl : _ = AV.p (.c _)))<|ak rfl ?_
  refine a6 (t := 31) rfl (fun hg4 => ?_) (fun hg4 => ?_)
  ·have hg4_ := dT0 hg4
   refine aC hg4 (ay (rfl : _ = AV.p (.c _))) ?_
   refine aC hg4 (bd rfl rfl) ?_
   refine aC hg4 (ay (rfl : _ = AV.p (.c _))) ?_
   refine a6 (t := 34) rfl (fun hg5 => ?_) (fun hg5 => ?_)
   ·have hg5_ := dT0 hg5
    refine aC hg5 (ay (rfl : _ = AV.p (.c _))) ?_
    refine aC hg5 (bd rfl rfl) ?_
    refine aC hg4 (aO rfl hg5 (rfl : _ = AV.p (.c _))) ?_
    refine aC hg4 (ay (rfl : _ = AV.p (.c _))) ?_
    refine a6 (t := 38) rfl (fun hg6 => ?_) (fun hg6 => ?_)
    ·have hg6_ := dT0 hg6
     iterate 4 refine aY hg6 ?_
     refine aC hg4 (aO rfl hg6 (rfl : _ = AV.p (.c _))) ?_
     refine ab (aO rfl hg4 (rfl : _ = AV.p (.c _)))<|aj rfl<|ag<|am<|E1 rfl rfl ?_
     exact aX (KY hg1_ hb2_ hg5_ hg6_)
    have hg6_ := dF0 hg6
    refine aC hg6 (aS hT rfl rfl rfl rfl rfl rfl) ?_
    refine aC hg6 (aL hT rfl rfl rfl rfl (cs := [_, _]) rfl rfl) ?_
    refine aC hg6 (ah (cW _)) ?_
    refine aC hg6 (dc rfl rfl) ?_
    refine aC hg4 (aM rfl hg6 (rfl : _ = AV.p (.c _))) ?_
    refine ab (aO rfl hg4 (rfl : _ = AV.p (.c _)))<|aj rfl<|ag<|am<|E1 rfl rfl ?_
    exact aX (Dg hg1_ hb2_ hg3_ hg4_ (fun h => hg6_ h.2))
   have hg5_ := dF0 hg5
   refine aY hg5 ?_
   refine aY hg5 ?_
   refine aC hg4 (aM rfl hg5 (rfl : _ = AV.p (.c _))) ?_
   refine aC hg4 (ay (rfl : _ = AV.p (.c _))) ?_
   refine aC rfl (aS hT rfl rfl rfl rfl rfl rfl) ?_
   refine aC rfl (aL hT rfl rfl rfl rfl (cs := [_, _]) rfl rfl) ?_
   refine aC rfl (ah (cW _)) ?_
   refine aC rfl (dc rfl rfl) ?_
   refine aC hg4 (aM rfl rfl (rfl : _ = AV.p (.c _))) ?_
   refine ab (aO rfl hg4 (rfl : _ = AV.p (.c _)))<|aj rfl<|ag<|am<|E1 rfl rfl ?_
   exact aX (Dg hg1_ hb2_ hg3_ hg4_ (fun h => hg5_ h.1))
  have hg4_ := dF0 hg4
  iterate 3 refine aY hg4 ?_
  refine eT ?_
  refine eT ?_
  refine aY hg4 ?_
  refine aY hg4 ?_
  iterate 4 refine eT ?_
  refine aY hg4 ?_
  refine ab (aM rfl hg4 (rfl : _ = AV.p (.c _)))<|aj rfl<|ag<|am<|E1 rfl rfl ?_
  exact aX (KX hg4_)
 have hg3_ := dF0 hg3
 refine aY hg3 ?_
 refine aY hg3 ?_
 refine ab (aM rfl hg3 (rfl : _ = AV.p (.c _)))<|ak rfl<|aY rfl ?_
 refine aY rfl ?_
 refine aY rfl ?_
 refine eT ?_
 refine eT ?_
 refine aY rfl ?_
 refine aY rfl ?_
 iterate 4 refine eT ?_
 refine aY rfl ?_
 refine ab (aM rfl rfl (rfl : _ = AV.p (.c _)))<|aj rfl<|ag<|am<|E1 rfl rfl ?_
 exact aX (KW hg3_)
end
end Go.Proofs.YthaiejfjnllglaaGreatDoor

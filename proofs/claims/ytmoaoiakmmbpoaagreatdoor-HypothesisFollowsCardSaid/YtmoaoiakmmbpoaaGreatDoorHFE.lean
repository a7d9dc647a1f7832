/- Texts merged by program, in build order. -/
import Derived.Test.YtmoaoiakmmbpoaaGreatDoorHFA
import Derived.Test.YtmoaoiakmmbpoaaGreatDoorHFB
import Derived.Test.YtmoaoiakmmbpoaaGreatDoorHFC
import Derived.Test.YtmoaoiakmmbpoaaGreatDoorHFD
import Derived.Test.YtmoaoiakmmbpoaaGreatDoorProg
import Derived.KernelRfl
section
/- The types of this seat, by program (gen_ty.py). -/
namespace Go.Proofs.YtmoaoiakmmbpoaaGreatDoor
open Go Go.AM
/- int64 -/
def ty2 : TyI := ⟨.int .i64, 1, 8, [.v (.int .i64 0)]⟩
theorem ty2_ok : TyOK Tryz.prog 2 ty2 := TyOK.mk' (z := .int .i64 0) (by kernel_rfl) Tryz.underlying2 rfl rfl ⟨z_v _ rfl, trivial⟩
/- int -/
def ty3 : TyI := ⟨.int .i64, 1, 8, [.v (.int .i64 0)]⟩
theorem ty3_ok : TyOK Tryz.prog 3 ty3 := TyOK.mk' (z := .int .i64 0) (by kernel_rfl) Tryz.underlying3 rfl rfl ⟨z_v _ rfl, trivial⟩
/- bool -/
def ty4 : TyI := ⟨.bool, 1, 1, [.v (.bool false)]⟩
theorem ty4_ok : TyOK Tryz.prog 4 ty4 := TyOK.mk' (z := .bool false) (by kernel_rfl) Tryz.underlying4 trivial rfl ⟨z_v _ rfl, trivial⟩
/- uint8 -/
def ty5 : TyI := ⟨.int .u8, 1, 1, [.v (.int .u8 0)]⟩
theorem ty5_ok : TyOK Tryz.prog 5 ty5 := TyOK.mk' (z := .int .u8 0) (by kernel_rfl) Tryz.underlying5 rfl rfl ⟨z_v _ rfl, trivial⟩
/- string -/
def ty9 : TyI := ⟨.str, 1, 16, [.v (.string ⟨#[]⟩)]⟩
theorem ty9_ok : TyOK Tryz.prog 9 ty9 := TyOK.mk' (z := .string ⟨#[]⟩) (by kernel_rfl) Tryz.underlying9 trivial rfl ⟨z_v _ rfl, trivial⟩
/- uintptr -/
def ty12 : TyI := ⟨.int .u64, 1, 8, [.v (.int .u64 0)]⟩
theorem ty12_ok : TyOK Tryz.prog 12 ty12 := TyOK.mk' (z := .int .u64 0) (by kernel_rfl) Tryz.underlying12 rfl rfl ⟨z_v _ rfl, trivial⟩
/- int32 -/
def ty21 : TyI := ⟨.int .i32, 1, 4, [.v (.int .i32 0)]⟩
theorem ty21_ok : TyOK Tryz.prog 21 ty21 := TyOK.mk' (z := .int .i32 0) (by kernel_rfl) Tryz.underlying21 rfl rfl ⟨z_v _ rfl, trivial⟩
/- []algoristref30.Raw -/
def ty22 : TyI := ⟨.sl 39, 1, 24, [.sl 0 []]⟩
theorem ty22_ok : TyOK Tryz.prog 22 ty22 := TyOK.mk' (z := .slice none 0 0) (by kernel_rfl) Tryz.underlying22 rfl rfl ⟨z_sl, trivial⟩
/- []api.Derivation -/
def ty24 : TyI := ⟨.sl 45, 1, 24, [.sl 0 []]⟩
theorem ty24_ok : TyOK Tryz.prog 24 ty24 := TyOK.mk' (z := .slice none 0 0) (by kernel_rfl) Tryz.underlying24 rfl rfl ⟨z_sl, trivial⟩
/- []int -/
def ty25 : TyI := ⟨.sl 3, 1, 24, [.sl 0 []]⟩
theorem ty25_ok : TyOK Tryz.prog 25 ty25 := TyOK.mk' (z := .slice none 0 0) (by kernel_rfl) Tryz.underlying25 rfl rfl ⟨z_sl, trivial⟩
/- struct { D []api.Derivation; Granted []int } -/
def ty26 : TyI := ⟨.st [(0, 24), (1, 25)], 2, 48, [.sl 0 [], .sl 0 []]⟩
theorem ty26_ok : TyOK Tryz.prog 26 ty26 := TyOK.mk' (z := .agg #[.slice none 0 0, .slice none 0 0]) (by kernel_rfl) Tryz.underlying26 rfl rfl ⟨z_sl, z_sl, trivial⟩
/- api.Book -/
def ty27 : TyI := ⟨.st [(0, 24), (1, 25)], 2, 48, [.sl 0 [], .sl 0 []]⟩
theorem ty27_ok : TyOK Tryz.prog 27 ty27 := TyOK.mk' (z := .agg #[.slice none 0 0, .slice none 0 0]) (by kernel_rfl) Tryz.underlying27 rfl rfl ⟨z_sl, z_sl, trivial⟩
/- [][]int -/
def ty32 : TyI := ⟨.sl 25, 1, 24, [.sl 0 []]⟩
theorem ty32_ok : TyOK Tryz.prog 32 ty32 := TyOK.mk' (z := .slice none 0 0) (by kernel_rfl) Tryz.underlying32 rfl rfl ⟨z_sl, trivial⟩
/- []string -/
def ty35 : TyI := ⟨.sl 9, 1, 24, [.sl 0 []]⟩
theorem ty35_ok : TyOK Tryz.prog 35 ty35 := TyOK.mk' (z := .slice none 0 0) (by kernel_rfl) Tryz.underlying35 rfl rfl ⟨z_sl, trivial⟩
/- struct { Claim uint8; From uint8; Hyps uint8 } -/
def ty38 : TyI := ⟨.st [(0, 5), (1, 5), (2, 5)], 3, 3, [.v (.int .u8 0), .v (.int .u8 0), .v (.int .u8 0)]⟩
theorem ty38_ok : TyOK Tryz.prog 38 ty38 := TyOK.mk' (z := .agg #[.int .u8 0, .int .u8 0, .int .u8 0]) (by kernel_rfl) Tryz.underlying38 rfl rfl ⟨z_v _ rfl, z_v _ rfl, z_v _ rfl, trivial⟩
/- algoristref30.Raw -/
def ty39 : TyI := ⟨.st [(0, 5), (1, 5), (2, 5)], 3, 3, [.v (.int .u8 0), .v (.int .u8 0), .v (.int .u8 0)]⟩
theorem ty39_ok : TyOK Tryz.prog 39 ty39 := TyOK.mk' (z := .agg #[.int .u8 0, .int .u8 0, .int .u8 0]) (by kernel_rfl) Tryz.underlying39 rfl rfl ⟨z_v _ rfl, z_v _ rfl, z_v _ rfl, trivial⟩
/- api.Errno -/
def ty40 : TyI := ⟨.int .i64, 1, 8, [.v (.int .i64 0)]⟩
theorem ty40_ok : TyOK Tryz.prog 40 ty40 := TyOK.mk' (z := .int .i64 0) (by kernel_rfl) Tryz.underlying40 rfl rfl ⟨z_v _ rfl, trivial⟩
/- struct { B api.Book; E api.Errno } -/
def ty41 : TyI := ⟨.st [(0, 27), (2, 40)], 3, 56, [.sl 0 [], .sl 0 [], .v (.int .i64 0)]⟩
theorem ty41_ok : TyOK Tryz.prog 41 ty41 := TyOK.mk' (z := .agg #[.slice none 0 0, .slice none 0 0, .int .i64 0]) (by kernel_rfl) Tryz.underlying41 rfl rfl ⟨z_sl, z_sl, z_v _ rfl, trivial⟩
/- algoristlaw30.got -/
def ty42 : TyI := ⟨.st [(0, 27), (2, 40)], 3, 56, [.sl 0 [], .sl 0 [], .v (.int .i64 0)]⟩
theorem ty42_ok : TyOK Tryz.prog 42 ty42 := TyOK.mk' (z := .agg #[.slice none 0 0, .slice none 0 0, .int .i64 0]) (by kernel_rfl) Tryz.underlying42 rfl rfl ⟨z_sl, z_sl, z_v _ rfl, trivial⟩
/- struct { Claim string; From []string; Hyps []int } -/
def ty44 : TyI := ⟨.st [(0, 9), (1, 35), (2, 25)], 3, 64, [.v (.string ⟨#[]⟩), .sl 0 [], .sl 0 []]⟩
theorem ty44_ok : TyOK Tryz.prog 44 ty44 := TyOK.mk' (z := .agg #[.string ⟨#[]⟩, .slice none 0 0, .slice none 0 0]) (by kernel_rfl) Tryz.underlying44 rfl rfl ⟨z_v _ rfl, z_sl, z_sl, trivial⟩
/- api.Derivation -/
def ty45 : TyI := ⟨.st [(0, 9), (1, 35), (2, 25)], 3, 64, [.v (.string ⟨#[]⟩), .sl 0 [], .sl 0 []]⟩
theorem ty45_ok : TyOK Tryz.prog 45 ty45 := TyOK.mk' (z := .agg #[.string ⟨#[]⟩, .slice none 0 0, .slice none 0 0]) (by kernel_rfl) Tryz.underlying45 rfl rfl ⟨z_v _ rfl, z_sl, z_sl, trivial⟩
/- uint -/
def ty60 : TyI := ⟨.int .u64, 1, 8, [.v (.int .u64 0)]⟩
theorem ty60_ok : TyOK Tryz.prog 60 ty60 := TyOK.mk' (z := .int .u64 0) (by kernel_rfl) Tryz.underlying60 rfl rfl ⟨z_v _ rfl, trivial⟩
/- uint32 -/
def ty67 : TyI := ⟨.int .u32, 1, 4, [.v (.int .u32 0)]⟩
theorem ty67_ok : TyOK Tryz.prog 67 ty67 := TyOK.mk' (z := .int .u32 0) (by kernel_rfl) Tryz.underlying67 rfl rfl ⟨z_v _ rfl, trivial⟩
/- hypothesis.set -/
def ty68 : TyI := ⟨.int .u32, 1, 4, [.v (.int .u32 0)]⟩
theorem ty68_ok : TyOK Tryz.prog 68 ty68 := TyOK.mk' (z := .int .u32 0) (by kernel_rfl) Tryz.underlying68 rfl rfl ⟨z_v _ rfl, trivial⟩
/- struct { S []string; R []int } -/
def ty96 : TyI := ⟨.st [(0, 35), (1, 25)], 2, 48, [.sl 0 [], .sl 0 []]⟩
theorem ty96_ok : TyOK Tryz.prog 96 ty96 := TyOK.mk' (z := .agg #[.slice none 0 0, .slice none 0 0]) (by kernel_rfl) Tryz.underlying96 rfl rfl ⟨z_sl, z_sl, trivial⟩
/- algoristref30.follows -/
def ty97 : TyI := ⟨.st [(0, 35), (1, 25)], 2, 48, [.sl 0 [], .sl 0 []]⟩
theorem ty97_ok : TyOK Tryz.prog 97 ty97 := TyOK.mk' (z := .agg #[.slice none 0 0, .slice none 0 0]) (by kernel_rfl) Tryz.underlying97 rfl rfl ⟨z_sl, z_sl, trivial⟩
/- [32]uint8 -/
def ty121 : TyI := ⟨.ar 32 5, 32, 32, [.v (.int .u8 0), .v (.int .u8 0), .v (.int .u8 0), .v (.int .u8 0), .v (.int .u8 0), .v (.int .u8 0), .v (.int .u8 0), .v (.int .u8 0), .v (.int .u8 0), .v (.int .u8 0), .v (.int .u8 0), .v (.int .u8 0), .v (.int .u8 0), .v (.int .u8 0), .v (.int .u8 0), .v (.int .u8 0), .v (.int .u8 0), .v (.int .u8 0), .v (.int .u8 0), .v (.int .u8 0), .v (.int .u8 0), .v (.int .u8 0), .v (.int .u8 0), .v (.int .u8 0), .v (.int .u8 0), .v (.int .u8 0), .v (.int .u8 0), .v (.int .u8 0), .v (.int .u8 0), .v (.int .u8 0), .v (.int .u8 0), .v (.int .u8 0)]⟩
theorem ty121_ok : TyOK Tryz.prog 121 ty121 := TyOK.mk' (z := .agg #[.int .u8 0, .int .u8 0, .int .u8 0, .int .u8 0, .int .u8 0, .int .u8 0, .int .u8 0, .int .u8 0, .int .u8 0, .int .u8 0, .int .u8 0, .int .u8 0, .int .u8 0, .int .u8 0, .int .u8 0, .int .u8 0, .int .u8 0, .int .u8 0, .int .u8 0, .int .u8 0, .int .u8 0, .int .u8 0, .int .u8 0, .int .u8 0, .int .u8 0, .int .u8 0, .int .u8 0, .int .u8 0, .int .u8 0, .int .u8 0, .int .u8 0, .int .u8 0]) (by kernel_rfl) Tryz.underlying121 ⟨rfl, rfl⟩ rfl ⟨z_v _ rfl, z_v _ rfl, z_v _ rfl, z_v _ rfl, z_v _ rfl, z_v _ rfl, z_v _ rfl, z_v _ rfl, z_v _ rfl, z_v _ rfl, z_v _ rfl, z_v _ rfl, z_v _ rfl, z_v _ rfl, z_v _ rfl, z_v _ rfl, z_v _ rfl, z_v _ rfl, z_v _ rfl, z_v _ rfl, z_v _ rfl, z_v _ rfl, z_v _ rfl, z_v _ rfl, z_v _ rfl, z_v _ rfl, z_v _ rfl, z_v _ rfl, z_v _ rfl, z_v _ rfl, z_v _ rfl, z_v _ rfl, trivial⟩
/- slices.sortedHint -/
def ty123 : TyI := ⟨.int .i64, 1, 8, [.v (.int .i64 0)]⟩
theorem ty123_ok : TyOK Tryz.prog 123 ty123 := TyOK.mk' (z := .int .i64 0) (by kernel_rfl) Tryz.underlying123 rfl rfl ⟨z_v _ rfl, trivial⟩
/- uint64 -/
def ty130 : TyI := ⟨.int .u64, 1, 8, [.v (.int .u64 0)]⟩
theorem ty130_ok : TyOK Tryz.prog 130 ty130 := TyOK.mk' (z := .int .u64 0) (by kernel_rfl) Tryz.underlying130 rfl rfl ⟨z_v _ rfl, trivial⟩
/- []uint8 -/
def ty137 : TyI := ⟨.sl 5, 1, 24, [.sl 0 []]⟩
theorem ty137_ok : TyOK Tryz.prog 137 ty137 := TyOK.mk' (z := .slice none 0 0) (by kernel_rfl) Tryz.underlying137 rfl rfl ⟨z_sl, trivial⟩
/- slices.xorshift -/
def ty139 : TyI := ⟨.int .u64, 1, 8, [.v (.int .u64 0)]⟩
theorem ty139_ok : TyOK Tryz.prog 139 ty139 := TyOK.mk' (z := .int .u64 0) (by kernel_rfl) Tryz.underlying139 rfl rfl ⟨z_v _ rfl, trivial⟩
/- *int -/
def ty143 : TyI := ⟨.pt 3, 1, 8, [.v (.pointer none)]⟩
theorem ty143_ok : TyOK Tryz.prog 143 ty143 := TyOK.mk' (z := .pointer none) (by kernel_rfl) Tryz.underlying143 rfl rfl ⟨z_v _ rfl, trivial⟩
/- *slices.xorshift -/
def ty152 : TyI := ⟨.pt 139, 1, 8, [.v (.pointer none)]⟩
theorem ty152_ok : TyOK Tryz.prog 152 ty152 := TyOK.mk' (z := .pointer none) (by kernel_rfl) Tryz.underlying152 rfl rfl ⟨z_v _ rfl, trivial⟩
/- *uint8 -/
def ty169 : TyI := ⟨.pt 5, 1, 8, [.v (.pointer none)]⟩
theorem ty169_ok : TyOK Tryz.prog 169 ty169 := TyOK.mk' (z := .pointer none) (by kernel_rfl) Tryz.underlying169 rfl rfl ⟨z_v _ rfl, trivial⟩
/- map[string]api.Derivation -/
def ty62 : TyI := ⟨.mp 9 45, 1, 8, [.v (.map none)]⟩
theorem ty62_ok : TyOK Tryz.prog 62 ty62 := TyOK.mk' (z := .map none) (by kernel_rfl) Tryz.underlying62 ⟨rfl, rfl⟩ rfl ⟨z_v _ rfl, trivial⟩
/- map[string]map[hypothesis.set]bool -/
def ty66 : TyI := ⟨.mp 9 70, 1, 8, [.v (.map none)]⟩
theorem ty66_ok : TyOK Tryz.prog 66 ty66 := TyOK.mk' (z := .map none) (by kernel_rfl) Tryz.underlying66 ⟨rfl, rfl⟩ rfl ⟨z_v _ rfl, trivial⟩
/- map[hypothesis.set]bool -/
def ty70 : TyI := ⟨.mp 68 4, 1, 8, [.v (.map none)]⟩
theorem ty70_ok : TyOK Tryz.prog 70 ty70 := TyOK.mk' (z := .map none) (by kernel_rfl) Tryz.underlying70 ⟨rfl, rfl⟩ rfl ⟨z_v _ rfl, trivial⟩
/- map[string]bool -/
def ty78 : TyI := ⟨.mp 9 4, 1, 8, [.v (.map none)]⟩
theorem ty78_ok : TyOK Tryz.prog 78 ty78 := TyOK.mk' (z := .map none) (by kernel_rfl) Tryz.underlying78 ⟨rfl, rfl⟩ rfl ⟨z_v _ rfl, trivial⟩
/- func(string) -/
def ty79 : TyI := ⟨.ot, 1, 8, [.v (.nilFunc)]⟩
theorem ty79_ok : TyOK Tryz.prog 79 ty79 := TyOK.mk' (z := .nilFunc) (by kernel_rfl) Tryz.underlying79 trivial rfl ⟨z_v _ rfl, trivial⟩
def tt : TT := findT [(2, ty2), (3, ty3), (4, ty4), (5, ty5), (9, ty9), (12, ty12), (21, ty21), (22, ty22), (24, ty24), (25, ty25), (26, ty26), (27, ty27), (32, ty32), (35, ty35), (38, ty38), (39, ty39), (40, ty40), (41, ty41), (42, ty42), (44, ty44), (45, ty45), (60, ty60), (67, ty67), (68, ty68), (96, ty96), (97, ty97), (121, ty121), (123, ty123), (130, ty130), (137, ty137), (139, ty139), (143, ty143), (152, ty152), (169, ty169), (62, ty62), (66, ty66), (70, ty70), (78, ty78), (79, ty79)]
theorem hT : TTok Tryz.prog tt := AllT.ok ⟨ty2_ok, ty3_ok, ty4_ok, ty5_ok, ty9_ok, ty12_ok, ty21_ok, ty22_ok, ty24_ok, ty25_ok, ty26_ok, ty27_ok, ty32_ok, ty35_ok, ty38_ok, ty39_ok, ty40_ok, ty41_ok, ty42_ok, ty44_ok, ty45_ok, ty60_ok, ty67_ok, ty68_ok, ty96_ok, ty97_ok, ty121_ok, ty123_ok, ty130_ok, ty137_ok, ty139_ok, ty143_ok, ty152_ok, ty169_ok, ty62_ok, ty66_ok, ty70_ok, ty78_ok, ty79_ok, trivial⟩
theorem hP : Tryz.prog.follows .mixedOrders = true := by kernel_rfl
end Go.Proofs.YtmoaoiakmmbpoaaGreatDoor
end

section
/- chapter 30: maps of masks -/
namespace Go.Proofs.YtmoaoiakmmbpoaaGreatDoor
open Go Go.AM
/- (algorist/hypothesis.set).in -/
set_option maxHeartbeats 1000000 in
set_option maxRecDepth 100000 in
theorem p_in (s t : Nat) (hs : s < 4294967296) :
  Call0 Tryz.prog 69 [U s, U t] (B (decide (s &&& t = s))) := by
 refine callM_of (np := 0) Tryz.func69 (by kernel_rfl) rfl rfl (Nat.le_of_ble_eq_true rfl) (fun m h => absurd rfl h) (fun m h => absurd rfl h) rfl ?_
 refine AWp_sr hP ?_
 refine RK.As rfl ?_
 refine RK.D ?_
 refine AWp_sr hP ?_
 refine RK.M rfl ?_
 refine RK.M rfl ?_
 refine RK.V (op_andNotN rfl rfl) ?_
 refine RK.V (op_eql rfl rfl) ?_
 refine RK.As rfl ?_
 refine RK.D ?_
 refine AWp_ret ?_
 refine ends_one rfl (.inr rfl) (res_tmp rfl) ?_ O_ends
 exact Sub.bool (in_eq hs)
/- algorist/hypothesis.least$1 -/
set_option maxHeartbeats 1000000 in
set_option maxRecDepth 100000 in
theorem p_least1 (p : Nat → Prop) (s : Nat) :
  Call0 Tryz.prog 75 [U s, AV.p (pvM none TT1), .ip [FD p]] (B (worse p s)) := by
 refine callM_of (np := 0) Tryz.func75 (by kernel_rfl) rfl rfl (Nat.le_of_ble_eq_true rfl) (fun m h => absurd rfl h) (fun m h => absurd rfl h) rfl ?_
 refine AWp_sr hP ?_
 refine RK.As rfl ?_
 refine RK.D ?_
 refine AWp_seq ?_
 refine AWp_sr hP ?_
 refine RK.V (op_load_ip_one hT rfl rfl rfl (by first | rfl | exact wget (by omega))) ?_
 refine RK.alc guard_none (op_range (kv := kU) (M := FM (p)) hT rfl rfl rfl (.inr rfl) (ew_SE _)) ?_
 refine RK.D ?_
 refine AWp_block ?_
 refine AWp_loop (ι := List En × List Nat) (fun q => stL [(0, U s), (8, .it 8)] [(8, IB none q.1 (enE kU (SE q.2)))]) (fun q => CurOK q.1 ∧ LeI p s q.2) (fun q => q.2.length) ([], lsM p) ⟨cur0, .start p s⟩ (le_stL ⟨.refl _, .refl _, trivial⟩ ⟨rfl, trivial⟩) ?_
 rintro q ⟨hq, hI⟩
 refine AWp_seq ?_
 refine AWp_nextS (kv := kU) (S := q.2) rfl rfl hq.1 hq.2 rfl (fun hl => ?_) (fun t L hp => ?_)
 ·have hI0 : LeI p s [] := hl ▸ hI
  refine AWp_seq ?_
  refine AWp_cond_false rfl rfl ?_
  refine AWp_exit ?_
  refine AWp_sr hP ?_
  refine RK.As rfl ?_
  refine RK.D ?_
  refine AWp_ret ?_
  refine ends_one rfl (.inr rfl) (res_tmp rfl) ?_ O_ends
  exact Sub.bool (by rw [hI0.done])
 ·have htd := (hI.toLfI.hd hp).1
  refine AWp_seq ?_
  refine AWp_cond_true rfl rfl ?_
  refine AWp_skip ?_
  refine AWp_block ?_
  refine AWp_sr hP ?_
  refine RK.V (op_entry rfl rfl cur1w (ew_SE _) rfl) ?_
  refine RK.V (op_extract rfl (v := .c _) rfl) ?_
  refine RK.As rfl ?_
  refine RK.D ?_
  refine AWp_sr hP ?_
  refine RK.M rfl ?_
  refine RK.M rfl ?_
  refine RK.V (op_neq rfl rfl) ?_
  refine RK.M rfl ?_
  refine RK.split (t := 16) rfl (fun hg1 => ?_) (fun hg1 => ?_)
  ·have hg1_ := bneT hg1
   have hne : t ≠ s := fun e => bneT hg1 (by rw [e])
   refine RK.val (guard_yes rfl rfl hg1) (op_move (rfl : _ = AV.p (.c _))) ?_
   refine RK.val (guard_yes rfl rfl hg1) (op_move (rfl : _ = AV.p (.c _))) ?_
   refine RK.val (guard_yes rfl rfl hg1) (Eff.call0 (p_in _ _ (by omega))) ?_
   refine RK.V (op_pick_t rfl hg1 (rfl : _ = AV.p (.c _))) ?_
   refine RK.D ?_
   refine AWp_cond rfl (fun hb2 => ?_) (fun hb2 => ?_)
   ·have hin := of_decide_eq_true hb2
    refine AWp_sr hP ?_
    refine RK.As rfl ?_
    refine RK.D ?_
    refine AWp_ret ?_
    refine ends_one rfl (.inr rfl) (res_tmp rfl) ?_ O_ends
    exact Sub.bool (by rw [hI.yes hp hne hin])
   ·have hin := of_decide_eq_false hb2
    refine AWp_skip ?_
    refine ⟨([(kU t, TT1)], L), ⟨cur1, hI.next' hp fun z => hin z.2⟩, perm_len hp, le_stL ⟨.refl _, .refl _, trivial⟩ ⟨rfl, trivial⟩⟩
  ·have hg1_ := bneF hg1
   have heq : t = s := by have := bneF hg1; omega
   refine RK.skip (guard_no rfl rfl hg1) ?_
   refine RK.skip (guard_no rfl rfl hg1) ?_
   refine RK.skip (guard_no rfl rfl hg1) ?_
   refine RK.V (op_pick_f rfl hg1 (rfl : _ = AV.p (.c _))) ?_
   refine RK.D ?_
   refine AWp_cond_false rfl rfl ?_
   refine AWp_skip ?_
   refine ⟨([(kU t, TT1)], L), ⟨cur1, hI.next' hp fun z => z.1 heq⟩, perm_len hp, le_stL ⟨.refl _, .refl _, trivial⟩ ⟨rfl, trivial⟩⟩
/- maps.Clone[map[algorist/hypothesis.set]bool,algorist/hypothesis.set,bool] -/
set_option maxHeartbeats 1000000 in
set_option maxRecDepth 100000 in
theorem p_CloneF (p : Nat → Prop) :
  CallV Tryz.prog 73 [.p (.c (MP none (enE kU (FM p))))] (MB none (enE kU (FM p))) := by
 refine callV_of Tryz.func73 (by kernel_rfl) rfl rfl (Nat.le_of_ble_eq_true rfl) ?_
 refine AWp_sr hP ?_
 refine RK.As rfl ?_
 refine RK.D ?_
 refine AWp_seq ?_
 refine AWp_sr hP ?_
 refine RK.M rfl ?_
 refine RK.V (op_eql_mapnil hT rfl rfl rfl (ew_SE _) rfl) ?_
 refine RK.D ?_
 refine AWp_cond_false rfl rfl ?_
 refine AWp_skip ?_
 refine AWp_seq ?_
 refine AWp_clone hT Tryz.func101 (by kernel_rfl) (by kernel_rfl) (by kernel_rfl) (by kernel_rfl) rfl rfl rfl (ew_SE _) rfl rfl ?_
 refine AWp_ret ?_
 refine ⟨.inr rfl, _, _, rfl, rfl, ?_⟩
 exact rfl
/- maps.DeleteFunc[map[algorist/hypothesis.set]bool,algorist/hypothesis.set,bool] -/
theorem p_DeleteF (m : Nat) {gf : FuncId} {caps : List (List DV)} (p : Nat → Prop) (pd : Nat → Bool) (hc : ∀ s, s < 131072 → Call0 Tryz.prog gf ([U s, .p (pvM none TT1)] ++ caps.map .ip) (B (pd s))) :
  CallM Tryz.prog 74 [.vec m, .fn gf caps] (upd O m (some (FB' p))) (.t []) (upd O m (some (FB' fun n => p n ∧ pd n = false))) := by
 have e0 : FB' (fun n => p n ∧ pd n = false) = MB none (enE kU ((FM p).filter fun x => !pd x.1)) := congrArg (fun x => MB none (enE kU x)) (lsM_filter pd).symm
 rw [e0]
 have one : ∀ {b : Blk} {k : Nat}, upd O m (some b) k ≠ none → k = m := fun {b k} h => by
  by_cases e : k = m
  ·exact e
  ·rw [upd_ne _ _ _ _ e] at h; exact absurd rfl h
 refine callM_of (np := m + 1) Tryz.func74 (by kernel_rfl) rfl rfl (Nat.le_of_ble_eq_true rfl) (fun k h => by rw [one h]; exact Nat.lt_succ_self m) (fun k h => by rw [one h, upd_same]; simp) rfl ?_ (fun k b h => by have e := one (k := k) (by rw [h]; simp); subst e; rw [upd_same] at h; cases h; rfl)
 refine AWp_delLoop hT (κ := Nat) (kv := kU) (pd := pd) rfl rfl rfl rfl keyU (ew_SE _) (fun x hx => ?_) ?_
 ·obtain ⟨s, hs, rfl⟩ := List.mem_map.1 hx
  exact hc s (mem_lsM.1 hs).1
 ·exact ends_none rfl (.inl rfl) (.refl _) (fun k b h => h)
/- algorist/hypothesis.least -/
set_option maxHeartbeats 1000000 in
set_option maxRecDepth 100000 in
theorem p_least (p : Nat → Prop) :
  CallV Tryz.prog 43 [.p (.c (FD p))] (FB' (mn p)) := by
 refine callV_of Tryz.func43 (by kernel_rfl) rfl rfl (Nat.le_of_ble_eq_true rfl) ?_
 refine AWp_sr hP ?_
 refine RK.alc guard_none (op_box rfl rfl) ?_
 refine RK.As rfl ?_
 refine RK.D ?_
 refine AWp_freezeBox (t := 1) rfl rfl ?_
 refine AWp_sr hP ?_
 refine RK.V (op_load_ip_one hT rfl rfl rfl (by first | rfl | exact wget (by omega))) ?_
 refine RK.alc guard_none (Eff.callV (p_CloneF p)) ?_
 refine RK.V (op_assign (rfl : _ = AV.vec _)) ?_
 refine RK.D ?_
 refine AWp_sr hP ?_
 refine RK.V (op_move (rfl : _ = AV.vec _)) ?_
 refine RK.V (op_makeFunc rfl) ?_
 refine RK.mutL guard_none (Eff.call (rd := [5]) (p_DeleteF 5 p (worse p) fun s _ => p_least1 p s) (by intro k hk; rw [List.mem_singleton] at hk; subst hk; rfl) (by intro k hk; by_cases e : k = 5; exact (by rw [e]; exact List.mem_singleton.2 rfl); exact absurd (upd_ne _ _ _ _ e) hk) rfl) ?_
 refine RK.D ?_
 refine AWp_sr hP ?_
 refine RK.V (op_move (rfl : _ = AV.vec _)) ?_
 refine RK.V (op_assign (rfl : _ = AV.vec _)) ?_
 refine RK.D ?_
 refine AWp_ret ?_
 refine ⟨.inr rfl, _, _, rfl, rfl, ?_⟩
 exact rfl
/- maps.Copy[map[algorist/hypothesis.set]bool,map[algorist/hypothesis.set]bool,algorist/hypothesis.set,bool] -/
set_option maxHeartbeats 1000000 in
set_option maxRecDepth 100000 in
theorem p_CopyF0 (p q : Nat → Prop) (dv : DV) (hv : AsM none kU dv (FM q)) :
  CallM Tryz.prog 42 [.vec 0, .p (.c dv)] (upd O 0 (some (FB' p))) (.t []) (upd O 0 (some (FB' fun x => p x ∨ q x))) := by
 refine callM_of (np := 1) Tryz.func42 (by kernel_rfl) rfl rfl (Nat.le_of_ble_eq_true rfl) upd1_lt upd1_dom rfl ?_
 refine AWp_sr hP ?_
 refine RK.M rfl ?_
 refine RK.alc guard_none (op_range (kv := kU) (M := FM (q)) hT rfl rfl rfl hv (ew_SE _)) ?_
 refine RK.D ?_
 refine AWp_block ?_
 refine AWp_loop (ι := List En × List Nat) (fun z => stL [(0, .vec 0), (7, .it 7)] [(0, FB' (cpP p q z.2)), (7, IB none z.1 (enE kU (SE z.2)))]) (fun z => CurOK z.1 ∧ LfI q z.2) (fun z => z.2.length) ([], lsM q) ⟨cur0, .start q⟩ (le_stL ⟨.refl _, .refl _, trivial⟩ ⟨cp_own0 p q, rfl, trivial⟩) ?_
 rintro z ⟨hq, hI⟩
 refine AWp_seq ?_
 refine AWp_nextS (kv := kU) (S := z.2) rfl rfl hq.1 hq.2 rfl (fun hl => ?_) (fun t L hp => ?_)
 ·skip
  refine AWp_seq ?_
  refine AWp_cond_false rfl rfl ?_
  refine AWp_exit ?_
  refine ends_none rfl (.inl rfl)  ?_ (own_end1 (cp_ownE hl))
  exact .refl _
 ·skip
  refine AWp_seq ?_
  refine AWp_cond_true rfl rfl ?_
  refine AWp_skip ?_
  refine AWp_block ?_
  refine AWp_sr hP ?_
  refine RK.V (op_entry rfl rfl cur1w (ew_SE _) rfl) ?_
  refine RK.V (op_extract rfl (v := .c _) rfl) ?_
  refine RK.V (op_extract rfl (v := .c _) rfl) ?_
  refine RK.As rfl ?_
  refine RK.As rfl ?_
  refine RK.D ?_
  refine AWp_region hP ?_
  refine RK.V (op_move (rfl : _ = AV.vec _)) ?_
  refine RK.M rfl ?_
  refine RK.M rfl ?_
  refine RK.sto guard_none (op_mapUpdate (kv := kU) (k := t) hT rfl rfl rfl rfl keyU rfl rfl (ew_SE _) rfl rfl rfl (cpP_put hI hp)) ?_
  refine RK.D ?_
  refine ⟨([(kU t, TT1)], L), ⟨cur1, hI.next hp⟩, perm_len hp, le_stL ⟨.refl _, .refl _, trivial⟩ ⟨rfl, rfl, trivial⟩⟩
theorem p_CopyF (m : Nat) (p q : Nat → Prop) (dv : DV) (hv : AsM none kU dv (FM q)) : CallM Tryz.prog 42 [.vec m, .p (.c dv)] (upd O m (some (FB' p))) (.t []) (upd O m (some (FB' fun x => p x ∨ q x))) := CallM.ren1 m (p_CopyF0 p q dv hv) rfl rfl
/- maps.Equal[map[algorist/hypothesis.set]bool,map[algorist/hypothesis.set]bool,algorist/hypothesis.set,bool] -/
set_option maxHeartbeats 1000000 in
set_option maxRecDepth 100000 in
theorem p_EqualF (p q : Nat → Prop) (da db : DV) (ha : AsM none kU da (FM p)) (hb : AsM none kU db (FM q)) :
  Call0 Tryz.prog 44 [.p (.c da), .p (.c db)] (B (eqM p q)) := by
 refine callM_of (np := 0) Tryz.func44 (by kernel_rfl) rfl rfl (Nat.le_of_ble_eq_true rfl) (fun m h => absurd rfl h) (fun m h => absurd rfl h) rfl ?_
 refine AWp_sr hP ?_
 refine RK.As rfl ?_
 refine RK.D ?_
 refine AWp_seq ?_
 refine AWp_sr hP ?_
 refine RK.M rfl ?_
 refine RK.V (op_len_map (kv := kU) (M := FM p) hT rfl rfl rfl ha (ew_SE _) rfl) ?_
 refine RK.M rfl ?_
 refine RK.V (op_len_map (kv := kU) (M := FM q) hT rfl rfl rfl hb (ew_SE _) rfl) ?_
 refine RK.V (op_neq rfl rfl) ?_
 refine RK.D ?_
 refine AWp_cond rfl (fun hb1 => ?_) (fun hb1 => ?_)
 ·have hb1_ := bneT hb1
  have hne : ¬ (FM p).length = (FM q).length := fun e => bneT hb1 (by rw [e])
  refine AWp_sr hP ?_
  refine RK.As rfl ?_
  refine RK.D ?_
  refine AWp_ret ?_
  refine ends_one rfl (.inr rfl) (res_tmp rfl) ?_ O_ends
  exact Sub.bool (eqM_len hne).symm
 ·have hb1_ := bneF hb1
  have hle : (FM p).length = (FM q).length := by have := bneF hb1; omega
  refine AWp_skip ?_
  refine AWp_seq ?_
  refine AWp_sr hP ?_
  refine RK.M rfl ?_
  refine RK.alc guard_none (op_range (kv := kU) (M := FM (p)) hT rfl rfl rfl ha (ew_SE _)) ?_
  refine RK.D ?_
  refine AWp_block ?_
  refine AWp_loop (ι := List En × List Nat) (fun z => stL [(1, .p (.c db)), (15, .it 15)] [(15, IB none z.1 (enE kU (SE z.2)))]) (fun z => CurOK z.1 ∧ EqI p q z.2) (fun z => z.2.length) ([], lsM p) ⟨cur0, .start p q⟩ (le_stL ⟨.refl _, .refl _, trivial⟩ ⟨rfl, trivial⟩) ?_
  rintro z ⟨hq, hI⟩
  refine AWp_seq ?_
  refine AWp_nextS (kv := kU) (S := z.2) rfl rfl hq.1 hq.2 rfl (fun hl => ?_) (fun t L hp => ?_)
  ·have hI0 : EqI p q [] := hl ▸ hI
   refine AWp_seq ?_
   refine AWp_cond_false rfl rfl ?_
   refine AWp_exit ?_
   refine AWp_sr hP ?_
   refine RK.As rfl ?_
   refine RK.D ?_
   refine AWp_ret ?_
   refine ends_one rfl (.inr rfl) (res_tmp rfl) ?_ O_ends
   exact Sub.bool (hI0.done hle).symm
  ·have htd := (hI.toLfI.hd hp).1
   refine AWp_seq ?_
   refine AWp_cond_true rfl rfl ?_
   refine AWp_skip ?_
   refine AWp_block ?_
   refine AWp_sr hP ?_
   refine RK.V (op_entry rfl rfl cur1w (ew_SE _) rfl) ?_
   refine RK.V (op_extract rfl (v := .c _) rfl) ?_
   refine RK.V (op_extract rfl (v := .c _) rfl) ?_
   refine RK.As rfl ?_
   refine RK.As rfl ?_
   refine RK.D ?_
   refine AWp_sr hP ?_
   refine RK.M rfl ?_
   refine RK.M rfl ?_
   refine RK.V (op_look (a := none) (i := ty70) (j := ty68) (kv := kU) (M := FM q) (k := t) (zs := [.v (.bool false)]) (zv := .bool false) hT rfl rfl rfl rfl keyU (by kernel_rfl) rfl (fun _ => ⟨rfl, rfl⟩) rfl hb (ew_SE _) rfl (FM_look htd.1)) ?_
   refine RK.V (op_move (rfl : _ = AV.t _)) ?_
   refine RK.V (op_extract rfl (v := .c _) rfl) ?_
   refine RK.V (op_extract rfl (v := .c _) rfl) ?_
   refine RK.As rfl ?_
   refine RK.As rfl ?_
   refine RK.D ?_
   refine AWp_sr hP ?_
   refine RK.M rfl ?_
   refine RK.V (op_unot rfl) ?_
   refine RK.M rfl ?_
   refine RK.split (t := 29) rfl (fun hg2 => ?_) (fun hg2 => ?_)
   ·have hg2_ := (notT hg2)
    have hnq : ¬ q t := fun e => by rw [mbM_iff.2 e] at hg2; cases hg2
    refine RK.skip (guard_no rfl rfl hg2) ?_
    refine RK.skip (guard_no rfl rfl hg2) ?_
    refine RK.skip (guard_no rfl rfl hg2) ?_
    refine RK.V (op_pick_t rfl hg2 (rfl : _ = AV.p (.c _))) ?_
    refine RK.D ?_
    refine AWp_cond_true rfl rfl ?_
    refine AWp_sr hP ?_
    refine RK.As rfl ?_
    refine RK.D ?_
    refine AWp_ret ?_
    refine ends_one rfl (.inr rfl) (res_tmp rfl) ?_ O_ends
    exact Sub.bool (hI.no hp hnq).symm
   ·have hg2_ := (notF hg2)
    have hqt : mbM q t = true := by cases hm : mbM q t; rw [hm] at hg2; cases hg2; rfl
    refine RK.val (guard_yes rfl rfl hg2) (op_move (rfl : _ = AV.p (.c _))) ?_
    refine RK.val (guard_yes rfl rfl hg2) (op_move (rfl : _ = AV.p (.c _))) ?_
    refine RK.val (guard_yes rfl rfl hg2) (op_bne hT rfl rfl rfl rfl) ?_
    refine RK.V (op_pick_f rfl hg2 (rfl : _ = AV.p (.c _))) ?_
    refine RK.D ?_
    refine AWp_cond rfl (fun hb3 => ?_) (fun hb3 => ?_)
    ·rw [hqt] at hb3; cases hb3 --dead
    ·refine AWp_skip ?_
     refine ⟨([(kU t, TT1)], L), ⟨cur1, hI.next' hp (mbM_iff.1 hqt)⟩, perm_len hp, le_stL ⟨.refl _, .refl _, trivial⟩ ⟨rfl, trivial⟩⟩
/- algorist/hypothesis.join -/
set_option maxHeartbeats 2000000 in
set_option maxRecDepth 100000 in
theorem p_join (p q : Nat → Prop) (da db : DV) (ha : AsM none kU da (FM p)) (hb : AsM none kU db (FM q)) :
  CallV Tryz.prog 41 [.p (.c da), .p (.c db)] (FB' (mn (jn p q))) := by
 refine callV_of Tryz.func41 (by kernel_rfl) rfl rfl (Nat.le_of_ble_eq_true rfl) ?_
 refine AWp_sr hP ?_
 refine RK.As rfl ?_
 refine RK.D ?_
 refine AWp_sr hP ?_
 refine RK.alc guard_none (op_makeMap (a := none)) ?_
 refine RK.V (op_assign (rfl : _ = AV.vec _)) ?_
 refine RK.D ?_
 refine AWp_seq ?_
 refine AWp_sr hP ?_
 refine RK.M rfl ?_
 refine RK.alc guard_none (op_range (kv := kU) (M := FM (p)) hT rfl rfl rfl ha (ew_SE _)) ?_
 refine RK.D ?_
 refine AWp_block ?_
 refine AWp_loop (ι := List En × List Nat) (fun z => stL [(1, .p (.c db)), (5, .vec 8), (10, .it 10)] [(8, FB' (jo p q z.2)), (10, IB none z.1 (enE kU (SE z.2)))]) (fun z => CurOK z.1 ∧ LfI p z.2) (fun z => z.2.length) ([], lsM p) ⟨cur0, .start p⟩ (le_stL ⟨.refl _, .refl _, .refl _, trivial⟩ ⟨jo_own0 p q, rfl, trivial⟩) ?_
 rintro z ⟨hq, hI⟩
 refine AWp_seq ?_
 refine AWp_nextS (kv := kU) (S := z.2) rfl rfl hq.1 hq.2 rfl (fun hl => ?_) (fun s L hp => ?_)
 ·skip
  refine AWp_seq ?_
  refine AWp_cond_false rfl rfl ?_
  refine AWp_exit ?_
  refine AWp_freezeM (t := 5) rfl rfl (ew_SE _) ?_
  refine AWp_sr hP ?_
  refine RK.M rfl ?_
  refine RK.alc guard_none (Eff.callV (p_least _)) ?_
  refine RK.V (op_assign (rfl : _ = AV.vec _)) ?_
  refine RK.D ?_
  refine AWp_ret ?_
  refine ⟨.inr rfl, _, _, rfl, rfl, ?_⟩
  exact jo_ownE hl
 ·have hsd := (hI.hd hp).1
  refine AWp_seq ?_
  refine AWp_cond_true rfl rfl ?_
  refine AWp_skip ?_
  refine AWp_block ?_
  refine AWp_sr hP ?_
  refine RK.V (op_entry rfl rfl cur1w (ew_SE _) rfl) ?_
  refine RK.V (op_extract rfl (v := .c _) rfl) ?_
  refine RK.As rfl ?_
  refine RK.D ?_
  refine AWp_sr hP ?_
  refine RK.M rfl ?_
  refine RK.alc guard_none (op_range (kv := kU) (M := FM (q)) hT rfl rfl rfl hb (ew_SE _)) ?_
  refine RK.D ?_
  refine AWp_block ?_
  refine AWp_loop (ι := List En × List Nat) (fun y => stL [(1, .p (.c db)), (5, .vec 8), (6, U s), (10, .it 10), (16, .it 16)] [(8, FB' (ji p q L s y.2)), (10, IB none [(kU s, TT1)] (enE kU (SE L))), (16, IB none y.1 (enE kU (SE y.2)))]) (fun y => CurOK y.1 ∧ LfI q y.2) (fun y => y.2.length) ([], lsM q) ⟨cur0, .start q⟩ (le_stL ⟨.refl _, .refl _, .refl _, .refl _, .refl _, trivial⟩ ⟨ji_own0 hp, rfl, rfl, trivial⟩) ?_
  rintro y ⟨hr, hJ⟩
  refine AWp_seq ?_
  refine AWp_nextS (kv := kU) (S := y.2) rfl rfl hr.1 hr.2 rfl (fun hl => ?_) (fun t M hp2 => ?_)
  ·have hl2 := hl
   refine AWp_seq ?_
   refine AWp_cond_false rfl rfl ?_
   refine AWp_exit ?_
   refine ⟨([(kU s, TT1)], L), ⟨cur1, hI.next hp⟩, perm_len hp, le_stL ⟨.refl _, .refl _, .refl _, trivial⟩ ⟨ji_ownE hI hp hl2, rfl, trivial⟩⟩
  ·have htd := (hJ.hd hp2).1
   refine AWp_seq ?_
   refine AWp_cond_true rfl rfl ?_
   refine AWp_skip ?_
   refine AWp_block ?_
   refine AWp_sr hP ?_
   refine RK.V (op_entry rfl rfl cur1w (ew_SE _) rfl) ?_
   refine RK.V (op_extract rfl (v := .c _) rfl) ?_
   refine RK.As rfl ?_
   refine RK.D ?_
   refine AWp_region hP ?_
   refine RK.V (op_move (rfl : _ = AV.vec _)) ?_
   refine RK.M rfl ?_
   refine RK.M rfl ?_
   refine RK.V (op_orN rfl rfl rfl (by first | exact lt32 (by omega) | exact lt64 (by omega)) (by first | exact lt32 (by omega) | exact lt64 (by omega))) ?_
   refine RK.sto guard_none (op_mapUpdate (kv := kU) (k := s ||| t) hT rfl rfl rfl rfl keyU rfl rfl (ew_SE _) rfl rfl rfl (ji_put hsd.1 hJ hp2)) ?_
   refine RK.D ?_
   refine ⟨([(kU t, TT1)], M), ⟨cur1, hJ.next hp2⟩, perm_len hp2, le_stL ⟨.refl _, .refl _, .refl _, .refl _, .refl _, trivial⟩ ⟨rfl, rfl, rfl, trivial⟩⟩
end Go.Proofs.YtmoaoiakmmbpoaaGreatDoor
end

section
/- chapter 30: strings and lists -/
namespace Go.Proofs.YtmoaoiakmmbpoaaGreatDoor
open Go Go.AM
/- slices.IndexFunc[[]string,string] -/
set_option maxHeartbeats 1000000 in
set_option maxRecDepth 100000 in
theorem p_IdxS {gf : FuncId} {caps : List (List DV)} (pd : Str → Bool) (l : List Str) (hc : ∀ x ∈ l, Call0 Tryz.prog gf ([AS x] ++ caps.map .ip) (B (pd x))) :
  Call0 Tryz.prog 102 [.p (.c (SL enS l)), .fn gf caps] (Z (fiX pd l)) := by
 refine callM_of (np := 0) Tryz.func102 (by kernel_rfl) rfl rfl (Nat.le_of_ble_eq_true rfl) (fun m h => absurd rfl h) (fun m h => absurd rfl h) rfl ?_
 refine AWp_len (t := 0) rfl rfl (fun hlen => ?_)
 refine AWp_sr hP ?_
 refine RK.As rfl ?_
 refine RK.D ?_
 refine AWp_seq ?_
 refine AWp_sr hP ?_
 refine RK.M rfl ?_
 refine RK.V (op_len hT rfl rfl rfl (by rfl)) ?_
 refine RK.M rfl ?_
 refine RK.D ?_
 refine AWp_block ?_
 refine AWp_loop (ι := Nat) (fun k => stL [(0, .p (.c (SL enS l))), (1, .fn gf caps), (6, .p (.c (SL enS l))), (7, Z (l.length : Int)), (8, Z (k : Int))] []) (fun k => k ≤ l.length ∧ k ≤ l.findIdx pd) (fun k => l.length - k) 0 ⟨Nat.zero_le _, Nat.zero_le _⟩ (le_stL ⟨.refl _, .refl _, .refl _, .refl _, .refl _, trivial⟩ trivial) ?_
 rintro k ⟨hk, hI⟩
 refine AWp_sr hP ?_
 refine RK.V (op_lss rfl rfl) ?_
 refine RK.D ?_
 refine AWp_seq ?_
 refine AWp_cond rfl (fun hb1 => ?_) (fun hb1 => ?_)
 ·have hb1_ := of_decide_eq_true hb1
  refine AWp_skip ?_
  refine AWp_seq ?_
  refine AWp_block ?_
  refine AWp_sr hP ?_
  refine RK.M rfl ?_
  refine RK.As rfl ?_
  refine RK.D ?_
  refine AWp_sr hP ?_
  refine RK.V (op_move (rfl : _ = AV.fn _ _)) ?_
  refine RK.M rfl ?_
  refine RK.M rfl ?_
  refine RK.V (op_indexG hT enS_len (by decide) [] (n := (k : Int)) (l := l) rfl rfl rfl rfl rfl rfl (by omega)) ?_
  refine RK.V (op_load_ip_one hT rfl rfl rfl rfl) ?_
  refine RK.V (Eff.callFn rfl (hc _ (getD_mem' [] (by omega)))) ?_
  refine RK.D ?_
  refine AWp_cond rfl (fun hb2 => ?_) (fun hb2 => ?_)
  ·refine AWp_sr hP ?_
   refine RK.M rfl ?_
   refine RK.As rfl ?_
   refine RK.D ?_
   refine AWp_ret ?_
   refine ends_one rfl (.inr rfl) (res_tmp rfl) ?_ O_ends
   exact Sub.int (fiX_yes (d := []) hI (by omega) hb2).symm
  ·refine AWp_skip ?_
   refine AWp_region hP ?_
   refine RK.V (op_add rfl rfl (by first | exact IntWalk.i64_in _ (by omega) | rfl)) ?_
   refine RK.M rfl ?_
   refine RK.D ?_
   refine ⟨k + 1, ⟨by omega, fiX_no (d := []) hI (by omega) hb2⟩, by omega, le_stL ⟨.refl _, .refl _, .refl _, .refl _, Sub.int (by omega), trivial⟩ trivial⟩
 ·have hb1_ := of_decide_eq_false hb1
  refine AWp_exit ?_
  refine AWp_sr hP ?_
  refine RK.As rfl ?_
  refine RK.D ?_
  refine AWp_ret ?_
  refine ends_one rfl (.inr rfl) (res_tmp rfl) ?_ O_ends
  exact Sub.int (fiX_end hI (by omega)).symm
/- slices.ContainsFunc[[]string,string] -/
set_option maxHeartbeats 1000000 in
set_option maxRecDepth 100000 in
theorem p_HasS {gf : FuncId} {caps : List (List DV)} (pd : Str → Bool) (l : List Str) (hc : ∀ x ∈ l, Call0 Tryz.prog gf ([AS x] ++ caps.map .ip) (B (pd x))) :
  Call0 Tryz.prog 70 [.p (.c (SL enS l)), .fn gf caps] (B (l.any pd)) := by
 refine callM_of (np := 0) Tryz.func70 (by kernel_rfl) rfl rfl (Nat.le_of_ble_eq_true rfl) (fun m h => absurd rfl h) (fun m h => absurd rfl h) rfl ?_
 refine AWp_sr hP ?_
 refine RK.As rfl ?_
 refine RK.D ?_
 refine AWp_sr hP ?_
 refine RK.M rfl ?_
 refine RK.V (op_move (rfl : _ = AV.fn _ _)) ?_
 refine RK.V (Eff.call0 (p_IdxS pd l hc)) ?_
 refine RK.V (op_geq rfl rfl) ?_
 refine RK.As rfl ?_
 refine RK.D ?_
 refine AWp_ret ?_
 refine ends_one rfl (.inr rfl) (res_tmp rfl) ?_ O_ends
 exact Sub.bool (fiX_any pd l)
/- slices.IndexFunc[[]int,int] -/
set_option maxHeartbeats 1000000 in
set_option maxRecDepth 100000 in
theorem p_IdxZ {gf : FuncId} {caps : List (List DV)} (pd : Int → Bool) (l : List Int) (hc : ∀ x ∈ l, Call0 Tryz.prog gf ([.p (.c (.v (.int .i64 x)))] ++ caps.map .ip) (B (pd x))) :
  Call0 Tryz.prog 122 [.p (.c (SL enZ l)), .fn gf caps] (Z (fiX pd l)) := by
 refine callM_of (np := 0) Tryz.func122 (by kernel_rfl) rfl rfl (Nat.le_of_ble_eq_true rfl) (fun m h => absurd rfl h) (fun m h => absurd rfl h) rfl ?_
 refine AWp_len (t := 0) rfl rfl (fun hlen => ?_)
 refine AWp_sr hP ?_
 refine RK.As rfl ?_
 refine RK.D ?_
 refine AWp_seq ?_
 refine AWp_sr hP ?_
 refine RK.M rfl ?_
 refine RK.V (op_len hT rfl rfl rfl (by rfl)) ?_
 refine RK.M rfl ?_
 refine RK.D ?_
 refine AWp_block ?_
 refine AWp_loop (ι := Nat) (fun k => stL [(0, .p (.c (SL enZ l))), (1, .fn gf caps), (6, .p (.c (SL enZ l))), (7, Z (l.length : Int)), (8, Z (k : Int))] []) (fun k => k ≤ l.length ∧ k ≤ l.findIdx pd) (fun k => l.length - k) 0 ⟨Nat.zero_le _, Nat.zero_le _⟩ (le_stL ⟨.refl _, .refl _, .refl _, .refl _, .refl _, trivial⟩ trivial) ?_
 rintro k ⟨hk, hI⟩
 refine AWp_sr hP ?_
 refine RK.V (op_lss rfl rfl) ?_
 refine RK.D ?_
 refine AWp_seq ?_
 refine AWp_cond rfl (fun hb1 => ?_) (fun hb1 => ?_)
 ·have hb1_ := of_decide_eq_true hb1
  refine AWp_skip ?_
  refine AWp_seq ?_
  refine AWp_block ?_
  refine AWp_sr hP ?_
  refine RK.M rfl ?_
  refine RK.As rfl ?_
  refine RK.D ?_
  refine AWp_sr hP ?_
  refine RK.V (op_move (rfl : _ = AV.fn _ _)) ?_
  refine RK.M rfl ?_
  refine RK.M rfl ?_
  refine RK.V (op_indexG hT enZ_len (by decide) 0 (n := (k : Int)) (l := l) rfl rfl rfl rfl rfl rfl (by omega)) ?_
  refine RK.V (op_load_ip_one hT rfl rfl rfl rfl) ?_
  refine RK.V (Eff.callFn rfl (hc _ (getD_mem' 0 (by omega)))) ?_
  refine RK.D ?_
  refine AWp_cond rfl (fun hb2 => ?_) (fun hb2 => ?_)
  ·refine AWp_sr hP ?_
   refine RK.M rfl ?_
   refine RK.As rfl ?_
   refine RK.D ?_
   refine AWp_ret ?_
   refine ends_one rfl (.inr rfl) (res_tmp rfl) ?_ O_ends
   exact Sub.int (fiX_yes (d := 0) hI (by omega) hb2).symm
  ·refine AWp_skip ?_
   refine AWp_region hP ?_
   refine RK.V (op_add rfl rfl (by first | exact IntWalk.i64_in _ (by omega) | rfl)) ?_
   refine RK.M rfl ?_
   refine RK.D ?_
   refine ⟨k + 1, ⟨by omega, fiX_no (d := 0) hI (by omega) hb2⟩, by omega, le_stL ⟨.refl _, .refl _, .refl _, .refl _, Sub.int (by omega), trivial⟩ trivial⟩
 ·have hb1_ := of_decide_eq_false hb1
  refine AWp_exit ?_
  refine AWp_sr hP ?_
  refine RK.As rfl ?_
  refine RK.D ?_
  refine AWp_ret ?_
  refine ends_one rfl (.inr rfl) (res_tmp rfl) ?_ O_ends
  exact Sub.int (fiX_end hI (by omega)).symm
/- slices.ContainsFunc[[]int,int] -/
set_option maxHeartbeats 1000000 in
set_option maxRecDepth 100000 in
theorem p_HasZ {gf : FuncId} {caps : List (List DV)} (pd : Int → Bool) (l : List Int) (hc : ∀ x ∈ l, Call0 Tryz.prog gf ([.p (.c (.v (.int .i64 x)))] ++ caps.map .ip) (B (pd x))) :
  Call0 Tryz.prog 96 [.p (.c (SL enZ l)), .fn gf caps] (B (l.any pd)) := by
 refine callM_of (np := 0) Tryz.func96 (by kernel_rfl) rfl rfl (Nat.le_of_ble_eq_true rfl) (fun m h => absurd rfl h) (fun m h => absurd rfl h) rfl ?_
 refine AWp_sr hP ?_
 refine RK.As rfl ?_
 refine RK.D ?_
 refine AWp_sr hP ?_
 refine RK.M rfl ?_
 refine RK.V (op_move (rfl : _ = AV.fn _ _)) ?_
 refine RK.V (Eff.call0 (p_IdxZ pd l hc)) ?_
 refine RK.V (op_geq rfl rfl) ?_
 refine RK.As rfl ?_
 refine RK.D ?_
 refine AWp_ret ?_
 refine ends_one rfl (.inr rfl) (res_tmp rfl) ?_ O_ends
 exact Sub.bool (fiX_any pd l)
/- slices.IndexFunc[[]byte,byte] -/
set_option maxHeartbeats 1000000 in
set_option maxRecDepth 100000 in
theorem p_IdxB {gf : FuncId} {caps : List (List DV)} (pd : UInt8 → Bool) (l : List UInt8) (hc : ∀ x ∈ l, Call0 Tryz.prog gf ([.p (.c (.v (.int .u8 ((x).toNat : Int))))] ++ caps.map .ip) (B (pd x))) :
  Call0 Tryz.prog 138 [.p (.c (SL enB l)), .fn gf caps] (Z (fiX pd l)) := by
 refine callM_of (np := 0) Tryz.func138 (by kernel_rfl) rfl rfl (Nat.le_of_ble_eq_true rfl) (fun m h => absurd rfl h) (fun m h => absurd rfl h) rfl ?_
 refine AWp_len (t := 0) rfl rfl (fun hlen => ?_)
 refine AWp_sr hP ?_
 refine RK.As rfl ?_
 refine RK.D ?_
 refine AWp_seq ?_
 refine AWp_sr hP ?_
 refine RK.M rfl ?_
 refine RK.V (op_len hT rfl rfl rfl (by rfl)) ?_
 refine RK.M rfl ?_
 refine RK.D ?_
 refine AWp_block ?_
 refine AWp_loop (ι := Nat) (fun k => stL [(0, .p (.c (SL enB l))), (1, .fn gf caps), (6, .p (.c (SL enB l))), (7, Z (l.length : Int)), (8, Z (k : Int))] []) (fun k => k ≤ l.length ∧ k ≤ l.findIdx pd) (fun k => l.length - k) 0 ⟨Nat.zero_le _, Nat.zero_le _⟩ (le_stL ⟨.refl _, .refl _, .refl _, .refl _, .refl _, trivial⟩ trivial) ?_
 rintro k ⟨hk, hI⟩
 refine AWp_sr hP ?_
 refine RK.V (op_lss rfl rfl) ?_
 refine RK.D ?_
 refine AWp_seq ?_
 refine AWp_cond rfl (fun hb1 => ?_) (fun hb1 => ?_)
 ·have hb1_ := of_decide_eq_true hb1
  refine AWp_skip ?_
  refine AWp_seq ?_
  refine AWp_block ?_
  refine AWp_sr hP ?_
  refine RK.M rfl ?_
  refine RK.As rfl ?_
  refine RK.D ?_
  refine AWp_sr hP ?_
  refine RK.V (op_move (rfl : _ = AV.fn _ _)) ?_
  refine RK.M rfl ?_
  refine RK.M rfl ?_
  refine RK.V (op_indexG hT enB_len (by decide) 0 (n := (k : Int)) (l := l) rfl rfl rfl rfl rfl rfl (by omega)) ?_
  refine RK.V (op_load_ip_one hT rfl rfl rfl rfl) ?_
  refine RK.V (Eff.callFn rfl (hc _ (getD_mem' 0 (by omega)))) ?_
  refine RK.D ?_
  refine AWp_cond rfl (fun hb2 => ?_) (fun hb2 => ?_)
  ·refine AWp_sr hP ?_
   refine RK.M rfl ?_
   refine RK.As rfl ?_
   refine RK.D ?_
   refine AWp_ret ?_
   refine ends_one rfl (.inr rfl) (res_tmp rfl) ?_ O_ends
   exact Sub.int (fiX_yes (d := 0) hI (by omega) hb2).symm
  ·refine AWp_skip ?_
   refine AWp_region hP ?_
   refine RK.V (op_add rfl rfl (by first | exact IntWalk.i64_in _ (by omega) | rfl)) ?_
   refine RK.M rfl ?_
   refine RK.D ?_
   refine ⟨k + 1, ⟨by omega, fiX_no (d := 0) hI (by omega) hb2⟩, by omega, le_stL ⟨.refl _, .refl _, .refl _, .refl _, Sub.int (by omega), trivial⟩ trivial⟩
 ·have hb1_ := of_decide_eq_false hb1
  refine AWp_exit ?_
  refine AWp_sr hP ?_
  refine RK.As rfl ?_
  refine RK.D ?_
  refine AWp_ret ?_
  refine ends_one rfl (.inr rfl) (res_tmp rfl) ?_ O_ends
  exact Sub.int (fiX_end hI (by omega)).symm
/- slices.ContainsFunc[[]byte,byte] -/
set_option maxHeartbeats 1000000 in
set_option maxRecDepth 100000 in
theorem p_HasB {gf : FuncId} {caps : List (List DV)} (pd : UInt8 → Bool) (l : List UInt8) (hc : ∀ x ∈ l, Call0 Tryz.prog gf ([.p (.c (.v (.int .u8 ((x).toNat : Int))))] ++ caps.map .ip) (B (pd x))) :
  Call0 Tryz.prog 120 [.p (.c (SL enB l)), .fn gf caps] (B (l.any pd)) := by
 refine callM_of (np := 0) Tryz.func120 (by kernel_rfl) rfl rfl (Nat.le_of_ble_eq_true rfl) (fun m h => absurd rfl h) (fun m h => absurd rfl h) rfl ?_
 refine AWp_sr hP ?_
 refine RK.As rfl ?_
 refine RK.D ?_
 refine AWp_sr hP ?_
 refine RK.M rfl ?_
 refine RK.V (op_move (rfl : _ = AV.fn _ _)) ?_
 refine RK.V (Eff.call0 (p_IdxB pd l hc)) ?_
 refine RK.V (op_geq rfl rfl) ?_
 refine RK.As rfl ?_
 refine RK.D ?_
 refine AWp_ret ?_
 refine ends_one rfl (.inr rfl) (res_tmp rfl) ?_ O_ends
 exact Sub.bool (fiX_any pd l)
/- algorist/hypothesis.strictly[string] -/
set_option maxHeartbeats 1000000 in
set_option maxRecDepth 100000 in
theorem p_strS (l : List Str) :
  Call0 Tryz.prog 90 [.p (.c (SL enS l))] (B (incr ltS l)) := by
 refine callM_of (np := 0) Tryz.func90 (by kernel_rfl) rfl rfl (Nat.le_of_ble_eq_true rfl) (fun m h => absurd rfl h) (fun m h => absurd rfl h) rfl ?_
 refine AWp_len (t := 0) rfl rfl (fun hlen => ?_)
 refine AWp_sr hP ?_
 refine RK.As rfl ?_
 refine RK.D ?_
 refine AWp_seq ?_
 refine AWp_sr hP ?_
 refine RK.As rfl ?_
 refine RK.D ?_
 refine AWp_block ?_
 refine AWp_loop (ι := Nat) (fun k => stL [(0, .p (.c (SL enS l))), (3, Z (k : Int))] []) (fun k => 1 ≤ k ∧ ∀ i, 1 ≤ i → i < k → i < l.length → ltS (l.getD (i - 1) []) (l.getD i []) = true) (fun k => l.length + 1 - k) 1 ⟨Nat.le_refl _, fun i h1 h2 => by omega⟩ (le_stL ⟨.refl _, .refl _, trivial⟩ trivial) ?_
 rintro k ⟨hk, hI⟩
 refine AWp_seq ?_
 refine AWp_sr hP ?_
 refine RK.M rfl ?_
 refine RK.M rfl ?_
 refine RK.V (op_len hT rfl rfl rfl (by rfl)) ?_
 refine RK.V (op_lss rfl rfl) ?_
 refine RK.D ?_
 refine AWp_cond rfl (fun hb1 => ?_) (fun hb1 => ?_)
 ·have hb1_ := of_decide_eq_true hb1
  refine AWp_skip ?_
  refine AWp_seq ?_
  refine AWp_block ?_
  refine AWp_sr hP ?_
  refine RK.M rfl ?_
  refine RK.M rfl ?_
  refine RK.V (op_sub rfl rfl (by first | exact IntWalk.i64_in _ (by omega) | rfl)) ?_
  refine RK.V (op_indexG hT enS_len (by decide) [] (n := ((k : Int) - 1)) (l := l) rfl rfl rfl rfl rfl rfl (by omega)) ?_
  refine RK.V (op_load_ip_one hT rfl rfl rfl rfl) ?_
  refine RK.M rfl ?_
  refine RK.M rfl ?_
  refine RK.V (op_indexG hT enS_len (by decide) [] (n := (k : Int)) (l := l) rfl rfl rfl rfl rfl rfl (by omega)) ?_
  refine RK.V (op_load_ip_one hT rfl rfl rfl rfl) ?_
  refine RK.V (op_sgeq rfl rfl) ?_
  refine RK.D ?_
  refine AWp_cond rfl (fun hb2 => ?_) (fun hb2 => ?_)
  ·have hsub : ((k : Int) - 1).toNat = k - 1 := by omega
   have hno : ltS (l.getD (k - 1) []) (l.getD k []) = false := by have := hb2; rw [hsub] at this; simpa using this
   refine AWp_sr hP ?_
   refine RK.As rfl ?_
   refine RK.D ?_
   refine AWp_ret ?_
   refine ends_one rfl (.inr rfl) (res_tmp rfl) ?_ O_ends
   exact Sub.bool (incr_no (d := []) hk (by omega) hno).symm
  ·have hsub : ((k : Int) - 1).toNat = k - 1 := by omega
   have hyes : ltS (l.getD (k - 1) []) (l.getD k []) = true := by have := hb2; rw [hsub] at this; simpa using this
   refine AWp_skip ?_
   refine AWp_region hP ?_
   refine RK.M rfl ?_
   refine RK.V (op_add rfl rfl (by first | exact IntWalk.i64_in _ (by omega) | rfl)) ?_
   refine RK.As rfl ?_
   refine RK.D ?_
   refine ⟨k + 1, ⟨by omega, fun i h1 h2 h3 => by
     by_cases e : i = k
     ·subst e; exact hyes
     ·exact hI i h1 (by omega) h3⟩, by omega, le_stL ⟨.refl _, Sub.int (by omega), trivial⟩ trivial⟩
 ·have hb1_ := of_decide_eq_false hb1
  refine AWp_exit ?_
  refine AWp_sr hP ?_
  refine RK.As rfl ?_
  refine RK.D ?_
  refine AWp_ret ?_
  refine ends_one rfl (.inr rfl) (res_tmp rfl) ?_ O_ends
  exact Sub.bool (incr_yes (d := []) fun i h1 h2 => hI i h1 (by omega) h2).symm
/- algorist/hypothesis.strictly[int] -/
set_option maxHeartbeats 1000000 in
set_option maxRecDepth 100000 in
theorem p_strZ (l : List Int) :
  Call0 Tryz.prog 95 [.p (.c (SL enZ l))] (B (incr ltZ l)) := by
 refine callM_of (np := 0) Tryz.func95 (by kernel_rfl) rfl rfl (Nat.le_of_ble_eq_true rfl) (fun m h => absurd rfl h) (fun m h => absurd rfl h) rfl ?_
 refine AWp_len (t := 0) rfl rfl (fun hlen => ?_)
 refine AWp_sr hP ?_
 refine RK.As rfl ?_
 refine RK.D ?_
 refine AWp_seq ?_
 refine AWp_sr hP ?_
 refine RK.As rfl ?_
 refine RK.D ?_
 refine AWp_block ?_
 refine AWp_loop (ι := Nat) (fun k => stL [(0, .p (.c (SL enZ l))), (3, Z (k : Int))] []) (fun k => 1 ≤ k ∧ ∀ i, 1 ≤ i → i < k → i < l.length → ltZ (l.getD (i - 1) 0) (l.getD i 0) = true) (fun k => l.length + 1 - k) 1 ⟨Nat.le_refl _, fun i h1 h2 => by omega⟩ (le_stL ⟨.refl _, .refl _, trivial⟩ trivial) ?_
 rintro k ⟨hk, hI⟩
 refine AWp_seq ?_
 refine AWp_sr hP ?_
 refine RK.M rfl ?_
 refine RK.M rfl ?_
 refine RK.V (op_len hT rfl rfl rfl (by rfl)) ?_
 refine RK.V (op_lss rfl rfl) ?_
 refine RK.D ?_
 refine AWp_cond rfl (fun hb1 => ?_) (fun hb1 => ?_)
 ·have hb1_ := of_decide_eq_true hb1
  refine AWp_skip ?_
  refine AWp_seq ?_
  refine AWp_block ?_
  refine AWp_sr hP ?_
  refine RK.M rfl ?_
  refine RK.M rfl ?_
  refine RK.V (op_sub rfl rfl (by first | exact IntWalk.i64_in _ (by omega) | rfl)) ?_
  refine RK.V (op_indexG hT enZ_len (by decide) 0 (n := ((k : Int) - 1)) (l := l) rfl rfl rfl rfl rfl rfl (by omega)) ?_
  refine RK.V (op_load_ip_one hT rfl rfl rfl rfl) ?_
  refine RK.M rfl ?_
  refine RK.M rfl ?_
  refine RK.V (op_indexG hT enZ_len (by decide) 0 (n := (k : Int)) (l := l) rfl rfl rfl rfl rfl rfl (by omega)) ?_
  refine RK.V (op_load_ip_one hT rfl rfl rfl rfl) ?_
  refine RK.V (op_geq rfl rfl) ?_
  refine RK.D ?_
  refine AWp_cond rfl (fun hb2 => ?_) (fun hb2 => ?_)
  ·have hb2_ := of_decide_eq_true hb2
   have hsub : ((k : Int) - 1).toNat = k - 1 := by omega
   have hno : ltZ (l.getD (k - 1) 0) (l.getD k 0) = false := by have h9 : l.getD k 0 ≤ l.getD ((k : Int) - 1).toNat 0 := of_decide_eq_true hb2; rw [hsub] at h9; exact decide_eq_false (by omega)
   refine AWp_sr hP ?_
   refine RK.As rfl ?_
   refine RK.D ?_
   refine AWp_ret ?_
   refine ends_one rfl (.inr rfl) (res_tmp rfl) ?_ O_ends
   exact Sub.bool (incr_no (d := 0) hk (by omega) hno).symm
  ·have hb2_ := of_decide_eq_false hb2
   have hsub : ((k : Int) - 1).toNat = k - 1 := by omega
   have hyes : ltZ (l.getD (k - 1) 0) (l.getD k 0) = true := by have h9 : ¬ l.getD k 0 ≤ l.getD ((k : Int) - 1).toNat 0 := of_decide_eq_false hb2; rw [hsub] at h9; exact decide_eq_true (by omega)
   refine AWp_skip ?_
   refine AWp_region hP ?_
   refine RK.M rfl ?_
   refine RK.V (op_add rfl rfl (by first | exact IntWalk.i64_in _ (by omega) | rfl)) ?_
   refine RK.As rfl ?_
   refine RK.D ?_
   refine ⟨k + 1, ⟨by omega, fun i h1 h2 h3 => by
     by_cases e : i = k
     ·subst e; exact hyes
     ·exact hI i h1 (by omega) h3⟩, by omega, le_stL ⟨.refl _, Sub.int (by omega), trivial⟩ trivial⟩
 ·have hb1_ := of_decide_eq_false hb1
  refine AWp_exit ?_
  refine AWp_sr hP ?_
  refine RK.As rfl ?_
  refine RK.D ?_
  refine AWp_ret ?_
  refine ends_one rfl (.inr rfl) (res_tmp rfl) ?_ O_ends
  exact Sub.bool (incr_yes (d := 0) fun i h1 h2 => hI i h1 (by omega) h2).symm
/- cmp.isNaN[string] -/
set_option maxHeartbeats 1000000 in
set_option maxRecDepth 100000 in
theorem p_nanS (a : Str) :
  Call0 Tryz.prog 121 [AS a] (B false) := by
 refine callM_of (np := 0) Tryz.func121 (by kernel_rfl) rfl rfl (Nat.le_of_ble_eq_true rfl) (fun m h => absurd rfl h) (fun m h => absurd rfl h) rfl ?_
 refine AWp_sr hP ?_
 refine RK.As rfl ?_
 refine RK.D ?_
 refine AWp_sr hP ?_
 refine RK.M rfl ?_
 refine RK.M rfl ?_
 refine RK.V (op_sneq rfl rfl) ?_
 refine RK.As rfl ?_
 refine RK.D ?_
 refine AWp_ret ?_
 refine ends_one rfl (.inr rfl) (res_tmp rfl) ?_ O_ends
 exact Sub.bool (by simp)
/- cmp.Compare[string] -/
set_option maxHeartbeats 1000000 in
set_option maxRecDepth 100000 in
theorem p_cmpS (a b : Str) :
  Call0 Tryz.prog 93 [AS a, AS b] (Z (cmS a b)) := by
 refine callM_of (np := 0) Tryz.func93 (by kernel_rfl) rfl rfl (Nat.le_of_ble_eq_true rfl) (fun m h => absurd rfl h) (fun m h => absurd rfl h) rfl ?_
 refine AWp_sr hP ?_
 refine RK.As rfl ?_
 refine RK.D ?_
 refine AWp_sr hP ?_
 refine RK.M rfl ?_
 refine RK.V (Eff.call0 (p_nanS _)) ?_
 refine RK.As rfl ?_
 refine RK.D ?_
 refine AWp_sr hP ?_
 refine RK.M rfl ?_
 refine RK.V (Eff.call0 (p_nanS _)) ?_
 refine RK.As rfl ?_
 refine RK.D ?_
 refine AWp_seq ?_
 refine AWp_sr hP ?_
 refine RK.M rfl ?_
 refine RK.D ?_
 refine AWp_cond_false rfl rfl ?_
 refine AWp_skip ?_
 refine AWp_seq ?_
 refine AWp_sr hP ?_
 refine RK.M rfl ?_
 refine RK.D ?_
 refine AWp_cond_false rfl rfl ?_
 refine AWp_skip ?_
 refine AWp_seq ?_
 refine AWp_sr hP ?_
 refine RK.M rfl ?_
 refine RK.M rfl ?_
 refine RK.V (op_slss rfl rfl) ?_
 refine RK.D ?_
 refine AWp_cond rfl (fun hb1 => ?_) (fun hb1 => ?_)
 ·refine AWp_sr hP ?_
  refine RK.As rfl ?_
  refine RK.D ?_
  refine AWp_ret ?_
  refine ends_one rfl (.inr rfl) (res_tmp rfl) ?_ O_ends
  exact Sub.int (cmS_l hb1).symm
 ·refine AWp_skip ?_
  refine AWp_seq ?_
  refine AWp_sr hP ?_
  refine RK.M rfl ?_
  refine RK.M rfl ?_
  refine RK.V (op_sgtr rfl rfl) ?_
  refine RK.D ?_
  refine AWp_cond rfl (fun hb2 => ?_) (fun hb2 => ?_)
  ·refine AWp_sr hP ?_
   refine RK.As rfl ?_
   refine RK.D ?_
   refine AWp_ret ?_
   refine ends_one rfl (.inr rfl) (res_tmp rfl) ?_ O_ends
   exact Sub.int (cmS_g hb1 hb2).symm
  ·refine AWp_skip ?_
   refine AWp_sr hP ?_
   refine RK.As rfl ?_
   refine RK.D ?_
   refine AWp_ret ?_
   refine ends_one rfl (.inr rfl) (res_tmp rfl) ?_ O_ends
   exact Sub.int (cmS_e hb1 hb2).symm
/- slices.Compare[[]string,string] -/
set_option maxHeartbeats 1000000 in
set_option maxRecDepth 100000 in
theorem p_comS (a b : List Str) :
  Call0 Tryz.prog 94 [.p (.c (SL enS a)), .p (.c (SL enS b))] (Z (cmL cmS a b)) := by
 refine callM_of (np := 0) Tryz.func94 (by kernel_rfl) rfl rfl (Nat.le_of_ble_eq_true rfl) (fun m h => absurd rfl h) (fun m h => absurd rfl h) rfl ?_
 refine AWp_len (t := 0) rfl rfl (fun hla => ?_)
 refine AWp_len (t := 1) rfl rfl (fun hlb => ?_)
 refine AWp_sr hP ?_
 refine RK.As rfl ?_
 refine RK.D ?_
 refine AWp_seq ?_
 refine AWp_sr hP ?_
 refine RK.M rfl ?_
 refine RK.V (op_len hT rfl rfl rfl (by rfl)) ?_
 refine RK.M rfl ?_
 refine RK.D ?_
 refine AWp_block ?_
 refine AWp_loop (ι := Nat) (fun k => stL [(0, .p (.c (SL enS a))), (1, .p (.c (SL enS b))), (9, .p (.c (SL enS a))), (10, Z (a.length : Int)), (11, Z (k : Int))] []) (fun k => k ≤ a.length ∧ ∀ i, i < k → i < a.length ∧ i < b.length ∧ cmS (a.getD i []) (b.getD i []) = 0) (fun k => a.length - k) 0 ⟨Nat.zero_le _, fun i h => by omega⟩ (le_stL ⟨.refl _, .refl _, .refl _, .refl _, .refl _, trivial⟩ trivial) ?_
 rintro k ⟨hk, hI⟩
 refine AWp_sr hP ?_
 refine RK.V (op_lss rfl rfl) ?_
 refine RK.D ?_
 refine AWp_seq ?_
 refine AWp_cond rfl (fun hb1 => ?_) (fun hb1 => ?_)
 ·have hb1_ := of_decide_eq_true hb1
  refine AWp_skip ?_
  refine AWp_seq ?_
  refine AWp_block ?_
  refine AWp_sr hP ?_
  refine RK.M rfl ?_
  refine RK.V (op_indexG hT enS_len (by decide) [] (n := (k : Int)) (l := a) rfl rfl rfl rfl rfl rfl (by omega)) ?_
  refine RK.V (op_load_ip_one hT rfl rfl rfl rfl) ?_
  refine RK.As rfl ?_
  refine RK.As rfl ?_
  refine RK.D ?_
  refine AWp_seq ?_
  refine AWp_sr hP ?_
  refine RK.M rfl ?_
  refine RK.M rfl ?_
  refine RK.V (op_len hT rfl rfl rfl (by rfl)) ?_
  refine RK.V (op_geq rfl rfl) ?_
  refine RK.D ?_
  refine AWp_cond rfl (fun hb2 => ?_) (fun hb2 => ?_)
  ·have hb2_ := of_decide_eq_true hb2
   refine AWp_sr hP ?_
   refine RK.As rfl ?_
   refine RK.D ?_
   refine AWp_ret ?_
   refine ends_one rfl (.inr rfl) (res_tmp rfl) ?_ O_ends
   exact Sub.int (cmL_more hI (by omega) (by omega)).symm
  ·have hb2_ := of_decide_eq_false hb2
   refine AWp_skip ?_
   refine AWp_sr hP ?_
   refine RK.M rfl ?_
   refine RK.M rfl ?_
   refine RK.V (op_indexG hT enS_len (by decide) [] (n := (k : Int)) (l := b) rfl rfl rfl rfl rfl rfl (by omega)) ?_
   refine RK.V (op_load_ip_one hT rfl rfl rfl rfl) ?_
   refine RK.As rfl ?_
   refine RK.D ?_
   refine AWp_sr hP ?_
   refine RK.M rfl ?_
   refine RK.M rfl ?_
   refine RK.V (Eff.call0 (p_cmpS _ _)) ?_
   refine RK.As rfl ?_
   refine RK.D ?_
   refine AWp_sr hP ?_
   refine RK.M rfl ?_
   refine RK.V (op_neq rfl rfl) ?_
   refine RK.D ?_
   refine AWp_cond rfl (fun hb3 => ?_) (fun hb3 => ?_)
   ·have hb3_ := bneT hb3
    have hne : cmS (a.getD k []) (b.getD k []) ≠ 0 := fun e => bneT hb3 e
    refine AWp_sr hP ?_
    refine RK.M rfl ?_
    refine RK.As rfl ?_
    refine RK.D ?_
    refine AWp_ret ?_
    refine ends_one rfl (.inr rfl) (res_tmp rfl) ?_ O_ends
    exact Sub.int (cmL_at hI (by omega) (by omega) hne).symm
   ·have hb3_ := bneF hb3
    have heq : cmS (a.getD k []) (b.getD k []) = 0 := bneF hb3
    refine AWp_skip ?_
    refine AWp_region hP ?_
    refine RK.V (op_add rfl rfl (by first | exact IntWalk.i64_in _ (by omega) | rfl)) ?_
    refine RK.M rfl ?_
    refine RK.D ?_
    refine ⟨k + 1, ⟨by omega, fun i h1 => by
      by_cases e : i = k
      ·subst e; exact ⟨by omega, by omega, heq⟩
      ·exact hI i (by omega)⟩, by omega, le_stL ⟨.refl _, .refl _, .refl _, .refl _, Sub.int (by omega), trivial⟩ trivial⟩
 ·have hb1_ := of_decide_eq_false hb1
  refine AWp_exit ?_
  refine AWp_seq ?_
  refine AWp_sr hP ?_
  refine RK.M rfl ?_
  refine RK.V (op_len hT rfl rfl rfl (by rfl)) ?_
  refine RK.M rfl ?_
  refine RK.V (op_len hT rfl rfl rfl (by rfl)) ?_
  refine RK.V (op_lss rfl rfl) ?_
  refine RK.D ?_
  refine AWp_cond rfl (fun hb4 => ?_) (fun hb4 => ?_)
  ·have hb4_ := of_decide_eq_true hb4
   refine AWp_sr hP ?_
   refine RK.As rfl ?_
   refine RK.D ?_
   refine AWp_ret ?_
   refine ends_one rfl (.inr rfl) (res_tmp rfl) ?_ O_ends
   exact Sub.int (cmL_less hI (by omega) (by omega)).symm
  ·have hb4_ := of_decide_eq_false hb4
   refine AWp_skip ?_
   refine AWp_sr hP ?_
   refine RK.As rfl ?_
   refine RK.D ?_
   refine AWp_ret ?_
   refine ends_one rfl (.inr rfl) (res_tmp rfl) ?_ O_ends
   exact Sub.int (cmL_same hI (by omega) (by omega)).symm
/- cmp.isNaN[int] -/
set_option maxHeartbeats 1000000 in
set_option maxRecDepth 100000 in
theorem p_nanZ (a : Int) :
  Call0 Tryz.prog 113 [.p (.c (.v (.int .i64 a)))] (B false) := by
 refine callM_of (np := 0) Tryz.func113 (by kernel_rfl) rfl rfl (Nat.le_of_ble_eq_true rfl) (fun m h => absurd rfl h) (fun m h => absurd rfl h) rfl ?_
 refine AWp_sr hP ?_
 refine RK.As rfl ?_
 refine RK.D ?_
 refine AWp_sr hP ?_
 refine RK.M rfl ?_
 refine RK.M rfl ?_
 refine RK.V (op_neq rfl rfl) ?_
 refine RK.As rfl ?_
 refine RK.D ?_
 refine AWp_ret ?_
 refine ends_one rfl (.inr rfl) (res_tmp rfl) ?_ O_ends
 exact Sub.bool (by simp)
/- cmp.Compare[int] -/
set_option maxHeartbeats 1000000 in
set_option maxRecDepth 100000 in
theorem p_cmpZ (a b : Int) :
  Call0 Tryz.prog 79 [.p (.c (.v (.int .i64 a))), .p (.c (.v (.int .i64 b)))] (Z (cmZ a b)) := by
 refine callM_of (np := 0) Tryz.func79 (by kernel_rfl) rfl rfl (Nat.le_of_ble_eq_true rfl) (fun m h => absurd rfl h) (fun m h => absurd rfl h) rfl ?_
 refine AWp_sr hP ?_
 refine RK.As rfl ?_
 refine RK.D ?_
 refine AWp_sr hP ?_
 refine RK.M rfl ?_
 refine RK.V (Eff.call0 (p_nanZ _)) ?_
 refine RK.As rfl ?_
 refine RK.D ?_
 refine AWp_sr hP ?_
 refine RK.M rfl ?_
 refine RK.V (Eff.call0 (p_nanZ _)) ?_
 refine RK.As rfl ?_
 refine RK.D ?_
 refine AWp_seq ?_
 refine AWp_sr hP ?_
 refine RK.M rfl ?_
 refine RK.D ?_
 refine AWp_cond_false rfl rfl ?_
 refine AWp_skip ?_
 refine AWp_seq ?_
 refine AWp_sr hP ?_
 refine RK.M rfl ?_
 refine RK.D ?_
 refine AWp_cond_false rfl rfl ?_
 refine AWp_skip ?_
 refine AWp_seq ?_
 refine AWp_sr hP ?_
 refine RK.M rfl ?_
 refine RK.M rfl ?_
 refine RK.V (op_lss rfl rfl) ?_
 refine RK.D ?_
 refine AWp_cond rfl (fun hb1 => ?_) (fun hb1 => ?_)
 ·have hb1_ := of_decide_eq_true hb1
  refine AWp_sr hP ?_
  refine RK.As rfl ?_
  refine RK.D ?_
  refine AWp_ret ?_
  refine ends_one rfl (.inr rfl) (res_tmp rfl) ?_ O_ends
  exact Sub.int (cmZ_l hb1).symm
 ·have hb1_ := of_decide_eq_false hb1
  refine AWp_skip ?_
  refine AWp_seq ?_
  refine AWp_sr hP ?_
  refine RK.M rfl ?_
  refine RK.M rfl ?_
  refine RK.V (op_gtr rfl rfl) ?_
  refine RK.D ?_
  refine AWp_cond rfl (fun hb2 => ?_) (fun hb2 => ?_)
  ·have hb2_ := of_decide_eq_true hb2
   refine AWp_sr hP ?_
   refine RK.As rfl ?_
   refine RK.D ?_
   refine AWp_ret ?_
   refine ends_one rfl (.inr rfl) (res_tmp rfl) ?_ O_ends
   exact Sub.int (cmZ_g hb1 hb2).symm
  ·have hb2_ := of_decide_eq_false hb2
   refine AWp_skip ?_
   refine AWp_sr hP ?_
   refine RK.As rfl ?_
   refine RK.D ?_
   refine AWp_ret ?_
   refine ends_one rfl (.inr rfl) (res_tmp rfl) ?_ O_ends
   exact Sub.int (cmZ_e hb1 hb2).symm
/- slices.Compare[[]int,int] -/
set_option maxHeartbeats 1000000 in
set_option maxRecDepth 100000 in
theorem p_comZ (a b : List Int) :
  Call0 Tryz.prog 47 [.p (.c (SL enZ a)), .p (.c (SL enZ b))] (Z (cmL cmZ a b)) := by
 refine callM_of (np := 0) Tryz.func47 (by kernel_rfl) rfl rfl (Nat.le_of_ble_eq_true rfl) (fun m h => absurd rfl h) (fun m h => absurd rfl h) rfl ?_
 refine AWp_len (t := 0) rfl rfl (fun hla => ?_)
 refine AWp_len (t := 1) rfl rfl (fun hlb => ?_)
 refine AWp_sr hP ?_
 refine RK.As rfl ?_
 refine RK.D ?_
 refine AWp_seq ?_
 refine AWp_sr hP ?_
 refine RK.M rfl ?_
 refine RK.V (op_len hT rfl rfl rfl (by rfl)) ?_
 refine RK.M rfl ?_
 refine RK.D ?_
 refine AWp_block ?_
 refine AWp_loop (ι := Nat) (fun k => stL [(0, .p (.c (SL enZ a))), (1, .p (.c (SL enZ b))), (9, .p (.c (SL enZ a))), (10, Z (a.length : Int)), (11, Z (k : Int))] []) (fun k => k ≤ a.length ∧ ∀ i, i < k → i < a.length ∧ i < b.length ∧ cmZ (a.getD i 0) (b.getD i 0) = 0) (fun k => a.length - k) 0 ⟨Nat.zero_le _, fun i h => by omega⟩ (le_stL ⟨.refl _, .refl _, .refl _, .refl _, .refl _, trivial⟩ trivial) ?_
 rintro k ⟨hk, hI⟩
 refine AWp_sr hP ?_
 refine RK.V (op_lss rfl rfl) ?_
 refine RK.D ?_
 refine AWp_seq ?_
 refine AWp_cond rfl (fun hb1 => ?_) (fun hb1 => ?_)
 ·have hb1_ := of_decide_eq_true hb1
  refine AWp_skip ?_
  refine AWp_seq ?_
  refine AWp_block ?_
  refine AWp_sr hP ?_
  refine RK.M rfl ?_
  refine RK.V (op_indexG hT enZ_len (by decide) 0 (n := (k : Int)) (l := a) rfl rfl rfl rfl rfl rfl (by omega)) ?_
  refine RK.V (op_load_ip_one hT rfl rfl rfl rfl) ?_
  refine RK.As rfl ?_
  refine RK.As rfl ?_
  refine RK.D ?_
  refine AWp_seq ?_
  refine AWp_sr hP ?_
  refine RK.M rfl ?_
  refine RK.M rfl ?_
  refine RK.V (op_len hT rfl rfl rfl (by rfl)) ?_
  refine RK.V (op_geq rfl rfl) ?_
  refine RK.D ?_
  refine AWp_cond rfl (fun hb2 => ?_) (fun hb2 => ?_)
  ·have hb2_ := of_decide_eq_true hb2
   refine AWp_sr hP ?_
   refine RK.As rfl ?_
   refine RK.D ?_
   refine AWp_ret ?_
   refine ends_one rfl (.inr rfl) (res_tmp rfl) ?_ O_ends
   exact Sub.int (cmL_more hI (by omega) (by omega)).symm
  ·have hb2_ := of_decide_eq_false hb2
   refine AWp_skip ?_
   refine AWp_sr hP ?_
   refine RK.M rfl ?_
   refine RK.M rfl ?_
   refine RK.V (op_indexG hT enZ_len (by decide) 0 (n := (k : Int)) (l := b) rfl rfl rfl rfl rfl rfl (by omega)) ?_
   refine RK.V (op_load_ip_one hT rfl rfl rfl rfl) ?_
   refine RK.As rfl ?_
   refine RK.D ?_
   refine AWp_sr hP ?_
   refine RK.M rfl ?_
   refine RK.M rfl ?_
   refine RK.V (Eff.call0 (p_cmpZ _ _)) ?_
   refine RK.As rfl ?_
   refine RK.D ?_
   refine AWp_sr hP ?_
   refine RK.M rfl ?_
   refine RK.V (op_neq rfl rfl) ?_
   refine RK.D ?_
   refine AWp_cond rfl (fun hb3 => ?_) (fun hb3 => ?_)
   ·have hb3_ := bneT hb3
    have hne : cmZ (a.getD k 0) (b.getD k 0) ≠ 0 := fun e => bneT hb3 e
    refine AWp_sr hP ?_
    refine RK.M rfl ?_
    refine RK.As rfl ?_
    refine RK.D ?_
    refine AWp_ret ?_
    refine ends_one rfl (.inr rfl) (res_tmp rfl) ?_ O_ends
    exact Sub.int (cmL_at hI (by omega) (by omega) hne).symm
   ·have hb3_ := bneF hb3
    have heq : cmZ (a.getD k 0) (b.getD k 0) = 0 := bneF hb3
    refine AWp_skip ?_
    refine AWp_region hP ?_
    refine RK.V (op_add rfl rfl (by first | exact IntWalk.i64_in _ (by omega) | rfl)) ?_
    refine RK.M rfl ?_
    refine RK.D ?_
    refine ⟨k + 1, ⟨by omega, fun i h1 => by
      by_cases e : i = k
      ·subst e; exact ⟨by omega, by omega, heq⟩
      ·exact hI i (by omega)⟩, by omega, le_stL ⟨.refl _, .refl _, .refl _, .refl _, Sub.int (by omega), trivial⟩ trivial⟩
 ·have hb1_ := of_decide_eq_false hb1
  refine AWp_exit ?_
  refine AWp_seq ?_
  refine AWp_sr hP ?_
  refine RK.M rfl ?_
  refine RK.V (op_len hT rfl rfl rfl (by rfl)) ?_
  refine RK.M rfl ?_
  refine RK.V (op_len hT rfl rfl rfl (by rfl)) ?_
  refine RK.V (op_lss rfl rfl) ?_
  refine RK.D ?_
  refine AWp_cond rfl (fun hb4 => ?_) (fun hb4 => ?_)
  ·have hb4_ := of_decide_eq_true hb4
   refine AWp_sr hP ?_
   refine RK.As rfl ?_
   refine RK.D ?_
   refine AWp_ret ?_
   refine ends_one rfl (.inr rfl) (res_tmp rfl) ?_ O_ends
   exact Sub.int (cmL_less hI (by omega) (by omega)).symm
  ·have hb4_ := of_decide_eq_false hb4
   refine AWp_skip ?_
   refine AWp_sr hP ?_
   refine RK.As rfl ?_
   refine RK.D ?_
   refine AWp_ret ?_
   refine ends_one rfl (.inr rfl) (res_tmp rfl) ?_ O_ends
   exact Sub.int (cmL_same hI (by omega) (by omega)).symm
/- cmp.Or[int] -/
set_option maxHeartbeats 1000000 in
set_option maxRecDepth 100000 in
theorem p_or (l : List Int) :
  Call0 Tryz.prog 92 [.p (.c (SL enZ l))] (Z (orZ l)) := by
 refine callM_of (np := 0) Tryz.func92 (by kernel_rfl) rfl rfl (Nat.le_of_ble_eq_true rfl) (fun m h => absurd rfl h) (fun m h => absurd rfl h) rfl ?_
 refine AWp_len (t := 0) rfl rfl (fun hlen => ?_)
 refine AWp_sr hP ?_
 refine RK.As rfl ?_
 refine RK.D ?_
 refine AWp_sr hP ?_
 refine RK.As rfl ?_
 refine RK.D ?_
 refine AWp_seq ?_
 refine AWp_sr hP ?_
 refine RK.M rfl ?_
 refine RK.V (op_len hT rfl rfl rfl (by rfl)) ?_
 refine RK.M rfl ?_
 refine RK.D ?_
 refine AWp_block ?_
 refine AWp_loop (ι := Nat) (fun k => stL [(3, Z 0), (6, .p (.c (SL enZ l))), (7, Z (l.length : Int)), (8, Z (k : Int))] []) (fun k => k ≤ l.length ∧ ∀ i, i < k → i < l.length → l.getD i 0 = 0) (fun k => l.length - k) 0 ⟨Nat.zero_le _, fun i h => by omega⟩ (le_stL ⟨.refl _, .refl _, .refl _, .refl _, trivial⟩ trivial) ?_
 rintro k ⟨hk, hI⟩
 refine AWp_sr hP ?_
 refine RK.V (op_lss rfl rfl) ?_
 refine RK.D ?_
 refine AWp_seq ?_
 refine AWp_cond rfl (fun hb1 => ?_) (fun hb1 => ?_)
 ·have hb1_ := of_decide_eq_true hb1
  refine AWp_skip ?_
  refine AWp_seq ?_
  refine AWp_block ?_
  refine AWp_sr hP ?_
  refine RK.V (op_indexG hT enZ_len (by decide) 0 (n := (k : Int)) (l := l) rfl rfl rfl rfl rfl rfl (by omega)) ?_
  refine RK.V (op_load_ip_one hT rfl rfl rfl rfl) ?_
  refine RK.As rfl ?_
  refine RK.D ?_
  refine AWp_sr hP ?_
  refine RK.M rfl ?_
  refine RK.M rfl ?_
  refine RK.V (op_neq rfl rfl) ?_
  refine RK.D ?_
  refine AWp_cond rfl (fun hb2 => ?_) (fun hb2 => ?_)
  ·have hb2_ := bneT hb2
   have hne : l.getD k 0 ≠ 0 := fun e => bneT hb2 e
   refine AWp_sr hP ?_
   refine RK.M rfl ?_
   refine RK.As rfl ?_
   refine RK.D ?_
   refine AWp_ret ?_
   refine ends_one rfl (.inr rfl) (res_tmp rfl) ?_ O_ends
   exact Sub.int (orZ_at hI (by omega) hne).symm
  ·have hb2_ := bneF hb2
   have heq : l.getD k 0 = 0 := bneF hb2
   refine AWp_skip ?_
   refine AWp_region hP ?_
   refine RK.V (op_add rfl rfl (by first | exact IntWalk.i64_in _ (by omega) | rfl)) ?_
   refine RK.M rfl ?_
   refine RK.D ?_
   refine ⟨k + 1, ⟨by omega, fun i h1 h2 => by
     by_cases e : i = k
     ·subst e; exact heq
     ·exact hI i (by omega) h2⟩, by omega, le_stL ⟨.refl _, .refl _, .refl _, Sub.int (by omega), trivial⟩ trivial⟩
 ·have hb1_ := of_decide_eq_false hb1
  refine AWp_exit ?_
  refine AWp_sr hP ?_
  refine RK.M rfl ?_
  refine RK.As rfl ?_
  refine RK.D ?_
  refine AWp_ret ?_
  refine ends_one rfl (.inr rfl) (res_tmp rfl) ?_ O_ends
  exact Sub.int (orZ_end hI (by omega)).symm
/- algorist/hypothesis.hyp -/
set_option maxHeartbeats 1000000 in
set_option maxRecDepth 100000 in
theorem p_hyp (n : Int) :
  Call0 Tryz.prog 88 [Z n] (B (hypB n)) := by
 refine callM_of (np := 0) Tryz.func88 (by kernel_rfl) rfl rfl (Nat.le_of_ble_eq_true rfl) (fun m h => absurd rfl h) (fun m h => absurd rfl h) rfl ?_
 refine AWp_sr hP ?_
 refine RK.As rfl ?_
 refine RK.D ?_
 refine AWp_sr hP ?_
 refine RK.M rfl ?_
 refine RK.V (op_leq rfl rfl) ?_
 refine RK.M rfl ?_
 refine RK.split (t := 5) rfl (fun hg1 => ?_) (fun hg1 => ?_)
 ·have hg1_ := of_decide_eq_true hg1
  refine RK.val (guard_yes rfl rfl hg1) (op_move (rfl : _ = AV.p (.c _))) ?_
  refine RK.val (guard_yes rfl rfl hg1) (op_leq rfl rfl) ?_
  refine RK.V (op_pick_t rfl hg1 (rfl : _ = AV.p (.c _))) ?_
  refine RK.As rfl ?_
  refine RK.D ?_
  refine AWp_ret ?_
  refine ends_one rfl (.inr rfl) (res_tmp rfl) ?_ O_ends
  exact Sub.bool (hyp_a (of_decide_eq_true hg1))
 ·have hg1_ := of_decide_eq_false hg1
  refine RK.skip (guard_no rfl rfl hg1) ?_
  refine RK.skip (guard_no rfl rfl hg1) ?_
  refine RK.V (op_pick_f rfl hg1 (rfl : _ = AV.p (.c _))) ?_
  refine RK.As rfl ?_
  refine RK.D ?_
  refine AWp_ret ?_
  refine ends_one rfl (.inr rfl) (res_tmp rfl) ?_ O_ends
  exact Sub.bool (hyp_b (of_decide_eq_false hg1))
/- algorist/hypothesis.hyps$1 -/
set_option maxHeartbeats 1000000 in
set_option maxRecDepth 100000 in
theorem p_hyps1 (n : Int) :
  Call0 Tryz.prog 97 [Z n] (B (!hypB n)) := by
 refine callM_of (np := 0) Tryz.func97 (by kernel_rfl) rfl rfl (Nat.le_of_ble_eq_true rfl) (fun m h => absurd rfl h) (fun m h => absurd rfl h) rfl ?_
 refine AWp_sr hP ?_
 refine RK.As rfl ?_
 refine RK.D ?_
 refine AWp_sr hP ?_
 refine RK.M rfl ?_
 refine RK.V (Eff.call0 (p_hyp _)) ?_
 refine RK.V (op_unot rfl) ?_
 refine RK.As rfl ?_
 refine RK.D ?_
 refine AWp_ret ?_
 refine ends_one rfl (.inr rfl) (res_tmp rfl) ?_ O_ends
 exact .refl _
/- algorist/hypothesis.isClaim$1 -/
set_option maxHeartbeats 1000000 in
set_option maxRecDepth 100000 in
theorem p_isClaim1 (n : Int) :
  Call0 Tryz.prog 119 [.p (.c (.v (.int .u8 n)))] (B (!decide (okP n))) := by
 refine callM_of (np := 0) Tryz.func119 (by kernel_rfl) rfl rfl (Nat.le_of_ble_eq_true rfl) (fun m h => absurd rfl h) (fun m h => absurd rfl h) rfl ?_
 refine AWp_sr hP ?_
 refine RK.As rfl ?_
 refine RK.D ?_
 refine AWp_sr hP ?_
 refine RK.M rfl ?_
 refine RK.V (op_leq rfl rfl) ?_
 refine RK.M rfl ?_
 refine RK.split (t := 5) rfl (fun hg1 => ?_) (fun hg1 => ?_)
 ·have hg1_ := of_decide_eq_true hg1
  refine RK.val (guard_yes rfl rfl hg1) (op_move (rfl : _ = AV.p (.c _))) ?_
  refine RK.val (guard_yes rfl rfl hg1) (op_leq rfl rfl) ?_
  refine RK.V (op_pick_t rfl hg1 (rfl : _ = AV.p (.c _))) ?_
  refine RK.M rfl ?_
  refine RK.split (t := 9) rfl (fun hg2 => ?_) (fun hg2 => ?_)
  ·have hg2_ := of_decide_eq_true hg2
   refine RK.skip (guard_no rfl rfl hg2) ?_
   refine RK.skip (guard_no rfl rfl hg2) ?_
   refine RK.skip (guard_no rfl rfl hg2) ?_
   refine RK.skip (guard_sk rfl rfl) ?_
   refine RK.skip (guard_sk rfl rfl) ?_
   refine RK.skip (guard_no rfl rfl hg2) ?_
   refine RK.V (op_pick_t rfl hg2 (rfl : _ = AV.p (.c _))) ?_
   refine RK.M rfl ?_
   refine RK.skip (guard_no rfl rfl rfl) ?_
   refine RK.skip (guard_no rfl rfl rfl) ?_
   refine RK.skip (guard_no rfl rfl rfl) ?_
   refine RK.skip (guard_sk rfl rfl) ?_
   refine RK.skip (guard_sk rfl rfl) ?_
   refine RK.skip (guard_no rfl rfl rfl) ?_
   refine RK.V (op_pick_t rfl rfl (rfl : _ = AV.p (.c _))) ?_
   refine RK.M rfl ?_
   refine RK.skip (guard_no rfl rfl rfl) ?_
   refine RK.skip (guard_no rfl rfl rfl) ?_
   refine RK.V (op_pick_t rfl rfl (rfl : _ = AV.p (.c _))) ?_
   refine RK.M rfl ?_
   refine RK.skip (guard_no rfl rfl rfl) ?_
   refine RK.skip (guard_no rfl rfl rfl) ?_
   refine RK.V (op_pick_t rfl rfl (rfl : _ = AV.p (.c _))) ?_
   refine RK.V (op_unot rfl) ?_
   refine RK.As rfl ?_
   refine RK.D ?_
   refine AWp_ret ?_
   refine ends_one rfl (.inr rfl) (res_tmp rfl) ?_ O_ends
   first | exact Sub.bool (oc_t (by unfold okP; omega)) | exact Sub.bool (oc_f (by omega))
  ·have hg2_ := of_decide_eq_false hg2
   refine RK.val (guard_yes rfl rfl hg2) (op_move (rfl : _ = AV.p (.c _))) ?_
   refine RK.val (guard_yes rfl rfl hg2) (op_leq rfl rfl) ?_
   refine RK.val (guard_yes rfl rfl hg2) (op_move (rfl : _ = AV.p (.c _))) ?_
   refine RK.split (t := 12) rfl (fun hg3 => ?_) (fun hg3 => ?_)
   ·have hg3_ := of_decide_eq_true hg3
    refine RK.val (guard_yes rfl rfl hg3) (op_move (rfl : _ = AV.p (.c _))) ?_
    refine RK.val (guard_yes rfl rfl hg3) (op_leq rfl rfl) ?_
    refine RK.val (guard_yes rfl rfl hg2) (op_pick_t rfl hg3 (rfl : _ = AV.p (.c _))) ?_
    refine RK.V (op_pick_f rfl hg2 (rfl : _ = AV.p (.c _))) ?_
    refine RK.M rfl ?_
    refine RK.split (t := 17) rfl (fun hg4 => ?_) (fun hg4 => ?_)
    ·have hg4_ := of_decide_eq_true hg4
     refine RK.skip (guard_no rfl rfl hg4) ?_
     refine RK.skip (guard_no rfl rfl hg4) ?_
     refine RK.skip (guard_no rfl rfl hg4) ?_
     refine RK.skip (guard_sk rfl rfl) ?_
     refine RK.skip (guard_sk rfl rfl) ?_
     refine RK.skip (guard_no rfl rfl hg4) ?_
     refine RK.V (op_pick_t rfl hg4 (rfl : _ = AV.p (.c _))) ?_
     refine RK.M rfl ?_
     refine RK.skip (guard_no rfl rfl rfl) ?_
     refine RK.skip (guard_no rfl rfl rfl) ?_
     refine RK.V (op_pick_t rfl rfl (rfl : _ = AV.p (.c _))) ?_
     refine RK.M rfl ?_
     refine RK.skip (guard_no rfl rfl rfl) ?_
     refine RK.skip (guard_no rfl rfl rfl) ?_
     refine RK.V (op_pick_t rfl rfl (rfl : _ = AV.p (.c _))) ?_
     refine RK.V (op_unot rfl) ?_
     refine RK.As rfl ?_
     refine RK.D ?_
     refine AWp_ret ?_
     refine ends_one rfl (.inr rfl) (res_tmp rfl) ?_ O_ends
     first | exact Sub.bool (oc_t (by unfold okP; omega)) | exact Sub.bool (oc_f (by omega))
    ·have hg4_ := of_decide_eq_false hg4
     refine RK.val (guard_yes rfl rfl hg4) (op_move (rfl : _ = AV.p (.c _))) ?_
     refine RK.val (guard_yes rfl rfl hg4) (op_leq rfl rfl) ?_
     refine RK.val (guard_yes rfl rfl hg4) (op_move (rfl : _ = AV.p (.c _))) ?_
     refine RK.split (t := 20) rfl (fun hg5 => ?_) (fun hg5 => ?_)
     ·have hg5_ := of_decide_eq_true hg5
      refine RK.val (guard_yes rfl rfl hg5) (op_move (rfl : _ = AV.p (.c _))) ?_
      refine RK.val (guard_yes rfl rfl hg5) (op_leq rfl rfl) ?_
      refine RK.val (guard_yes rfl rfl hg4) (op_pick_t rfl hg5 (rfl : _ = AV.p (.c _))) ?_
      refine RK.V (op_pick_f rfl hg4 (rfl : _ = AV.p (.c _))) ?_
      refine RK.M rfl ?_
      refine RK.split (t := 25) rfl (fun hg6 => ?_) (fun hg6 => ?_)
      ·have hg6_ := of_decide_eq_true hg6
       refine RK.skip (guard_no rfl rfl hg6) ?_
       refine RK.skip (guard_no rfl rfl hg6) ?_
       refine RK.V (op_pick_t rfl hg6 (rfl : _ = AV.p (.c _))) ?_
       refine RK.M rfl ?_
       refine RK.skip (guard_no rfl rfl rfl) ?_
       refine RK.skip (guard_no rfl rfl rfl) ?_
       refine RK.V (op_pick_t rfl rfl (rfl : _ = AV.p (.c _))) ?_
       refine RK.V (op_unot rfl) ?_
       refine RK.As rfl ?_
       refine RK.D ?_
       refine AWp_ret ?_
       refine ends_one rfl (.inr rfl) (res_tmp rfl) ?_ O_ends
       first | exact Sub.bool (oc_t (by unfold okP; omega)) | exact Sub.bool (oc_f (by omega))
      ·have hg6_ := of_decide_eq_false hg6
       refine RK.val (guard_yes rfl rfl hg6) (op_move (rfl : _ = AV.p (.c _))) ?_
       refine RK.val (guard_yes rfl rfl hg6) (op_eql rfl rfl) ?_
       refine RK.V (op_pick_f rfl hg6 (rfl : _ = AV.p (.c _))) ?_
       refine RK.M rfl ?_
       refine RK.split (t := 29) rfl (fun hg7 => ?_) (fun hg7 => ?_)
       ·have hg7_ := bT hg7
        refine RK.skip (guard_no rfl rfl hg7) ?_
        refine RK.skip (guard_no rfl rfl hg7) ?_
        refine RK.V (op_pick_t rfl hg7 (rfl : _ = AV.p (.c _))) ?_
        refine RK.V (op_unot rfl) ?_
        refine RK.As rfl ?_
        refine RK.D ?_
        refine AWp_ret ?_
        refine ends_one rfl (.inr rfl) (res_tmp rfl) ?_ O_ends
        first | exact Sub.bool (oc_t (by unfold okP; omega)) | exact Sub.bool (oc_f (by omega))
       ·have hg7_ := bF hg7
        refine RK.val (guard_yes rfl rfl hg7) (op_move (rfl : _ = AV.p (.c _))) ?_
        refine RK.val (guard_yes rfl rfl hg7) (op_eql rfl rfl) ?_
        refine RK.V (op_pick_f rfl hg7 (rfl : _ = AV.p (.c _))) ?_
        refine RK.V (op_unot rfl) ?_
        refine RK.As rfl ?_
        refine RK.D ?_
        refine AWp_ret ?_
        refine ends_one rfl (.inr rfl) (res_tmp rfl) ?_ O_ends
        first | exact Sub.bool (oc_t (by unfold okP; omega)) | exact Sub.bool (oc_f (by omega))
     ·have hg5_ := of_decide_eq_false hg5
      refine RK.skip (guard_no rfl rfl hg5) ?_
      refine RK.skip (guard_no rfl rfl hg5) ?_
      refine RK.val (guard_yes rfl rfl hg4) (op_pick_f rfl hg5 (rfl : _ = AV.p (.c _))) ?_
      refine RK.V (op_pick_f rfl hg4 (rfl : _ = AV.p (.c _))) ?_
      refine RK.M rfl ?_
      refine RK.val (guard_yes rfl rfl rfl) (op_move (rfl : _ = AV.p (.c _))) ?_
      refine RK.val (guard_yes rfl rfl rfl) (op_eql rfl rfl) ?_
      refine RK.V (op_pick_f rfl rfl (rfl : _ = AV.p (.c _))) ?_
      refine RK.M rfl ?_
      refine RK.split (t := 29) rfl (fun hg8 => ?_) (fun hg8 => ?_)
      ·have hg8_ := bT hg8
       refine RK.skip (guard_no rfl rfl hg8) ?_
       refine RK.skip (guard_no rfl rfl hg8) ?_
       refine RK.V (op_pick_t rfl hg8 (rfl : _ = AV.p (.c _))) ?_
       refine RK.V (op_unot rfl) ?_
       refine RK.As rfl ?_
       refine RK.D ?_
       refine AWp_ret ?_
       refine ends_one rfl (.inr rfl) (res_tmp rfl) ?_ O_ends
       first | exact Sub.bool (oc_t (by unfold okP; omega)) | exact Sub.bool (oc_f (by omega))
      ·have hg8_ := bF hg8
       refine RK.val (guard_yes rfl rfl hg8) (op_move (rfl : _ = AV.p (.c _))) ?_
       refine RK.val (guard_yes rfl rfl hg8) (op_eql rfl rfl) ?_
       refine RK.V (op_pick_f rfl hg8 (rfl : _ = AV.p (.c _))) ?_
       refine RK.V (op_unot rfl) ?_
       refine RK.As rfl ?_
       refine RK.D ?_
       refine AWp_ret ?_
       refine ends_one rfl (.inr rfl) (res_tmp rfl) ?_ O_ends
       first | exact Sub.bool (oc_t (by unfold okP; omega)) | exact Sub.bool (oc_f (by omega))
   ·have hg3_ := of_decide_eq_false hg3
    refine RK.skip (guard_no rfl rfl hg3) ?_
    refine RK.skip (guard_no rfl rfl hg3) ?_
    refine RK.val (guard_yes rfl rfl hg2) (op_pick_f rfl hg3 (rfl : _ = AV.p (.c _))) ?_
    refine RK.V (op_pick_f rfl hg2 (rfl : _ = AV.p (.c _))) ?_
    refine RK.M rfl ?_
    refine RK.val (guard_yes rfl rfl rfl) (op_move (rfl : _ = AV.p (.c _))) ?_
    refine RK.val (guard_yes rfl rfl rfl) (op_leq rfl rfl) ?_
    refine RK.val (guard_yes rfl rfl rfl) (op_move (rfl : _ = AV.p (.c _))) ?_
    refine RK.split (t := 20) rfl (fun hg9 => ?_) (fun hg9 => ?_)
    ·have hg9_ := of_decide_eq_true hg9
     refine RK.val (guard_yes rfl rfl hg9) (op_move (rfl : _ = AV.p (.c _))) ?_
     refine RK.val (guard_yes rfl rfl hg9) (op_leq rfl rfl) ?_
     refine RK.val (guard_yes rfl rfl rfl) (op_pick_t rfl hg9 (rfl : _ = AV.p (.c _))) ?_
     refine RK.V (op_pick_f rfl rfl (rfl : _ = AV.p (.c _))) ?_
     refine RK.M rfl ?_
     refine RK.split (t := 25) rfl (fun hg10 => ?_) (fun hg10 => ?_)
     ·have hg10_ := of_decide_eq_true hg10
      refine RK.skip (guard_no rfl rfl hg10) ?_
      refine RK.skip (guard_no rfl rfl hg10) ?_
      refine RK.V (op_pick_t rfl hg10 (rfl : _ = AV.p (.c _))) ?_
      refine RK.M rfl ?_
      refine RK.skip (guard_no rfl rfl rfl) ?_
      refine RK.skip (guard_no rfl rfl rfl) ?_
      refine RK.V (op_pick_t rfl rfl (rfl : _ = AV.p (.c _))) ?_
      refine RK.V (op_unot rfl) ?_
      refine RK.As rfl ?_
      refine RK.D ?_
      refine AWp_ret ?_
      refine ends_one rfl (.inr rfl) (res_tmp rfl) ?_ O_ends
      first | exact Sub.bool (oc_t (by unfold okP; omega)) | exact Sub.bool (oc_f (by omega))
     ·have hg10_ := of_decide_eq_false hg10
      refine RK.val (guard_yes rfl rfl hg10) (op_move (rfl : _ = AV.p (.c _))) ?_
      refine RK.val (guard_yes rfl rfl hg10) (op_eql rfl rfl) ?_
      refine RK.V (op_pick_f rfl hg10 (rfl : _ = AV.p (.c _))) ?_
      refine RK.M rfl ?_
      refine RK.split (t := 29) rfl (fun hg11 => ?_) (fun hg11 => ?_)
      ·have hg11_ := bT hg11
       refine RK.skip (guard_no rfl rfl hg11) ?_
       refine RK.skip (guard_no rfl rfl hg11) ?_
       refine RK.V (op_pick_t rfl hg11 (rfl : _ = AV.p (.c _))) ?_
       refine RK.V (op_unot rfl) ?_
       refine RK.As rfl ?_
       refine RK.D ?_
       refine AWp_ret ?_
       refine ends_one rfl (.inr rfl) (res_tmp rfl) ?_ O_ends
       first | exact Sub.bool (oc_t (by unfold okP; omega)) | exact Sub.bool (oc_f (by omega))
      ·have hg11_ := bF hg11
       refine RK.val (guard_yes rfl rfl hg11) (op_move (rfl : _ = AV.p (.c _))) ?_
       refine RK.val (guard_yes rfl rfl hg11) (op_eql rfl rfl) ?_
       refine RK.V (op_pick_f rfl hg11 (rfl : _ = AV.p (.c _))) ?_
       refine RK.V (op_unot rfl) ?_
       refine RK.As rfl ?_
       refine RK.D ?_
       refine AWp_ret ?_
       refine ends_one rfl (.inr rfl) (res_tmp rfl) ?_ O_ends
       first | exact Sub.bool (oc_t (by unfold okP; omega)) | exact Sub.bool (oc_f (by omega))
    ·have hg9_ := of_decide_eq_false hg9
     refine RK.skip (guard_no rfl rfl hg9) ?_
     refine RK.skip (guard_no rfl rfl hg9) ?_
     refine RK.val (guard_yes rfl rfl rfl) (op_pick_f rfl hg9 (rfl : _ = AV.p (.c _))) ?_
     refine RK.V (op_pick_f rfl rfl (rfl : _ = AV.p (.c _))) ?_
     refine RK.M rfl ?_
     refine RK.val (guard_yes rfl rfl rfl) (op_move (rfl : _ = AV.p (.c _))) ?_
     refine RK.val (guard_yes rfl rfl rfl) (op_eql rfl rfl) ?_
     refine RK.V (op_pick_f rfl rfl (rfl : _ = AV.p (.c _))) ?_
     refine RK.M rfl ?_
     refine RK.split (t := 29) rfl (fun hg12 => ?_) (fun hg12 => ?_)
     ·have hg12_ := bT hg12
      refine RK.skip (guard_no rfl rfl hg12) ?_
      refine RK.skip (guard_no rfl rfl hg12) ?_
      refine RK.V (op_pick_t rfl hg12 (rfl : _ = AV.p (.c _))) ?_
      refine RK.V (op_unot rfl) ?_
      refine RK.As rfl ?_
      refine RK.D ?_
      refine AWp_ret ?_
      refine ends_one rfl (.inr rfl) (res_tmp rfl) ?_ O_ends
      first | exact Sub.bool (oc_t (by unfold okP; omega)) | exact Sub.bool (oc_f (by omega))
     ·have hg12_ := bF hg12
      refine RK.val (guard_yes rfl rfl hg12) (op_move (rfl : _ = AV.p (.c _))) ?_
      refine RK.val (guard_yes rfl rfl hg12) (op_eql rfl rfl) ?_
      refine RK.V (op_pick_f rfl hg12 (rfl : _ = AV.p (.c _))) ?_
      refine RK.V (op_unot rfl) ?_
      refine RK.As rfl ?_
      refine RK.D ?_
      refine AWp_ret ?_
      refine ends_one rfl (.inr rfl) (res_tmp rfl) ?_ O_ends
      first | exact Sub.bool (oc_t (by unfold okP; omega)) | exact Sub.bool (oc_f (by omega))
 ·have hg1_ := of_decide_eq_false hg1
  refine RK.skip (guard_no rfl rfl hg1) ?_
  refine RK.skip (guard_no rfl rfl hg1) ?_
  refine RK.V (op_pick_f rfl hg1 (rfl : _ = AV.p (.c _))) ?_
  refine RK.M rfl ?_
  refine RK.val (guard_yes rfl rfl rfl) (op_move (rfl : _ = AV.p (.c _))) ?_
  refine RK.val (guard_yes rfl rfl rfl) (op_leq rfl rfl) ?_
  refine RK.val (guard_yes rfl rfl rfl) (op_move (rfl : _ = AV.p (.c _))) ?_
  refine RK.split (t := 12) rfl (fun hg13 => ?_) (fun hg13 => ?_)
  ·have hg13_ := of_decide_eq_true hg13
   refine RK.val (guard_yes rfl rfl hg13) (op_move (rfl : _ = AV.p (.c _))) ?_
   refine RK.val (guard_yes rfl rfl hg13) (op_leq rfl rfl) ?_
   refine RK.val (guard_yes rfl rfl rfl) (op_pick_t rfl hg13 (rfl : _ = AV.p (.c _))) ?_
   refine RK.V (op_pick_f rfl rfl (rfl : _ = AV.p (.c _))) ?_
   refine RK.M rfl ?_
   refine RK.split (t := 17) rfl (fun hg14 => ?_) (fun hg14 => ?_)
   ·have hg14_ := of_decide_eq_true hg14
    refine RK.skip (guard_no rfl rfl hg14) ?_
    refine RK.skip (guard_no rfl rfl hg14) ?_
    refine RK.skip (guard_no rfl rfl hg14) ?_
    refine RK.skip (guard_sk rfl rfl) ?_
    refine RK.skip (guard_sk rfl rfl) ?_
    refine RK.skip (guard_no rfl rfl hg14) ?_
    refine RK.V (op_pick_t rfl hg14 (rfl : _ = AV.p (.c _))) ?_
    refine RK.M rfl ?_
    refine RK.skip (guard_no rfl rfl rfl) ?_
    refine RK.skip (guard_no rfl rfl rfl) ?_
    refine RK.V (op_pick_t rfl rfl (rfl : _ = AV.p (.c _))) ?_
    refine RK.M rfl ?_
    refine RK.skip (guard_no rfl rfl rfl) ?_
    refine RK.skip (guard_no rfl rfl rfl) ?_
    refine RK.V (op_pick_t rfl rfl (rfl : _ = AV.p (.c _))) ?_
    refine RK.V (op_unot rfl) ?_
    refine RK.As rfl ?_
    refine RK.D ?_
    refine AWp_ret ?_
    refine ends_one rfl (.inr rfl) (res_tmp rfl) ?_ O_ends
    first | exact Sub.bool (oc_t (by unfold okP; omega)) | exact Sub.bool (oc_f (by omega))
   ·have hg14_ := of_decide_eq_false hg14
    refine RK.val (guard_yes rfl rfl hg14) (op_move (rfl : _ = AV.p (.c _))) ?_
    refine RK.val (guard_yes rfl rfl hg14) (op_leq rfl rfl) ?_
    refine RK.val (guard_yes rfl rfl hg14) (op_move (rfl : _ = AV.p (.c _))) ?_
    refine RK.split (t := 20) rfl (fun hg15 => ?_) (fun hg15 => ?_)
    ·have hg15_ := of_decide_eq_true hg15
     refine RK.val (guard_yes rfl rfl hg15) (op_move (rfl : _ = AV.p (.c _))) ?_
     refine RK.val (guard_yes rfl rfl hg15) (op_leq rfl rfl) ?_
     refine RK.val (guard_yes rfl rfl hg14) (op_pick_t rfl hg15 (rfl : _ = AV.p (.c _))) ?_
     refine RK.V (op_pick_f rfl hg14 (rfl : _ = AV.p (.c _))) ?_
     refine RK.M rfl ?_
     refine RK.split (t := 25) rfl (fun hg16 => ?_) (fun hg16 => ?_)
     ·have hg16_ := of_decide_eq_true hg16
      refine RK.skip (guard_no rfl rfl hg16) ?_
      refine RK.skip (guard_no rfl rfl hg16) ?_
      refine RK.V (op_pick_t rfl hg16 (rfl : _ = AV.p (.c _))) ?_
      refine RK.M rfl ?_
      refine RK.skip (guard_no rfl rfl rfl) ?_
      refine RK.skip (guard_no rfl rfl rfl) ?_
      refine RK.V (op_pick_t rfl rfl (rfl : _ = AV.p (.c _))) ?_
      refine RK.V (op_unot rfl) ?_
      refine RK.As rfl ?_
      refine RK.D ?_
      refine AWp_ret ?_
      refine ends_one rfl (.inr rfl) (res_tmp rfl) ?_ O_ends
      first | exact Sub.bool (oc_t (by unfold okP; omega)) | exact Sub.bool (oc_f (by omega))
     ·have hg16_ := of_decide_eq_false hg16
      refine RK.val (guard_yes rfl rfl hg16) (op_move (rfl : _ = AV.p (.c _))) ?_
      refine RK.val (guard_yes rfl rfl hg16) (op_eql rfl rfl) ?_
      refine RK.V (op_pick_f rfl hg16 (rfl : _ = AV.p (.c _))) ?_
      refine RK.M rfl ?_
      refine RK.split (t := 29) rfl (fun hg17 => ?_) (fun hg17 => ?_)
      ·have hg17_ := bT hg17
       refine RK.skip (guard_no rfl rfl hg17) ?_
       refine RK.skip (guard_no rfl rfl hg17) ?_
       refine RK.V (op_pick_t rfl hg17 (rfl : _ = AV.p (.c _))) ?_
       refine RK.V (op_unot rfl) ?_
       refine RK.As rfl ?_
       refine RK.D ?_
       refine AWp_ret ?_
       refine ends_one rfl (.inr rfl) (res_tmp rfl) ?_ O_ends
       first | exact Sub.bool (oc_t (by unfold okP; omega)) | exact Sub.bool (oc_f (by omega))
      ·have hg17_ := bF hg17
       refine RK.val (guard_yes rfl rfl hg17) (op_move (rfl : _ = AV.p (.c _))) ?_
       refine RK.val (guard_yes rfl rfl hg17) (op_eql rfl rfl) ?_
       refine RK.V (op_pick_f rfl hg17 (rfl : _ = AV.p (.c _))) ?_
       refine RK.V (op_unot rfl) ?_
       refine RK.As rfl ?_
       refine RK.D ?_
       refine AWp_ret ?_
       refine ends_one rfl (.inr rfl) (res_tmp rfl) ?_ O_ends
       first | exact Sub.bool (oc_t (by unfold okP; omega)) | exact Sub.bool (oc_f (by omega))
    ·have hg15_ := of_decide_eq_false hg15
     refine RK.skip (guard_no rfl rfl hg15) ?_
     refine RK.skip (guard_no rfl rfl hg15) ?_
     refine RK.val (guard_yes rfl rfl hg14) (op_pick_f rfl hg15 (rfl : _ = AV.p (.c _))) ?_
     refine RK.V (op_pick_f rfl hg14 (rfl : _ = AV.p (.c _))) ?_
     refine RK.M rfl ?_
     refine RK.val (guard_yes rfl rfl rfl) (op_move (rfl : _ = AV.p (.c _))) ?_
     refine RK.val (guard_yes rfl rfl rfl) (op_eql rfl rfl) ?_
     refine RK.V (op_pick_f rfl rfl (rfl : _ = AV.p (.c _))) ?_
     refine RK.M rfl ?_
     refine RK.split (t := 29) rfl (fun hg18 => ?_) (fun hg18 => ?_)
     ·have hg18_ := bT hg18
      refine RK.skip (guard_no rfl rfl hg18) ?_
      refine RK.skip (guard_no rfl rfl hg18) ?_
      refine RK.V (op_pick_t rfl hg18 (rfl : _ = AV.p (.c _))) ?_
      refine RK.V (op_unot rfl) ?_
      refine RK.As rfl ?_
      refine RK.D ?_
      refine AWp_ret ?_
      refine ends_one rfl (.inr rfl) (res_tmp rfl) ?_ O_ends
      first | exact Sub.bool (oc_t (by unfold okP; omega)) | exact Sub.bool (oc_f (by omega))
     ·have hg18_ := bF hg18
      refine RK.val (guard_yes rfl rfl hg18) (op_move (rfl : _ = AV.p (.c _))) ?_
      refine RK.val (guard_yes rfl rfl hg18) (op_eql rfl rfl) ?_
      refine RK.V (op_pick_f rfl hg18 (rfl : _ = AV.p (.c _))) ?_
      refine RK.V (op_unot rfl) ?_
      refine RK.As rfl ?_
      refine RK.D ?_
      refine AWp_ret ?_
      refine ends_one rfl (.inr rfl) (res_tmp rfl) ?_ O_ends
      first | exact Sub.bool (oc_t (by unfold okP; omega)) | exact Sub.bool (oc_f (by omega))
  ·have hg13_ := of_decide_eq_false hg13
   refine RK.skip (guard_no rfl rfl hg13) ?_
   refine RK.skip (guard_no rfl rfl hg13) ?_
   refine RK.val (guard_yes rfl rfl rfl) (op_pick_f rfl hg13 (rfl : _ = AV.p (.c _))) ?_
   refine RK.V (op_pick_f rfl rfl (rfl : _ = AV.p (.c _))) ?_
   refine RK.M rfl ?_
   refine RK.val (guard_yes rfl rfl rfl) (op_move (rfl : _ = AV.p (.c _))) ?_
   refine RK.val (guard_yes rfl rfl rfl) (op_leq rfl rfl) ?_
   refine RK.val (guard_yes rfl rfl rfl) (op_move (rfl : _ = AV.p (.c _))) ?_
   refine RK.split (t := 20) rfl (fun hg19 => ?_) (fun hg19 => ?_)
   ·have hg19_ := of_decide_eq_true hg19
    refine RK.val (guard_yes rfl rfl hg19) (op_move (rfl : _ = AV.p (.c _))) ?_
    refine RK.val (guard_yes rfl rfl hg19) (op_leq rfl rfl) ?_
    refine RK.val (guard_yes rfl rfl rfl) (op_pick_t rfl hg19 (rfl : _ = AV.p (.c _))) ?_
    refine RK.V (op_pick_f rfl rfl (rfl : _ = AV.p (.c _))) ?_
    refine RK.M rfl ?_
    refine RK.split (t := 25) rfl (fun hg20 => ?_) (fun hg20 => ?_)
    ·have hg20_ := of_decide_eq_true hg20
     refine RK.skip (guard_no rfl rfl hg20) ?_
     refine RK.skip (guard_no rfl rfl hg20) ?_
     refine RK.V (op_pick_t rfl hg20 (rfl : _ = AV.p (.c _))) ?_
     refine RK.M rfl ?_
     refine RK.skip (guard_no rfl rfl rfl) ?_
     refine RK.skip (guard_no rfl rfl rfl) ?_
     refine RK.V (op_pick_t rfl rfl (rfl : _ = AV.p (.c _))) ?_
     refine RK.V (op_unot rfl) ?_
     refine RK.As rfl ?_
     refine RK.D ?_
     refine AWp_ret ?_
     refine ends_one rfl (.inr rfl) (res_tmp rfl) ?_ O_ends
     first | exact Sub.bool (oc_t (by unfold okP; omega)) | exact Sub.bool (oc_f (by omega))
    ·have hg20_ := of_decide_eq_false hg20
     refine RK.val (guard_yes rfl rfl hg20) (op_move (rfl : _ = AV.p (.c _))) ?_
     refine RK.val (guard_yes rfl rfl hg20) (op_eql rfl rfl) ?_
     refine RK.V (op_pick_f rfl hg20 (rfl : _ = AV.p (.c _))) ?_
     refine RK.M rfl ?_
     refine RK.split (t := 29) rfl (fun hg21 => ?_) (fun hg21 => ?_)
     ·have hg21_ := bT hg21
      refine RK.skip (guard_no rfl rfl hg21) ?_
      refine RK.skip (guard_no rfl rfl hg21) ?_
      refine RK.V (op_pick_t rfl hg21 (rfl : _ = AV.p (.c _))) ?_
      refine RK.V (op_unot rfl) ?_
      refine RK.As rfl ?_
      refine RK.D ?_
      refine AWp_ret ?_
      refine ends_one rfl (.inr rfl) (res_tmp rfl) ?_ O_ends
      first | exact Sub.bool (oc_t (by unfold okP; omega)) | exact Sub.bool (oc_f (by omega))
     ·have hg21_ := bF hg21
      refine RK.val (guard_yes rfl rfl hg21) (op_move (rfl : _ = AV.p (.c _))) ?_
      refine RK.val (guard_yes rfl rfl hg21) (op_eql rfl rfl) ?_
      refine RK.V (op_pick_f rfl hg21 (rfl : _ = AV.p (.c _))) ?_
      refine RK.V (op_unot rfl) ?_
      refine RK.As rfl ?_
      refine RK.D ?_
      refine AWp_ret ?_
      refine ends_one rfl (.inr rfl) (res_tmp rfl) ?_ O_ends
      first | exact Sub.bool (oc_t (by unfold okP; omega)) | exact Sub.bool (oc_f (by omega))
   ·have hg19_ := of_decide_eq_false hg19
    refine RK.skip (guard_no rfl rfl hg19) ?_
    refine RK.skip (guard_no rfl rfl hg19) ?_
    refine RK.val (guard_yes rfl rfl rfl) (op_pick_f rfl hg19 (rfl : _ = AV.p (.c _))) ?_
    refine RK.V (op_pick_f rfl rfl (rfl : _ = AV.p (.c _))) ?_
    refine RK.M rfl ?_
    refine RK.val (guard_yes rfl rfl rfl) (op_move (rfl : _ = AV.p (.c _))) ?_
    refine RK.val (guard_yes rfl rfl rfl) (op_eql rfl rfl) ?_
    refine RK.V (op_pick_f rfl rfl (rfl : _ = AV.p (.c _))) ?_
    refine RK.M rfl ?_
    refine RK.split (t := 29) rfl (fun hg22 => ?_) (fun hg22 => ?_)
    ·have hg22_ := bT hg22
     refine RK.skip (guard_no rfl rfl hg22) ?_
     refine RK.skip (guard_no rfl rfl hg22) ?_
     refine RK.V (op_pick_t rfl hg22 (rfl : _ = AV.p (.c _))) ?_
     refine RK.V (op_unot rfl) ?_
     refine RK.As rfl ?_
     refine RK.D ?_
     refine AWp_ret ?_
     refine ends_one rfl (.inr rfl) (res_tmp rfl) ?_ O_ends
     first | exact Sub.bool (oc_t (by unfold okP; omega)) | exact Sub.bool (oc_f (by omega))
    ·have hg22_ := bF hg22
     refine RK.val (guard_yes rfl rfl hg22) (op_move (rfl : _ = AV.p (.c _))) ?_
     refine RK.val (guard_yes rfl rfl hg22) (op_eql rfl rfl) ?_
     refine RK.V (op_pick_f rfl hg22 (rfl : _ = AV.p (.c _))) ?_
     refine RK.V (op_unot rfl) ?_
     refine RK.As rfl ?_
     refine RK.D ?_
     refine AWp_ret ?_
     refine ends_one rfl (.inr rfl) (res_tmp rfl) ?_ O_ends
     first | exact Sub.bool (oc_t (by unfold okP; omega)) | exact Sub.bool (oc_f (by omega))
/- algorist/hypothesis.isClaim -/
set_option maxHeartbeats 1000000 in
set_option maxRecDepth 100000 in
theorem p_isClaim (s : Str) :
  Call0 Tryz.prog 89 [AS s] (B (okS s)) := by
 refine callM_of (np := 0) Tryz.func89 (by kernel_rfl) rfl rfl (Nat.le_of_ble_eq_true rfl) (fun m h => absurd rfl h) (fun m h => absurd rfl h) rfl ?_
 refine AWp_sr hP ?_
 refine RK.As rfl ?_
 refine RK.D ?_
 refine AWp_sr hP ?_
 refine RK.As rfl ?_
 refine RK.D ?_
 refine AWp_sr hP ?_
 refine RK.M rfl ?_
 refine RK.V (op_slen hT rfl rfl rfl rfl) ?_
 refine RK.V (op_leq rfl rfl) ?_
 refine RK.M rfl ?_
 refine RK.split (t := 7) rfl (fun hg1 => ?_) (fun hg1 => ?_)
 ·have hg1_ := of_decide_eq_true hg1
  refine RK.val (guard_yes rfl rfl hg1) (op_move (rfl : _ = AV.p (.c _))) ?_
  refine RK.val (guard_yes rfl rfl hg1) (op_slen hT rfl rfl rfl rfl) ?_
  refine RK.val (guard_yes rfl rfl hg1) (op_leq rfl rfl) ?_
  refine RK.V (op_pick_t rfl hg1 (rfl : _ = AV.p (.c _))) ?_
  refine RK.M rfl ?_
  refine RK.split (t := 12) rfl (fun hg2 => ?_) (fun hg2 => ?_)
  ·have hg2_ := of_decide_eq_true hg2
   refine RK.val (guard_yes rfl rfl hg2) (op_move (rfl : _ = AV.p (.c _))) ?_
   refine RK.val (guard_yes rfl rfl hg2) (op_bytes hT rfl rfl rfl rfl rfl rfl rfl (by omega)) ?_
   refine RK.val (guard_yes rfl rfl hg2) (op_move (rfl : _ = AV.p (.c _))) ?_
   refine RK.val (guard_yes rfl rfl hg2) (Eff.call0 ((p_HasB (gf := 119) (caps := []) (fun c => !okc c) s (fun c _ => p_isClaim1 _)).sub ⟨.refl _, sub_fn, trivial⟩)) ?_
   refine RK.val (guard_yes rfl rfl hg2) (op_unot rfl) ?_
   refine RK.V (op_pick_t rfl hg2 (rfl : _ = AV.p (.c _))) ?_
   refine RK.As rfl ?_
   refine RK.D ?_
   refine AWp_ret ?_
   refine ends_one rfl (.inr rfl) (res_tmp rfl) ?_ O_ends
   first | exact Sub.bool (okS_n (by omega)) | exact Sub.bool (okS_y (by omega) (by omega))
  ·have hg2_ := of_decide_eq_false hg2
   refine RK.skip (guard_no rfl rfl hg2) ?_
   refine RK.skip (guard_no rfl rfl hg2) ?_
   refine RK.skip (guard_no rfl rfl hg2) ?_
   refine RK.skip (guard_no rfl rfl hg2) ?_
   refine RK.skip (guard_no rfl rfl hg2) ?_
   refine RK.V (op_pick_f rfl hg2 (rfl : _ = AV.p (.c _))) ?_
   refine RK.As rfl ?_
   refine RK.D ?_
   refine AWp_ret ?_
   refine ends_one rfl (.inr rfl) (res_tmp rfl) ?_ O_ends
   first | exact Sub.bool (okS_n (by omega)) | exact Sub.bool (okS_y (by omega) (by omega))
 ·have hg1_ := of_decide_eq_false hg1
  refine RK.skip (guard_no rfl rfl hg1) ?_
  refine RK.skip (guard_no rfl rfl hg1) ?_
  refine RK.skip (guard_no rfl rfl hg1) ?_
  refine RK.V (op_pick_f rfl hg1 (rfl : _ = AV.p (.c _))) ?_
  refine RK.M rfl ?_
  refine RK.skip (guard_no rfl rfl rfl) ?_
  refine RK.skip (guard_no rfl rfl rfl) ?_
  refine RK.skip (guard_no rfl rfl rfl) ?_
  refine RK.skip (guard_no rfl rfl rfl) ?_
  refine RK.skip (guard_no rfl rfl rfl) ?_
  refine RK.V (op_pick_f rfl rfl (rfl : _ = AV.p (.c _))) ?_
  refine RK.As rfl ?_
  refine RK.D ?_
  refine AWp_ret ?_
  refine ends_one rfl (.inr rfl) (res_tmp rfl) ?_ O_ends
  first | exact Sub.bool (okS_n (by omega)) | exact Sub.bool (okS_y (by omega) (by omega))
/- algorist/hypothesis.right$1 -/
set_option maxHeartbeats 1000000 in
set_option maxRecDepth 100000 in
theorem p_right1 (s : Str) :
  Call0 Tryz.prog 91 [AS s] (B (!okS s)) := by
 refine callM_of (np := 0) Tryz.func91 (by kernel_rfl) rfl rfl (Nat.le_of_ble_eq_true rfl) (fun m h => absurd rfl h) (fun m h => absurd rfl h) rfl ?_
 refine AWp_sr hP ?_
 refine RK.As rfl ?_
 refine RK.D ?_
 refine AWp_sr hP ?_
 refine RK.M rfl ?_
 refine RK.V (Eff.call0 (p_isClaim _)) ?_
 refine RK.V (op_unot rfl) ?_
 refine RK.As rfl ?_
 refine RK.D ?_
 refine AWp_ret ?_
 refine ends_one rfl (.inr rfl) (res_tmp rfl) ?_ O_ends
 exact .refl _
/- algorist/hypothesis.hyps -/
set_option maxHeartbeats 1000000 in
set_option maxRecDepth 100000 in
theorem p_hyps (l : List Int) :
  Call0 Tryz.prog 61 [.p (.c (SL enZ l))] (B (hypsB l)) := by
 refine callM_of (np := 0) Tryz.func61 (by kernel_rfl) rfl rfl (Nat.le_of_ble_eq_true rfl) (fun m h => absurd rfl h) (fun m h => absurd rfl h) rfl ?_
 refine AWp_sr hP ?_
 refine RK.As rfl ?_
 refine RK.D ?_
 refine AWp_sr hP ?_
 refine RK.M rfl ?_
 refine RK.V (Eff.call0 (p_strZ _)) ?_
 refine RK.M rfl ?_
 refine RK.split (t := 5) rfl (fun hg1 => ?_) (fun hg1 => ?_)
 ·refine RK.val (guard_yes rfl rfl hg1) (op_move (rfl : _ = AV.p (.c _))) ?_
  refine RK.val (guard_yes rfl rfl hg1) (Eff.call0 ((p_HasZ (gf := 97) (caps := []) (fun n => !hypB n) l (fun n _ => p_hyps1 n)).sub ⟨.refl _, sub_fn, trivial⟩)) ?_
  refine RK.val (guard_yes rfl rfl hg1) (op_unot rfl) ?_
  refine RK.V (op_pick_t rfl hg1 (rfl : _ = AV.p (.c _))) ?_
  refine RK.As rfl ?_
  refine RK.D ?_
  refine AWp_ret ?_
  refine ends_one rfl (.inr rfl) (res_tmp rfl) ?_ O_ends
  first | exact Sub.bool (hyps_y hg1) | exact Sub.bool (hyps_n hg1)
 ·refine RK.skip (guard_no rfl rfl hg1) ?_
  refine RK.skip (guard_no rfl rfl hg1) ?_
  refine RK.skip (guard_no rfl rfl hg1) ?_
  refine RK.V (op_pick_f rfl hg1 (rfl : _ = AV.p (.c _))) ?_
  refine RK.As rfl ?_
  refine RK.D ?_
  refine AWp_ret ?_
  refine ends_one rfl (.inr rfl) (res_tmp rfl) ?_ O_ends
  first | exact Sub.bool (hyps_y hg1) | exact Sub.bool (hyps_n hg1)
/- algorist/hypothesis.right -/
set_option maxHeartbeats 1000000 in
set_option maxRecDepth 100000 in
theorem p_right (d : Drv) :
  Call0 Tryz.prog 59 [.p (.a (enD d))] (B (rightD d)) := by
 refine callM_of (np := 0) Tryz.func59 (by kernel_rfl) rfl rfl (Nat.le_of_ble_eq_true rfl) (fun m h => absurd rfl h) (fun m h => absurd rfl h) rfl ?_
 refine AWp_sr hP ?_
 refine RK.alc guard_none (op_box rfl rfl) ?_
 refine RK.As rfl ?_
 refine RK.D ?_
 refine AWp_sr hP ?_
 refine RK.F hT rfl rfl rfl rfl rfl rfl ?_
 refine RK.V (op_load_one hT rfl rfl rfl rfl (by first | rfl | exact vget (by omega))) ?_
 refine RK.V (Eff.call0 (p_isClaim _)) ?_
 refine RK.M rfl ?_
 refine RK.split (t := 6) rfl (fun hg1 => ?_) (fun hg1 => ?_)
 ·refine RK.val (guard_yes rfl rfl hg1) (op_field_loc hT rfl rfl rfl rfl rfl rfl) ?_
  refine RK.val (guard_yes rfl rfl hg1) (op_load_one hT rfl rfl rfl rfl (by first | rfl | exact vget (by omega))) ?_
  refine RK.val (guard_yes rfl rfl hg1) (op_len hT rfl rfl rfl (by rfl)) ?_
  refine RK.val (guard_yes rfl rfl hg1) (op_leq rfl rfl) ?_
  refine RK.V (op_pick_t rfl hg1 (rfl : _ = AV.p (.c _))) ?_
  refine RK.M rfl ?_
  refine RK.split (t := 12) rfl (fun hg2 => ?_) (fun hg2 => ?_)
  ·have hg2_ := of_decide_eq_true hg2
   refine RK.val (guard_yes rfl rfl hg2) (op_field_loc hT rfl rfl rfl rfl rfl rfl) ?_
   refine RK.val (guard_yes rfl rfl hg2) (op_load_one hT rfl rfl rfl rfl (by first | rfl | exact vget (by omega))) ?_
   refine RK.val (guard_yes rfl rfl hg2) (Eff.call0 (p_strS _)) ?_
   refine RK.V (op_pick_t rfl hg2 (rfl : _ = AV.p (.c _))) ?_
   refine RK.M rfl ?_
   refine RK.split (t := 17) rfl (fun hg3 => ?_) (fun hg3 => ?_)
   ·refine RK.val (guard_yes rfl rfl hg3) (op_field_loc hT rfl rfl rfl rfl rfl rfl) ?_
    refine RK.val (guard_yes rfl rfl hg3) (op_load_one hT rfl rfl rfl rfl (by first | rfl | exact vget (by omega))) ?_
    refine RK.val (guard_yes rfl rfl hg3) (Eff.call0 ((p_HasS (gf := 91) (caps := []) (fun s => !okS s) d.2.1 (fun s _ => p_right1 s)).sub ⟨.refl _, sub_fn, trivial⟩)) ?_
    refine RK.val (guard_yes rfl rfl hg3) (op_unot rfl) ?_
    refine RK.V (op_pick_t rfl hg3 (rfl : _ = AV.p (.c _))) ?_
    refine RK.M rfl ?_
    refine RK.split (t := 23) rfl (fun hg4 => ?_) (fun hg4 => ?_)
    ·have hg4_ := (notT hg4)
     refine RK.val (guard_yes rfl rfl hg4) (op_field_loc hT rfl rfl rfl rfl rfl rfl) ?_
     refine RK.val (guard_yes rfl rfl hg4) (op_load_one hT rfl rfl rfl rfl (by first | rfl | exact vget (by omega))) ?_
     refine RK.val (guard_yes rfl rfl hg4) (Eff.call0 (p_hyps _)) ?_
     refine RK.V (op_pick_t rfl hg4 (rfl : _ = AV.p (.c _))) ?_
     refine RK.As rfl ?_
     refine RK.D ?_
     refine AWp_ret ?_
     refine ends_one rfl (.inr rfl) (res_tmp rfl) ?_ O_ends
     exact Sub.bool (right_y hg1 (of_decide_eq_true hg2) hg3 hg4)
    ·have hg4_ := (notF hg4)
     refine RK.skip (guard_no rfl rfl hg4) ?_
     refine RK.skip (guard_no rfl rfl hg4) ?_
     refine RK.skip (guard_no rfl rfl hg4) ?_
     refine RK.V (op_pick_f rfl hg4 (rfl : _ = AV.p (.c _))) ?_
     refine RK.As rfl ?_
     refine RK.D ?_
     refine AWp_ret ?_
     refine ends_one rfl (.inr rfl) (res_tmp rfl) ?_ O_ends
     exact Sub.bool (right_4 hg4)
   ·refine RK.skip (guard_no rfl rfl hg3) ?_
    refine RK.skip (guard_no rfl rfl hg3) ?_
    refine RK.skip (guard_no rfl rfl hg3) ?_
    refine RK.skip (guard_no rfl rfl hg3) ?_
    refine RK.V (op_pick_f rfl hg3 (rfl : _ = AV.p (.c _))) ?_
    refine RK.M rfl ?_
    refine RK.skip (guard_no rfl rfl rfl) ?_
    refine RK.skip (guard_no rfl rfl rfl) ?_
    refine RK.skip (guard_no rfl rfl rfl) ?_
    refine RK.V (op_pick_f rfl rfl (rfl : _ = AV.p (.c _))) ?_
    refine RK.As rfl ?_
    refine RK.D ?_
    refine AWp_ret ?_
    refine ends_one rfl (.inr rfl) (res_tmp rfl) ?_ O_ends
    exact Sub.bool (right_3 hg3)
  ·have hg2_ := of_decide_eq_false hg2
   refine RK.skip (guard_no rfl rfl hg2) ?_
   refine RK.skip (guard_no rfl rfl hg2) ?_
   refine RK.skip (guard_no rfl rfl hg2) ?_
   refine RK.V (op_pick_f rfl hg2 (rfl : _ = AV.p (.c _))) ?_
   refine RK.M rfl ?_
   refine RK.skip (guard_no rfl rfl rfl) ?_
   refine RK.skip (guard_no rfl rfl rfl) ?_
   refine RK.skip (guard_no rfl rfl rfl) ?_
   refine RK.skip (guard_no rfl rfl rfl) ?_
   refine RK.V (op_pick_f rfl rfl (rfl : _ = AV.p (.c _))) ?_
   refine RK.M rfl ?_
   refine RK.skip (guard_no rfl rfl rfl) ?_
   refine RK.skip (guard_no rfl rfl rfl) ?_
   refine RK.skip (guard_no rfl rfl rfl) ?_
   refine RK.V (op_pick_f rfl rfl (rfl : _ = AV.p (.c _))) ?_
   refine RK.As rfl ?_
   refine RK.D ?_
   refine AWp_ret ?_
   refine ends_one rfl (.inr rfl) (res_tmp rfl) ?_ O_ends
   exact Sub.bool (right_2 (of_decide_eq_false hg2))
 ·refine RK.skip (guard_no rfl rfl hg1) ?_
  refine RK.skip (guard_no rfl rfl hg1) ?_
  refine RK.skip (guard_no rfl rfl hg1) ?_
  refine RK.skip (guard_no rfl rfl hg1) ?_
  refine RK.V (op_pick_f rfl hg1 (rfl : _ = AV.p (.c _))) ?_
  refine RK.M rfl ?_
  refine RK.skip (guard_no rfl rfl rfl) ?_
  refine RK.skip (guard_no rfl rfl rfl) ?_
  refine RK.skip (guard_no rfl rfl rfl) ?_
  refine RK.V (op_pick_f rfl rfl (rfl : _ = AV.p (.c _))) ?_
  refine RK.M rfl ?_
  refine RK.skip (guard_no rfl rfl rfl) ?_
  refine RK.skip (guard_no rfl rfl rfl) ?_
  refine RK.skip (guard_no rfl rfl rfl) ?_
  refine RK.skip (guard_no rfl rfl rfl) ?_
  refine RK.V (op_pick_f rfl rfl (rfl : _ = AV.p (.c _))) ?_
  refine RK.M rfl ?_
  refine RK.skip (guard_no rfl rfl rfl) ?_
  refine RK.skip (guard_no rfl rfl rfl) ?_
  refine RK.skip (guard_no rfl rfl rfl) ?_
  refine RK.V (op_pick_f rfl rfl (rfl : _ = AV.p (.c _))) ?_
  refine RK.As rfl ?_
  refine RK.D ?_
  refine AWp_ret ?_
  refine ends_one rfl (.inr rfl) (res_tmp rfl) ?_ O_ends
  exact Sub.bool (right_1 hg1)
/- algorist/hypothesis.compare -/
set_option maxHeartbeats 1000000 in
set_option maxRecDepth 100000 in
theorem p_compare (a b : Drv) :
  Call0 Tryz.prog 60 [.p (.a (enD a)), .p (.a (enD b))] (Z (cmD a b)) := by
 refine callM_of (np := 0) Tryz.func60 (by kernel_rfl) rfl rfl (Nat.le_of_ble_eq_true rfl) (fun m h => absurd rfl h) (fun m h => absurd rfl h) rfl ?_
 refine AWp_sr hP ?_
 refine RK.alc guard_none (op_box rfl rfl) ?_
 refine RK.alc guard_none (op_box rfl rfl) ?_
 refine RK.As rfl ?_
 refine RK.D ?_
 refine AWp_sr hP ?_
 refine RK.F hT rfl rfl rfl rfl rfl rfl ?_
 refine RK.V (op_load_one hT rfl rfl rfl rfl (by first | rfl | exact vget (by omega))) ?_
 refine RK.F hT rfl rfl rfl rfl rfl rfl ?_
 refine RK.V (op_load_one hT rfl rfl rfl rfl (by first | rfl | exact vget (by omega))) ?_
 refine RK.V (Eff.call0 (p_cmpS _ _)) ?_
 refine RK.F hT rfl rfl rfl rfl rfl rfl ?_
 refine RK.V (op_load_one hT rfl rfl rfl rfl (by first | rfl | exact vget (by omega))) ?_
 refine RK.F hT rfl rfl rfl rfl rfl rfl ?_
 refine RK.V (op_load_one hT rfl rfl rfl rfl (by first | rfl | exact vget (by omega))) ?_
 refine RK.V (Eff.call0 (p_comS _ _)) ?_
 refine RK.F hT rfl rfl rfl rfl rfl rfl ?_
 refine RK.V (op_load_one hT rfl rfl rfl rfl (by first | rfl | exact vget (by omega))) ?_
 refine RK.F hT rfl rfl rfl rfl rfl rfl ?_
 refine RK.V (op_load_one hT rfl rfl rfl rfl (by first | rfl | exact vget (by omega))) ?_
 refine RK.V (Eff.call0 (p_comZ _ _)) ?_
 refine RK.V (op_bslice hT rfl rfl rfl (es := [_, _, _]) rfl rfl rfl) ?_
 refine RK.V (Eff.call0 (p_or [cmS a.1 b.1, cmL cmS a.2.1 b.2.1, cmL cmZ a.2.2 b.2.2])) ?_
 refine RK.As rfl ?_
 refine RK.D ?_
 refine AWp_ret ?_
 refine ends_one rfl (.inr rfl) (res_tmp rfl) ?_ O_ends
 exact .refl _
end Go.Proofs.YtmoaoiakmmbpoaaGreatDoor
end

section
/- chapter 30: masks of lists, lists of masks, what is granted -/
namespace Go.Proofs.YtmoaoiakmmbpoaaGreatDoor
open Go Go.AM
/- algorist/hypothesis.bitsOf -/
set_option maxHeartbeats 1000000 in
set_option maxRecDepth 100000 in
theorem p_bitsOf (l : List Int) (ho : hok l) :
  Call0 Tryz.prog 40 [.p (.c (SL enZ l))] (U (bm l)) := by
 refine callM_of (np := 0) Tryz.func40 (by kernel_rfl) rfl rfl (Nat.le_of_ble_eq_true rfl) (fun m h => absurd rfl h) (fun m h => absurd rfl h) rfl ?_
 refine AWp_len (t := 0) rfl rfl (fun hlen => ?_)
 refine AWp_sr hP ?_
 refine RK.As rfl ?_
 refine RK.D ?_
 refine AWp_sr hP ?_
 refine RK.As rfl ?_
 refine RK.D ?_
 refine AWp_seq ?_
 refine AWp_sr hP ?_
 refine RK.M rfl ?_
 refine RK.V (op_len hT rfl rfl rfl (by rfl)) ?_
 refine RK.M rfl ?_
 refine RK.D ?_
 refine AWp_block ?_
 refine AWp_loop (ι := Nat) (fun k => stL [(3, U (bm (l.take k))), (6, .p (.c (SL enZ l))), (7, Z (l.length : Int)), (8, Z (k : Int))] []) (fun k => k ≤ l.length) (fun k => l.length - k) 0 (Nat.zero_le _) (le_stL ⟨.refl _, .refl _, .refl _, .refl _, trivial⟩ trivial) ?_
 intro k hk
 refine AWp_sr hP ?_
 refine RK.V (op_lss rfl rfl) ?_
 refine RK.D ?_
 refine AWp_seq ?_
 refine AWp_cond rfl (fun hb1 => ?_) (fun hb1 => ?_)
 ·have hb1_ := of_decide_eq_true hb1
  refine AWp_skip ?_
  refine AWp_seq ?_
  refine AWp_block ?_
  refine AWp_sr hP ?_
  refine RK.V (op_indexG hT enZ_len (by decide) 0 (n := (k : Int)) (l := l) rfl rfl rfl rfl rfl rfl (by omega)) ?_
  refine RK.V (op_load_ip_one hT rfl rfl rfl rfl) ?_
  refine RK.As rfl ?_
  refine RK.D ?_
  refine AWp_region hP ?_
  refine RK.M rfl ?_
  refine RK.M rfl ?_
  refine RK.V (op_bit rfl rfl (hok_get ho (by omega))) ?_
  refine RK.V (op_orU rfl rfl (bm_lt (hok_take ho k)) (bit_lt (hok_get ho (by omega)))) ?_
  refine RK.As rfl ?_
  refine RK.D ?_
  refine AWp_region hP ?_
  refine RK.V (op_add rfl rfl (by first | exact IntWalk.i64_in _ (by omega) | rfl)) ?_
  refine RK.M rfl ?_
  refine RK.D ?_
  refine ⟨k + 1, by omega, by omega, le_stL ⟨Sub.of_eq (Eq.trans rfl (congrArg U (bm_take (by omega)).symm)), .refl _, .refl _, Sub.int (by omega), trivial⟩ trivial⟩
 ·have hb1_ := of_decide_eq_false hb1
  refine AWp_exit ?_
  refine AWp_sr hP ?_
  refine RK.M rfl ?_
  refine RK.As rfl ?_
  refine RK.D ?_
  refine AWp_ret ?_
  refine ends_one rfl (.inr rfl) (res_tmp rfl) ?_ O_ends
  exact Sub.of_eq (Eq.trans rfl (congrArg U (by rw [List.take_of_length_le (by omega)])))
/- math/bits.TrailingZeros32 -/
set_option maxHeartbeats 1000000 in
set_option maxRecDepth 100000 in
theorem p_tz (s k : Nat) (hk : Low s k) (hs : s < 4294967296) :
  Call0 Tryz.prog 76 [U s] (Z (k : Int)) := by
 have h0 := hk.pos
 have hk32 := hk.lt hs
 refine callM_of (np := 0) Tryz.func76 (by kernel_rfl) rfl rfl (Nat.le_of_ble_eq_true rfl) (fun m h => absurd rfl h) (fun m h => absurd rfl h) rfl ?_
 refine AWp_sr hP ?_
 refine RK.As rfl ?_
 refine RK.D ?_
 refine AWp_seq ?_
 refine AWp_sr hP ?_
 refine RK.M rfl ?_
 refine RK.V (op_eql rfl rfl) ?_
 refine RK.D ?_
 refine AWp_cond rfl (fun hb1 => ?_) (fun hb1 => ?_)
 ·have hb1_ := bT hb1
  omega --dead
 ·have hb1_ := bF hb1
  refine AWp_skip ?_
  refine AWp_sr hP ?_
  refine RK.M rfl ?_
  refine RK.M rfl ?_
  refine RK.V (op_uneg rfl (neg32 h0 hs)) ?_
  refine RK.V (op_andU rfl rfl hs (by omega)) ?_
  refine RK.V (op_mul rfl rfl (c := ((2 ^ k * 125613361 % 4294967296 : Nat) : Int)) (by rw [hk.neg hs]; exact db_mul k hk32)) ?_
  refine RK.V (op_shrN (j := 27) rfl rfl (by first | decide | omega)) ?_
  refine RK.V (op_index_glob hT rfl rfl rfl rfl List.mem_cons_self (by decide) rfl (by have := (db_at k hk32).1; omega)) ?_
  refine RK.V (op_load_ip_one hT rfl rfl rfl (dbT_get hk32)) ?_
  refine RK.V (op_conv hT rfl rfl rfl rfl (by first | exact IntWalk.i64_in _ (by omega) | rfl)) ?_
  refine RK.As rfl ?_
  refine RK.D ?_
  refine AWp_ret ?_
  refine ends_one rfl (.inr rfl) (res_tmp rfl) ?_ O_ends
  exact .refl _
/- (algorist/hypothesis.set).list -/
set_option maxHeartbeats 1000000 in
set_option maxRecDepth 100000 in
theorem p_listV (m : Nat) (hm : m < 4294967296) :
  CallV Tryz.prog 45 [U m] (VB 1 3 enZ (lsB m)) := by
 refine callV_of Tryz.func45 (by kernel_rfl) rfl rfl (Nat.le_of_ble_eq_true rfl) ?_
 refine AWp_sr hP ?_
 refine RK.As rfl ?_
 refine RK.D ?_
 refine AWp_sr hP ?_
 refine RK.alc guard_none (op_bslice_vec hT rfl rfl rfl (es := []) rfl rfl rfl) ?_
 refine RK.V (op_assign (rfl : _ = AV.vec _)) ?_
 refine RK.D ?_
 refine AWp_rn 4 1000 rfl rfl rfl ?_
 refine AWp_seq ?_
 refine AWp_block ?_
 refine AWp_loop (ι := Nat × List Int) (fun q => stL [(0, U q.1), (3, .vec 1000)] [(1000, VB 1 3 enZ q.2)]) (fun q => q.1 ≤ m ∧ q.2 ++ lsB q.1 = lsB m ∧ q.2.length ≤ 32) (fun q => q.1) (m, []) ⟨Nat.le_refl _, rfl, Nat.zero_le _⟩ (le_stL ⟨.refl _, .refl _, trivial⟩ ⟨rfl, trivial⟩) ?_
 intro q hI
 obtain ⟨s, l⟩ := q
 have hsm : s ≤ m := hI.1
 have hl32 : l.length ≤ 32 := hI.2.2
 refine AWp_seq ?_
 refine AWp_sr hP ?_
 refine RK.M rfl ?_
 refine RK.V (op_gtr rfl rfl) ?_
 refine RK.D ?_
 refine AWp_cond rfl (fun hb1 => ?_) (fun hb1 => ?_)
 ·have hb1_ := of_decide_eq_true hb1
  refine (low_ex s (by omega)).elim (fun k hlow => ?_)
  refine AWp_skip ?_
  refine AWp_seq ?_
  refine AWp_block ?_
  refine AWp_region hP ?_
  refine RK.V (op_move (rfl : _ = AV.vec _)) ?_
  refine RK.M rfl ?_
  refine RK.V (Eff.call0 (p_tz s k hlow (by omega))) ?_
  refine RK.V (op_bslice hT rfl rfl rfl (es := [_]) rfl rfl rfl) ?_
  refine RK.app guard_none (op_appendG (encD := enZ) hT enZ_len (by decide) rfl rfl rfl rfl rfl rfl rfl (b := (k : Int)) rfl (by omega) (by decide) (by decide)) ?_
  refine RK.V (op_assign (rfl : _ = AV.vec _)) ?_
  refine RK.D ?_
  refine AWp_rn 15 1000 rfl rfl rfl ?_
  refine AWp_region hP ?_
  refine RK.M rfl ?_
  refine RK.M rfl ?_
  refine RK.V (op_sub rfl rfl (c := ((s - 1 : Nat) : Int)) (by rw [IntKind.wrap_u32]; omega)) ?_
  refine RK.V (op_andU rfl rfl (by omega) (by omega)) ?_
  refine RK.As rfl ?_
  refine RK.D ?_
  refine ⟨(s &&& (s - 1), l ++ [(k : Int)]), lsI_next hI hlow (by omega), and_pred_lt hlow.pos, le_stL ⟨.refl _, .refl _, trivial⟩ ⟨rfl, trivial⟩⟩
 ·have hb1_ := of_decide_eq_false hb1
  have hs0 : s = 0 := by omega
  have hll : l = lsB m := by have h2 := hI.2.1; rw [hs0, lsB_zero, List.append_nil] at h2; exact h2
  rw [hll]
  refine AWp_exit ?_
  refine AWp_sr hP ?_
  refine RK.V (op_move (rfl : _ = AV.vec _)) ?_
  refine RK.V (op_assign (rfl : _ = AV.vec _)) ?_
  refine RK.D ?_
  refine AWp_ret ?_
  refine ⟨.inr rfl, _, _, rfl, rfl, ?_⟩
  exact rfl
theorem p_list (m : Nat) (hm : m < 4294967296) : Call0 Tryz.prog 45 [U m] (.p (.c (SL enZ (lsB m)))) := (p_listV m hm).call0 (n := (lsB m).length) rfl (flat_len enZ_len _).symm Nat.zero_lt_one
/- algorist/hypothesis.Grant -/
set_option maxHeartbeats 1000000 in
set_option maxRecDepth 100000 in
theorem p_Grant (b : Book) (n : Int) (ho : hok b.2) :
  Call0 Tryz.prog 57 [.p (.a (enBk b)), Z n] (.t [.a (enBk (grantB b n)), .c (.v (.int .i64 (grantE n)))]) := by
 refine callM_of (np := 0) Tryz.func57 (by kernel_rfl) rfl rfl (Nat.le_of_ble_eq_true rfl) (fun m h => absurd rfl h) (fun m h => absurd rfl h) rfl ?_
 refine AWp_sr hP ?_
 refine RK.alc guard_none (op_box rfl rfl) ?_
 refine RK.alc guard_none (op_alloc hT rfl rfl) ?_
 refine RK.As rfl ?_
 refine RK.D ?_
 refine AWp_seq ?_
 refine AWp_sr hP ?_
 refine RK.M rfl ?_
 refine RK.V (Eff.call0 (p_hyp n)) ?_
 refine RK.V (op_unot rfl) ?_
 refine RK.D ?_
 refine AWp_cond rfl (fun hb1 => ?_) (fun hb1 => ?_)
 ·have hb1_ := (notT hb1)
  have hh : hypB n = false := notT hb1
  refine AWp_sr hP ?_
  refine RK.V (op_build_st hT rfl rfl rfl (es := [_, _]) rfl) ?_
  refine RK.S hT rfl rfl rfl rfl rfl rfl rfl ?_
  refine RK.As rfl ?_
  refine RK.D ?_
  refine AWp_ret ?_
  refine ends_two rfl (.inr rfl) (res_cell_agg hT rfl rfl rfl rfl (cs := [_, _]) rfl rfl) (res_tmp rfl) ?_ O_ends
  exact Sub.of_eq (by rw [grant_n hh, grantE_n hh]; rfl)
 ·have hb1_ := (notF hb1)
  have hh : hypB n = true := notF hb1
  have hn := hyp_rg hh
  refine AWp_skip ?_
  refine AWp_sr hP ?_
  refine RK.F hT rfl rfl rfl rfl rfl rfl ?_
  refine RK.V (op_load_one hT rfl rfl rfl rfl (by first | rfl | exact vget (by omega))) ?_
  refine RK.V (Eff.call0 (p_bitsOf b.2 ho)) ?_
  refine RK.M rfl ?_
  refine RK.V (op_bit rfl rfl hn) ?_
  refine RK.V (op_orU rfl rfl (bm_lt ho) (bit_lt hn)) ?_
  refine RK.V (Eff.call0 (p_list _ (lt17 (or17 (bm_lt ho) (bit_lt hn))))) ?_
  refine RK.F hT rfl rfl rfl rfl rfl rfl ?_
  refine RK.S hT rfl rfl rfl rfl rfl rfl rfl ?_
  refine RK.D ?_
  refine AWp_sr hP ?_
  refine RK.G2 hT rfl rfl rfl rfl rfl rfl ?_
  refine RK.S hT rfl rfl rfl rfl rfl rfl rfl ?_
  refine RK.As rfl ?_
  refine RK.D ?_
  refine AWp_ret ?_
  refine ends_two rfl (.inr rfl) (res_cell_agg hT rfl rfl rfl rfl (cs := [_, _]) rfl rfl) (res_tmp rfl) ?_ O_ends
  exact Sub.of_eq (by rw [grant_y hh, grantE_y hh])
/- algorist/hypothesis.Withdraw -/
set_option maxHeartbeats 1000000 in
set_option maxRecDepth 100000 in
theorem p_Withdraw (b : Book) (n : Int) (ho : hok b.2) :
  Call0 Tryz.prog 58 [.p (.a (enBk b)), Z n] (.t [.a (enBk (withdrawB b n)), .c (.v (.int .i64 (grantE n)))]) := by
 refine callM_of (np := 0) Tryz.func58 (by kernel_rfl) rfl rfl (Nat.le_of_ble_eq_true rfl) (fun m h => absurd rfl h) (fun m h => absurd rfl h) rfl ?_
 refine AWp_sr hP ?_
 refine RK.alc guard_none (op_box rfl rfl) ?_
 refine RK.alc guard_none (op_alloc hT rfl rfl) ?_
 refine RK.As rfl ?_
 refine RK.D ?_
 refine AWp_seq ?_
 refine AWp_sr hP ?_
 refine RK.M rfl ?_
 refine RK.V (Eff.call0 (p_hyp n)) ?_
 refine RK.V (op_unot rfl) ?_
 refine RK.D ?_
 refine AWp_cond rfl (fun hb1 => ?_) (fun hb1 => ?_)
 ·have hb1_ := (notT hb1)
  have hh : hypB n = false := notT hb1
  refine AWp_sr hP ?_
  refine RK.V (op_build_st hT rfl rfl rfl (es := [_, _]) rfl) ?_
  refine RK.S hT rfl rfl rfl rfl rfl rfl rfl ?_
  refine RK.As rfl ?_
  refine RK.D ?_
  refine AWp_ret ?_
  refine ends_two rfl (.inr rfl) (res_cell_agg hT rfl rfl rfl rfl (cs := [_, _]) rfl rfl) (res_tmp rfl) ?_ O_ends
  exact Sub.of_eq (by rw [withdraw_n hh, grantE_n hh]; rfl)
 ·have hb1_ := (notF hb1)
  have hh : hypB n = true := notF hb1
  have hn := hyp_rg hh
  refine AWp_skip ?_
  refine AWp_sr hP ?_
  refine RK.F hT rfl rfl rfl rfl rfl rfl ?_
  refine RK.V (op_load_one hT rfl rfl rfl rfl (by first | rfl | exact vget (by omega))) ?_
  refine RK.V (Eff.call0 (p_bitsOf b.2 ho)) ?_
  refine RK.M rfl ?_
  refine RK.V (op_bit rfl rfl hn) ?_
  refine RK.V (op_andNotN rfl rfl) ?_
  refine RK.V (Eff.call0 (p_list _ (andN_lt _ _))) ?_
  refine RK.F hT rfl rfl rfl rfl rfl rfl ?_
  refine RK.S hT rfl rfl rfl rfl rfl rfl rfl ?_
  refine RK.D ?_
  refine AWp_sr hP ?_
  refine RK.G2 hT rfl rfl rfl rfl rfl rfl ?_
  refine RK.S hT rfl rfl rfl rfl rfl rfl rfl ?_
  refine RK.As rfl ?_
  refine RK.D ?_
  refine AWp_ret ?_
  refine ends_two rfl (.inr rfl) (res_cell_agg hT rfl rfl rfl rfl (cs := [_, _]) rfl rfl) (res_tmp rfl) ?_ O_ends
  exact Sub.of_eq (by rw [withdraw_y hh, grantE_y hh])
end Go.Proofs.YtmoaoiakmmbpoaaGreatDoor
end

section
/- slices.Insert and slices.Delete of derivations, out of their code. -/
namespace Go.Proofs.YtmoaoiakmmbpoaaGreatDoor
open Go Go.AM Go.RowKit Go.Lib
set_option maxHeartbeats 4000000 in
set_option maxRecDepth 100000 in
theorem ins_shift (b c i vb vc n : Nat) (cs vs : List Value) (w : World) (hi : i < n) (hn0 : n ≤ 1000000) (hroom : n + 1 ≤ c) (hvb : vb ≠ b)
  (hcl : cs.length = n * 3) (hvl : vs.length = 3)
  (hcs : ∀ j v, cs[j]? = some v → w.cell? ⟨b, j, none⟩ = some v) (hsp : ∀ j, j < (n + 1) * 3 → (w.cell? ⟨b, j, none⟩).isSome = true) (hfz : ∀ j, w.frozen? ⟨b, j, none⟩ = false)
  (hvs : ∀ j v, vs[j]? = some v → w.cell? ⟨vb, j, none⟩ = some v) (h1c : ∀ v ∈ cs, v.oneCell' = true) (h1v : ∀ v ∈ vs, v.oneCell' = true)
  (tA tB : TypeId) (kA kB : Nat) (hsa : w.shape? vb = some (tA, kA)) (hsb : w.shape? b = some (tB, kB)) (hkB : kB ≠ 0) (hfa : w.frozen? ⟨vb, 0, none⟩ = false) (hfe : w.frozen? ⟨vb, kA, none⟩ = false) :
  Calls Tryz.prog 86 #[.slice (some ⟨b, 0, none⟩) n c, .int .i64 i, .slice (some ⟨vb, 0, none⟩) 1 vc] w fun e w' =>
   e = .returned (.slice (some ⟨b, 0, none⟩) (n + 1) c) ∧ w' = (w.drew.setCells b ((i + 1) * 3) (cs.drop (i * 3))).setCells b (i * 3) vs := by
 have hz2 : ¬ ((i : Int) = (n : Int)) := by omega
 have hsz : (Tryz.prog.info? 45).map (·.size) = some 3 := by kernel_rfl
 have hov : ∀ lb cb, (callFunc 117 #[.slice (some ⟨vb, 0, none⟩) 1 vc, .slice (some ⟨b, (i + 1) * 3, none⟩) lb cb]).run Tryz.prog w = .ok (.value (.bool false)) w := fun lb cb => by
  rw [run_callFunc_extern Tryz.func117 (by kernel_rfl) (by kernel_rfl) (by kernel_rfl) (e := Extern.SlicesOverlaps.overlaps #[24, 24] #[4]) (by kernel_rfl),
   Lib.run_overlaps_apart w 24 4 45 Tryz.underlying24 3 Tryz.sizeOf45 ⟨vb, 0, none⟩ ⟨b, (i + 1) * 3, none⟩ 1 vc lb cb hvb tA tB kA kB hsa hsb hkB hfa hfe]
  rfl
 have hdl : (cs.drop (i * 3)).length = (n - i) * 3 := by rw [List.length_drop, hcl]; omega
 have hb4 : ¬ (c = i) := by omega
 have hw1 : IntKind.i64.wrap ((i : Int) + 1) = (i : Int) + 1 := by rw [IntKind.wrap_i64]; omega
 have hb1 : (0 : Int) ≤ (i : Int) + 1 := by omega
 have htn : ((i : Int) + 1).toNat = i + 1 := by omega
 have hb3 : (i : Int) + 1 ≤ (n : Int) + 1 := by omega
 have hb5 : (i : Int) ≤ (n : Int) + 1 := by omega
 have hb2 : ¬ (c = i + 1) := by omega
 have hcp1 : ∀ ty dc sc, (Builtin.copy_ #[24, 24] ty #[.slice (some ⟨b, (i + 1) * 3, none⟩) (n - i) dc, .slice (some ⟨b, i * 3, none⟩) (n + 1 - i) sc]).run Tryz.prog w.drew = .ok (goInt (Nat.min (n + 1 - i) (n - i))) (w.drew.setCells b ((i + 1) * 3) (cs.drop (i * 3))) := fun ty dc sc =>
  run_copyK w.drew _ _ ty 45 3 b ((i + 1) * 3) (n - i) dc ⟨b, i * 3, none⟩ (n + 1 - i) sc (cs.drop (i * 3)) Tryz.underlying24 hsz (by rw [hdl]; simp only [Nat.min_def]; split <;> omega)
   (fun j v hj => by rw [Addr.add_lit]; exact hcs (i * 3 + j) v (by rwa [List.getElem?_drop] at hj))
   (fun j hj => hsp _ (by rw [hdl] at hj; omega)) (fun j hj => hfz _) (fun v hv => h1c v (List.mem_of_mem_drop hv))
 obtain ⟨W1, hW1⟩ : ∃ W1, W1 = w.drew.setCells b ((i + 1) * 3) (cs.drop (i * 3)) := ⟨_, rfl⟩
 have hsp1 : ∀ k, k < (n + 1) * 3 → (W1.cell? ⟨b, k, none⟩).isSome = true := fun k hk => by
  rw [hW1]
  exact isSome_setCells b _ _ w.drew (fun j hj => hsp ((i + 1) * 3 + j) (by rw [hdl] at hj; omega)) _ (hsp k hk)
 have hcp2 : ∀ (W : World), (∀ x, W.cell? x = W1.cell? x) → (∀ x, W.frozen? x = W1.frozen? x) → ∀ ty dc, (Builtin.copy_ #[24, 24] ty #[.slice (some ⟨b, i * 3, none⟩) (n + 1 - i) dc, .slice (some ⟨vb, 0, none⟩) 1 vc]).run Tryz.prog W = .ok (goInt (Nat.min 1 (n + 1 - i))) (W.setCells b (i * 3) vs) := fun W hWc hWf ty dc =>
  run_copyK W _ _ ty 45 3 b (i * 3) (n + 1 - i) dc ⟨vb, 0, none⟩ 1 vc vs Tryz.underlying24 hsz (by rw [hvl]; simp only [Nat.min_def]; split <;> omega)
   (fun j v hj => by
    rw [Addr.add_lit, hWc, hW1, World.cell?_setCells_out b _ _ _ _ (fun h _ => absurd h hvb), Nat.zero_add]
    exact hvs j v hj)
   (fun j hj => by rw [hWc]; exact hsp1 _ (by omega)) (fun j hj => by rw [hWf, hW1, World.frozen?_setCells]; exact hfz _) h1v
 rw [← hW1] at hcp1
 have mixed : Tryz.prog.follows .mixedOrders = true := by kernel_rfl
 go_enter Tryz.func86, Tryz.ntmps86
 go_wp2_with (simp only [hov])
 go_region_law_o (refine step_copy_runI rfl _ _ 24 24 rfl _ _ (by simp [Act.eval, Act.put]) (by simp [Act.eval, Act.put]) (hcp1 _ _ _) ?_)
 go_wp2_with (at_builtin; refine wpList_copy_runI _ rfl _ _ 24 24 rfl _ _ rfl rfl (hcp2 _ (fun _ => rfl) (fun _ => rfl) _ _) ?_)
 go_ret
 first | exact ⟨rfl, rfl⟩ | exact ⟨rfl, by rw [hW1]⟩
set_option maxHeartbeats 4000000 in
set_option maxRecDepth 100000 in
theorem ins_grow (b c i vb vc n : Nat) (cs vs : List Value) (w : World) (hi : i < n) (hnc : n ≤ c) (hroom : c < n + 1) (hbig : (n + 1) * 64 ≤ 140737488355328)
  (hcl : cs.length = n * 3) (hvl : vs.length = 3)
  (hcs : ∀ j v, cs[j]? = some v → w.cell? ⟨b, j, none⟩ = some v) (hvs : ∀ j v, vs[j]? = some v → w.cell? ⟨vb, j, none⟩ = some v) (h1c : ∀ v ∈ cs, v.oneCell' = true) (h1v : ∀ v ∈ vs, v.oneCell' = true) :
  ∃ (G : Nat) (ROW : Array Value), n + 1 ≤ G ∧ ROW.size = G * 3 ∧ (∀ j, j < i * 3 → ROW[j]? = cs[j]?) ∧
  Calls Tryz.prog 86 #[.slice (some ⟨b, 0, none⟩) n c, .int .i64 i, .slice (some ⟨vb, 0, none⟩) 1 vc] w fun e w' =>
   e = .returned (.slice (some ⟨w.heap.size, 0, none⟩) (n + 1) G) ∧ w' = (((w.alloc (.cells ROW 45)).drew.setCells w.heap.size (i * 3) vs).drew).setCells w.heap.size ((i + 1) * 3) (cs.drop (i * 3)) := by
 have mixed : Tryz.prog.follows .mixedOrders = true := by kernel_rfl
 obtain ⟨i0, hi0, hz0, hzs, hzb⟩ : ∃ i0, Tryz.prog.info? 45 = some i0 ∧ i0.zero = some (.agg #[.string ⟨#[]⟩, .slice none 0 0, .slice none 0 0]) ∧ i0.size = 3 ∧ i0.bytes = 64 := by
  have h1 : (Tryz.prog.info? 45).bind (fun x => x.zero) = some (.agg #[.string ⟨#[]⟩, .slice none 0 0, .slice none 0 0]) := by kernel_rfl
  have h2 : (Tryz.prog.info? 45).map (·.size) = some 3 := by kernel_rfl
  have h3 : (Tryz.prog.info? 45).map (·.bytes) = some 64 := by kernel_rfl
  cases h : Tryz.prog.info? 45 with
  | none => rw [h] at h2; cases h2
  | some i0 =>
   rw [h] at h1 h2 h3
   exact ⟨i0, rfl, h1, Option.some.inj h2, Option.some.inj h3⟩
 have hz2 : ¬ ((i : Int) = (n : Int)) := by omega
 have hz3 : (c : Int) < (n : Int) + 1 := by omega
 have hsz : (Tryz.prog.info? 45).map (·.size) = some 3 := by rw [hi0]; simp [hzs]
 have hbw : b < w.heap.size := block_lt_of_cell (hcs 0 _ (List.getElem?_eq_getElem (by omega)))
 have hvw : vb < w.heap.size := block_lt_of_cell (hvs 0 _ (List.getElem?_eq_getElem (by omega)))
 have hkk : (n : Int) + 1 - (i : Int) = ((n + 1 - i : Nat) : Int) := by omega
 have hik : i + (n + 1 - i) = n + 1 := by omega
 have hold : (Builtin.firstCells i0.size i (.slice (some ⟨b, 0, none⟩) i c)).run Tryz.prog w.drew = .ok (cs.take (i * 3)).toArray w.drew := by
  rw [hzs]
  exact run_firstCells_some w.drew 3 i ⟨b, 0, none⟩ i c (cs.take (i * 3)) (by rw [List.length_take]; omega) (fun j v hj => by
   rw [Addr.add_lit, Nat.zero_add]
   rw [List.getElem?_take] at hj
   split at hj
   ·exact hcs j v hj
   ·cases hj)
 have hrz : ∀ ty, (Builtin.append_ #[24, 3] ty #[.slice (some ⟨b, 0, none⟩) i c, .int .i64 ((n : Int) + 1 - (i : Int))]).run Tryz.prog w =
   .ok (.slice (some ⟨w.heap.size, 0, none⟩) (n + 1) (grownCap w (n + 1) c 45)) (w.drew.alloc (.cells ((cs.take (i * 3)).toArray ++ Builtin.zeroCells (Value.agg #[.string ⟨#[]⟩, .slice none 0 0, .slice none 0 0]).cells (n + 1 - i) ++ Builtin.zeroCells (Value.agg #[.string ⟨#[]⟩, .slice none 0 0, .slice none 0 0]).cells (grownCap w (n + 1) c 45 - (n + 1))) 45)) := fun ty => by
  have h := Lib.run_append_grow_zeros w 24 3 ty 45 i0 _ .i64 .i64 Tryz.underlying24 Tryz.underlying3 hi0 hz0 (some ⟨b, 0, none⟩) i c (cs.take (i * 3)) hold (n + 1 - i) (by omega) (by omega) (by omega) (by omega) (by rw [hzb]; omega) (by rw [hzb, hik]; exact growslice_fits hroom hbig)
  rw [hik] at h
  rw [hkk]
  exact h
 obtain ⟨G, hG⟩ : ∃ G, G = grownCap w (n + 1) c 45 := ⟨_, rfl⟩
 obtain ⟨ROW, hROW⟩ : ∃ ROW : Array Value, ROW = (cs.take (i * 3)).toArray ++ Builtin.zeroCells (Value.agg #[.string ⟨#[]⟩, .slice none 0 0, .slice none 0 0]).cells (n + 1 - i) ++ Builtin.zeroCells (Value.agg #[.string ⟨#[]⟩, .slice none 0 0, .slice none 0 0]).cells (G - (n + 1)) := ⟨_, rfl⟩
 rw [← hG] at hrz
 rw [← hROW] at hrz
 have hGn : n + 1 ≤ G := by rw [hG]; exact grownCap_ge w _ _ _
 have hRs : ROW.size = G * 3 := by
  rw [hROW]
  simp only [Array.size_append, List.size_toArray, List.length_take, size_zeroCells, Value.cells]
  rw [Nat.min_eq_left (by omega)]
  show i * 3 + (n + 1 - i) * 3 + (G - (n + 1)) * 3 = _
  omega
 have hRl : (n + 1) * 3 ≤ ROW.size := by omega
 have hRt : ∀ j, j < i * 3 → ROW[j]? = cs[j]? := fun j hj => by
  rw [hROW, Array.getElem?_append_left (by simp only [Array.size_append, List.size_toArray, List.length_take, Nat.min_eq_left (show i * 3 ≤ cs.length by omega)]; omega), Array.getElem?_append_left (by simp only [List.size_toArray, List.length_take]; omega), List.getElem?_toArray, List.getElem?_take, if_pos hj]
 obtain ⟨W1, hW1⟩ : ∃ W1, W1 = w.drew.alloc (.cells ROW 45) := ⟨_, rfl⟩
 rw [← hW1] at hrz
 have hN : ∀ j, j < (n + 1) * 3 → (W1.cell? ⟨w.heap.size, j, none⟩).isSome = true := fun j hj => by
  rw [hW1, World.cell?_alloc_at (w := w.drew) ROW _ w.heap.size j rfl, Array.getElem?_eq_getElem (by omega)]; rfl
 have hNf : ∀ j, W1.frozen? ⟨w.heap.size, j, none⟩ = false := fun j => by rw [hW1]; exact World.frozen?_alloc_at (w := w.drew) ROW _ w.heap.size j rfl
 have hOb : ∀ j v, w.cell? ⟨b, j, none⟩ = some v → W1.cell? ⟨b, j, none⟩ = some v := fun j v h => by rw [hW1, World.cell?_alloc_past (w := w.drew) _ b j hbw]; exact h
 have hOv : ∀ j v, w.cell? ⟨vb, j, none⟩ = some v → W1.cell? ⟨vb, j, none⟩ = some v := fun j v h => by rw [hW1, World.cell?_alloc_past (w := w.drew) _ vb j hvw]; exact h
 have hcpA : ∀ (W : World), (∀ x, W.cell? x = W1.cell? x) → (∀ x, W.frozen? x = W1.frozen? x) → ∀ ty dc, (Builtin.copy_ #[24, 24] ty #[.slice (some ⟨w.heap.size, i * 3, none⟩) (n + 1 - i) dc, .slice (some ⟨vb, 0, none⟩) 1 vc]).run Tryz.prog W = .ok (goInt (Nat.min 1 (n + 1 - i))) (W.setCells w.heap.size (i * 3) vs) := fun W hWc hWf ty dc =>
  run_copyK W _ _ ty 45 3 w.heap.size (i * 3) (n + 1 - i) dc ⟨vb, 0, none⟩ 1 vc vs Tryz.underlying24 hsz (by rw [hvl]; simp only [Nat.min_def]; split <;> omega)
   (fun j v hj => by rw [Addr.add_lit, hWc, Nat.zero_add]; exact hOv _ v (hvs j v hj))
   (fun j hj => by rw [hWc]; exact hN _ (by omega)) (fun j hj => by rw [hWf]; exact hNf _) h1v
 have hG63 : G ≤ 9223372036854775807 := by
  have := grownCap_le_maxLen w (n + 1) c 45 (by unfold maxLen; omega)
  rw [← hG] at this
  unfold maxLen at this
  omega
 have hGi : ¬ (G = i) := by omega
 have hGim : ¬ (G = i + 1) := by omega
 have hci : ¬ (c = i) := by omega
 have hbN : b ≠ w.heap.size := by omega
 have hdl : (cs.drop (i * 3)).length = (n - i) * 3 := by rw [List.length_drop, hcl]; omega
 have hcpB : ∀ (W : World), (∀ x, W.cell? x = (W1.setCells w.heap.size (i * 3) vs).cell? x) → (∀ x, W.frozen? x = (W1.setCells w.heap.size (i * 3) vs).frozen? x) → ∀ ty dc sc, (Builtin.copy_ #[24, 24] ty #[.slice (some ⟨w.heap.size, (i + 1) * 3, none⟩) (n - i) dc, .slice (some ⟨b, i * 3, none⟩) (n - i) sc]).run Tryz.prog W = .ok (goInt (Nat.min (n - i) (n - i))) (W.setCells w.heap.size ((i + 1) * 3) (cs.drop (i * 3))) := fun W hWc hWf ty dc sc =>
  run_copyK W _ _ ty 45 3 w.heap.size ((i + 1) * 3) (n - i) dc ⟨b, i * 3, none⟩ (n - i) sc (cs.drop (i * 3)) Tryz.underlying24 hsz (by rw [hdl]; simp only [Nat.min_def]; split <;> omega)
   (fun j v hj => by
    rw [Addr.add_lit, hWc, World.cell?_setCells_out _ _ _ _ _ (fun h _ => absurd h hbN)]
    exact hOb _ v (hcs (i * 3 + j) v (by rwa [List.getElem?_drop] at hj)))
   (fun j hj => by rw [hWc]; exact isSome_setCells _ _ _ W1 (fun t ht => hN (i * 3 + t) (by omega)) _ (hN _ (by omega)))
   (fun j hj => by rw [hWf, World.frozen?_setCells]; exact hNf _) (fun v hv => h1c v (List.mem_of_mem_drop hv))
 refine ⟨G, ROW, hGn, hRs, hRt, ?_⟩
 subst hW1
 have hE1 : ∀ x, ((w.alloc (.cells ROW 45)).drew).cell? x = (w.drew.alloc (.cells ROW 45)).cell? x := fun x => rfl
 have hE2 : ∀ x, ((w.alloc (.cells ROW 45)).drew).frozen? x = (w.drew.alloc (.cells ROW 45)).frozen? x := fun x => rfl
 have hF1 : ∀ x, (((w.alloc (.cells ROW 45)).drew.setCells w.heap.size (i * 3) vs).drew).cell? x = ((w.drew.alloc (.cells ROW 45)).setCells w.heap.size (i * 3) vs).cell? x := fun x => rfl
 have hF2 : ∀ x, (((w.alloc (.cells ROW 45)).drew.setCells w.heap.size (i * 3) vs).drew).frozen? x = ((w.drew.alloc (.cells ROW 45)).setCells w.heap.size (i * 3) vs).frozen? x := fun x => rfl
 have hw1 : IntKind.i64.wrap ((i : Int) + 1) = (i : Int) + 1 := by rw [IntKind.wrap_i64]; omega
 have hb1 : (0 : Int) ≤ (i : Int) + 1 := by omega
 have htn : ((i : Int) + 1).toNat = i + 1 := by omega
 have hb3 : (i : Int) ≤ (n : Int) := by omega
 have hb4 : (i : Int) + 1 ≤ (n : Int) + 1 := by omega
 have hb5 : (i : Int) ≤ (n : Int) + 1 := by omega
 clear hkk hik hold hROW hG hRl hRs hRt
 go_enter Tryz.func86, Tryz.ntmps86
 go_wp2_with (first
  | (at_builtin; refine Lib.wpList_append_run _ rfl _ _ _ _ rfl _ _ rfl rfl _ _ (hrz _) ?_)
  | (at_builtin; refine wpList_copy_runI _ rfl _ _ 24 24 rfl _ _ rfl rfl (hcpA _ hE1 hE2 _ _) ?_)
  | (at_builtin; refine wpList_copy_runI _ rfl _ _ 24 24 rfl _ _ rfl rfl (hcpB _ (fun _ => rfl) (fun _ => rfl) _ _ _) ?_))
 go_region_law_o (refine step_copy_runI rfl _ _ 24 24 rfl (.slice (some ⟨w.heap.size, (i + 1) * 3, none⟩) (n - i) (G - (i + 1))) (.slice (some ⟨b, i * 3, none⟩) (n - i) (c - i)) (by simp [Act.eval, Act.put]) (by simp [Act.eval, Act.put]) (hcpB _ hF1 hF2 3 (G - (i + 1)) (c - i)) ?_)
 go_wp2
 go_ret
 exact ⟨rfl, rfl⟩
end Go.Proofs.YtmoaoiakmmbpoaaGreatDoor
end

section
/- chapter 30: slices of derivations: Insert, Delete, Clone -/
namespace Go.Proofs.YtmoaoiakmmbpoaaGreatDoor
open Go Go.AM
/- slices.Insert[[]algorist/api.Derivation,algorist/api.Derivation] -/
set_option maxHeartbeats 1000000 in
set_option maxRecDepth 100000 in
theorem p_InsertE (l : List Drv) (d : Drv) (hl : l.length ≤ 1000000) :
  CallX Tryz.prog 86 [.vec 0, Z (l.length : Int), .vec 1] (ownB 0 1 (VB 3 45 enD l) (VB 3 45 enD [d])) (VB 3 45 enD (l ++ [d])) := by
 refine callX_of (np := 2) Tryz.func86 (by kernel_rfl) rfl rfl (Nat.le_of_ble_eq_true rfl) (o2_lk rfl rfl) ?_
 refine AWp_freezeG (encD := enD) (l := [d]) enD_len rfl (t := 2) rfl rfl ?_
 refine AWp_sr hP ?_
 refine RK.As rfl ?_
 refine RK.D ?_
 refine AWp_sr hP ?_
 refine RK.V (op_move (rfl : _ = AV.vec _)) ?_
 refine RK.M rfl ?_
 refine RK.V (op_slice_vecJ hT enD_len (by decide) (n := (l.length : Int)) rfl rfl rfl rfl rfl rfl (by omega)) ?_
 refine RK.D ?_
 refine AWp_sr hP ?_
 refine RK.M rfl ?_
 refine RK.V (op_len hT rfl rfl rfl rfl) ?_
 refine RK.As rfl ?_
 refine RK.D ?_
 refine AWp_seq ?_
 refine AWp_sr hP ?_
 refine RK.M rfl ?_
 refine RK.V (op_eql rfl rfl) ?_
 refine RK.D ?_
 refine AWp_cond_false rfl rfl ?_
 refine AWp_skip ?_
 refine AWp_sr hP ?_
 refine RK.V (op_move (rfl : _ = AV.vec _)) ?_
 refine RK.V (op_len_vecG hT enD_len (by decide) rfl rfl rfl rfl) ?_
 refine RK.As rfl ?_
 refine RK.D ?_
 refine AWp_seq ?_
 refine AWp_sr hP ?_
 refine RK.M rfl ?_
 refine RK.M rfl ?_
 refine RK.V (op_eql rfl rfl) ?_
 refine RK.D ?_
 refine AWp_cond_true rfl (beq_self_eq_true _) ?_
 refine AWp_sr hP ?_
 refine RK.V (op_move (rfl : _ = AV.vec _)) ?_
 refine RK.M rfl ?_
 refine RK.app guard_none (op_appendL hT enD_len (by decide) (l := l) (l' := [d]) rfl rfl rfl rfl rfl rfl rfl rfl (by simp only [List.length_singleton]; omega) (by decide) (by decide)) ?_
 refine RK.V (op_assign (rfl : _ = AV.vec _)) ?_
 refine RK.D ?_
 refine AWp_ret ?_
 refine ⟨.inr rfl, _, _, rfl, rfl, ?_⟩
 exact rfl
theorem p_Insert (l : List Drv) (d : Drv) (i : Nat) (hi : i ≤ l.length) (hl : l.length ≤ 1000000) {m0 m1 : Nat} (hm : m0 ≠ m1) :
  CallX Tryz.prog 86 [.vec m0, Z (i : Int), .vec m1] (ownB m0 m1 (VB 3 45 enD l) (VB 3 45 enD [d])) (VB 3 45 enD (l.take i ++ d :: l.drop i)) := by
 refine CallX.two ?_ rfl hm
 by_cases he : i = l.length
 ·subst he
  rw [List.take_length, List.drop_length]
  exact p_InsertE l d hl
 have hlt : i < l.length := by omega
 refine ⟨⟨_, Tryz.func86, by kernel_rfl, by kernel_rfl⟩, fun h r w cargs hra hbf => ?_⟩
 obtain ⟨xs, hxs⟩ : ∃ xs, cargs.toList = xs := ⟨_, rfl⟩
 rw [hxs] at hra
 match xs, hra with
 | [x0, x1, x2], hra =>
 obtain ⟨a0, a1, a2, _⟩ := hra
 have hca : cargs = #[x0, x1, x2] := by rw [← Array.toArray_toList (xs := cargs), hxs]
 have b0 := hbf.ow 0 _ (ownB_fst (by decide))
 have b1 := hbf.ow 1 _ ownB_snd
 have hlen : (l.flatMap enD).length = l.length * 3 := flat_len enD_len l
 obtain ⟨b, n, c, cc, cs, e0, e1, e2, e3, e4, e5, e6, e7, e8, e9, e10⟩ := vec_cells (by decide) (by intro q; rw [q] at hlen; simp at hlen; omega) b0
 obtain ⟨vb, vn, vc, vcc, vs, f0, f1, f2, f3, f4, f5, f6, f7, f8, f9, f10⟩ := vec_cells (by decide) (by simp) b1
 rw [hlen] at e1 e7
 have hn : n = l.length := by omega
 subst hn
 have hvn : vn = 1 := by simp at f1; omega
 subst hvn
 have g0 : x0 = .slice (some ⟨b, 0, none⟩) l.length c := (show x0 = r 0 from a0).trans e0
 have g1 : x1 = .int .i64 (i : Int) := rep_val a1
 have g2 : x2 = .slice (some ⟨vb, 0, none⟩) 1 vc := (show x2 = r 1 from a2).trans f0
 rw [hca, g0, g1, g2]
 have hk0 : hblk (r 0) = some b := by rw [e0]; simp only [hblk]; rw [if_neg (by omega)]
 have hk1 : hblk (r 1) = some vb := by rw [f0]; simp only [hblk]; rw [if_neg (by omega)]
 have hne : vb ≠ b := fun q => by
  have := hbf.inj 0 1 b (by rw [ownB_fst (by decide)]; simp) (by rw [ownB_snd]; simp) hk0 (by rw [hk1, q])
  cases this
 have hhb : h b = none := hbf.ho 0 b (by rw [ownB_fst (by decide)]; simp) hk0
 have hcl : cs.length = l.length * 3 := e7
 have hvl : vs.length = 3 := by rw [f7]; rfl
 have hcell : ∀ (j : Nat) (v : Value), cs[j]? = some v → w.cell? ⟨b, j, none⟩ = some v := fun j v hv => by
  have := e8 j v hv
  simp only [World.cell?, e5]; simpa using this
 have hcellv : ∀ (j : Nat) (v : Value), vs[j]? = some v → w.cell? ⟨vb, j, none⟩ = some v := fun j v hv => by
  have := f8 j v hv
  simp only [World.cell?, f5]; simpa using this
 have hbw : b < w.heap.size := (Array.getElem?_eq_some_iff.1 e5).1
 have hres : ((l.take i ++ d :: l.drop i).flatMap enD).length = (l.length + 1) * 3 := by
  rw [flat_len enD_len, List.length_append, List.length_cons, List.length_take, List.length_drop, Nat.min_eq_left (by omega)]
  congr 1; omega
 -- what the cells say, wherever they come to lie
 have fin : ∀ (c2 : Array Value), (∀ t, t < i * 3 → c2[t]? = cs[t]?) → (∀ t, t < 3 → c2[i * 3 + t]? = vs[t]?) → (∀ t, t < (l.length - i) * 3 → c2[(i + 1) * 3 + t]? = cs[i * 3 + t]?) →
   DReps h ((l.take i ++ d :: l.drop i).flatMap enD) fun t => c2[t]? := fun c2 h1 h2 h3 => by
  have el : l.flatMap enD = (l.take i).flatMap enD ++ (l.drop i).flatMap enD := by rw [← List.flatMap_append, List.take_append_drop]
  have elt : ((l.take i).flatMap enD).length = i * 3 := by rw [flat_len enD_len, List.length_take, Nat.min_eq_left (by omega)]
  rw [el] at e10
  rw [List.flatMap_append, List.flatMap_cons]
  refine DReps.split.2 ⟨(DReps.split.1 e10).1.congr fun t ht => h1 t (by rw [elt] at ht; exact ht), DReps.split.2 ⟨?_, ?_⟩⟩
  ·refine DReps.congr f10 fun t ht => ?_
   rw [elt]
   exact h2 t ht
  ·have eld : ((l.drop i).flatMap enD).length = (l.length - i) * 3 := by rw [flat_len enD_len, List.length_drop]
   refine (DReps.split.1 e10).2.congr fun t ht => ?_
   rw [elt]
   have := h3 t (by rw [eld] at ht; exact ht)
   rw [show i * 3 + ((enD d).length + t) = (i + 1) * 3 + t by rw [enD_len]; omega]
   exact this
 by_cases hroom : l.length + 1 ≤ c
 ·refine (ins_shift b c i vb vc l.length cs vs w hlt hl hroom hne hcl hvl hcell (fun j hj => ?_) (fun j => by simp [World.frozen?, e5]) hcellv e9 f9 45 45 vcc.size cc.size (by simp [World.shape?, f5]) (by simp [World.shape?, e5]) (by omega) (by simp [World.frozen?, f5]) (by simp [World.frozen?, f5])).mono ?_
  ·simp only [World.cell?, e5]; simp; omega
  ·rintro e w' ⟨rfl, rfl⟩
   obtain ⟨s1, c1, s2, s3, s4⟩ := setCells_block (w := w.drew) (k := b) e5 ((i + 1) * 3) (cs.drop (i * 3)) (by rw [List.length_drop, hcl, e6]; omega) (fun v hv => e9 v (List.mem_of_mem_drop hv))
   obtain ⟨t1, c2, t2, t3, t4⟩ := setCells_block s2 (i * 3) vs (by rw [hvl, s3, e6]; omega) f9
   have hsb : SameBut b w ((w.drew.setCells b ((i + 1) * 3) (cs.drop (i * 3))).setCells b (i * 3) vs) := (show SameBut b w w.drew from ⟨rfl, rfl, ⟨rfl, Nat.le_succ _⟩, rfl, fun _ _ => rfl⟩).trans (s1.trans t1)
   refine ⟨_, h, rfl, ?_, ?_, ?_⟩
   ·rw [BlkRep.slE rfl (Nat.zero_lt_succ 2)]
    refine ⟨_, l.length + 1, c, rfl, hres.symm, hroom, by omega, .inr ⟨b, c2, rfl, t2, by rw [t3, s3, e6], ?_⟩⟩
    refine fin c2 (fun t ht => ?_) (fun t ht => ?_) (fun t ht => ?_)
    ·rw [t4, if_neg (by omega), s4, if_neg (by omega), List.getElem?_eq_getElem (by omega)]
     exact e8 t _ (List.getElem?_eq_getElem (by omega))
    ·rw [t4, if_pos (by omega), Nat.add_sub_cancel_left]
    ·rw [t4, if_neg (by omega), s4, if_pos (by rw [List.length_drop]; omega), Nat.add_sub_cancel_left, List.getElem?_drop]
   ·intro k hk
    simp only [hblk] at hk
    rw [if_neg (by omega)] at hk
    cases hk
    exact ⟨.inr ⟨0, by rw [ownB_fst (by decide)]; simp, hk0⟩, hhb⟩
   ·refine ⟨fun m b e => (by cases e), fun m hm => absurd rfl hm, fun k ob hk => ?_, fun m k hm => absurd rfl hm, hsb.os, hsb.tape, hsb.output, by rw [hsb.size]; exact Nat.le_refl _, fun k h1 h2 => hsb.rest k fun q => h2 ⟨0, by rw [ownB_fst (by decide)]; simp, by rw [q]; exact hk0⟩, .refl _, fun k hk => .inl hk⟩
    rw [hsb.rest k fun q => by rw [q, hhb] at hk; cases hk]
    exact hbf.hi k ob hk
 ·obtain ⟨Gc, ROW, r1, r2, r3, r4⟩ := ins_grow b c i vb vc l.length cs vs w hlt e2 (by omega) (by omega) hcl hvl hcell hcellv e9 f9
  refine r4.mono ?_
  rintro e w' ⟨rfl, rfl⟩
  have hnew : ((w.alloc (.cells ROW 45)).drew).heap[w.heap.size]? = some (.cells ROW 45 (0, 0)) := by
   show (w.alloc (.cells ROW 45)).heap[w.heap.size]? = _
   rw [heap_alloc]; exact if_pos rfl
  obtain ⟨s1, c1, s2, s3, s4⟩ := setCells_block hnew (i * 3) vs (by rw [hvl, r2]; omega) f9
  obtain ⟨t1, c2, t2, t3, t4⟩ := setCells_block (w := ((w.alloc (.cells ROW 45)).drew.setCells w.heap.size (i * 3) vs).drew) s2 ((i + 1) * 3) (cs.drop (i * 3)) (by rw [List.length_drop, hcl, s3, r2]; omega) (fun v hv => e9 v (List.mem_of_mem_drop hv))
  have hsb : SameBut w.heap.size (w.alloc (.cells ROW 45)) (((w.alloc (.cells ROW 45)).drew.setCells w.heap.size (i * 3) vs).drew.setCells w.heap.size ((i + 1) * 3) (cs.drop (i * 3))) :=
   (show SameBut w.heap.size (w.alloc (.cells ROW 45)) (w.alloc (.cells ROW 45)).drew from ⟨rfl, rfl, ⟨rfl, Nat.le_succ _⟩, rfl, fun _ _ => rfl⟩).trans (s1.trans ((show SameBut w.heap.size ((w.alloc (.cells ROW 45)).drew.setCells w.heap.size (i * 3) vs) ((w.alloc (.cells ROW 45)).drew.setCells w.heap.size (i * 3) vs).drew from ⟨rfl, rfl, ⟨rfl, Nat.le_succ _⟩, rfl, fun _ _ => rfl⟩).trans t1))
  have hold : ∀ k, k < w.heap.size → (((w.alloc (.cells ROW 45)).drew.setCells w.heap.size (i * 3) vs).drew.setCells w.heap.size ((i + 1) * 3) (cs.drop (i * 3))).heap[k]? = w.heap[k]? := fun k hk => by
   rw [hsb.rest k (by omega), heap_alloc, if_neg (by omega)]
  refine ⟨_, h, rfl, ?_, ?_, ?_⟩
  ·rw [BlkRep.slE rfl (Nat.zero_lt_succ 2)]
   refine ⟨_, l.length + 1, Gc, rfl, hres.symm, r1, by omega, .inr ⟨w.heap.size, c2, rfl, t2, by rw [t3, s3, r2], ?_⟩⟩
   refine fin c2 (fun t ht => ?_) (fun t ht => ?_) (fun t ht => ?_)
   ·rw [t4, if_neg (by omega), s4, if_neg (by omega)]
    exact r3 t ht
   ·rw [t4, if_neg (by omega), s4, if_pos (by omega), Nat.add_sub_cancel_left]
   ·rw [t4, if_pos (by rw [List.length_drop]; omega), Nat.add_sub_cancel_left, List.getElem?_drop]
  ·intro k hk
   simp only [hblk] at hk
   rw [if_neg (by omega)] at hk
   cases hk
   refine ⟨.inl (Nat.le_refl _), ?_⟩
   cases q : h w.heap.size with
   | none => rfl
   | some ob =>
    have := (Array.getElem?_eq_some_iff.1 (hbf.hi _ _ q)).1
    omega
  ·have hsz : (w.alloc (.cells ROW 45)).heap.size = w.heap.size + 1 := World.size_alloc w _
   refine ⟨fun m b e => (by cases e), fun m hm => absurd rfl hm, fun k ob hk => ?_, fun m k hm => absurd rfl hm, hsb.os.trans rfl, hsb.tape.trans rfl, hsb.output, by rw [hsb.size, hsz]; exact Nat.le_succ _, fun k h1 _ => hold k h1, .refl _, fun k hk => .inl hk⟩
   have hk2 := hbf.hi k ob hk
   rw [hold k (Array.getElem?_eq_some_iff.1 hk2).1]; exact hk2
/- slices.Clone[[]algorist/api.Derivation,algorist/api.Derivation] -/
set_option maxHeartbeats 1000000 in
set_option maxRecDepth 100000 in
theorem p_CloneD (l : List Drv) (hl : l.length ≤ 1000000) :
  CallV Tryz.prog 87 [.p (.c (SL enD l))] (VB 3 45 enD l) := by
 refine callV_of Tryz.func87 (by kernel_rfl) rfl rfl (Nat.le_of_ble_eq_true rfl) ?_
 refine AWp_sr hP ?_
 refine RK.As rfl ?_
 refine RK.D ?_
 refine AWp_seq ?_
 refine AWp_sr hP ?_
 refine RK.M rfl ?_
 refine RK.V (op_eqnilU hT rfl rfl rfl) ?_
 refine RK.D ?_
 refine AWp_unk (t := 4) rfl (fun b hb => ?_)
 refine AWp_cond rfl (fun hb1 => ?_) (fun hb1 => ?_)
 ·have hl0 : l = [] := flat_nil enD_len (by decide) (hb hb1)
  subst hl0
  refine AWp_sr hP ?_
  refine RK.As rfl ?_
  refine RK.D ?_
  refine AWp_nilV 2 900 3 45 rfl rfl ?_
  refine AWp_ret ?_
  refine ⟨.inr rfl, _, _, rfl, rfl, ?_⟩
  exact rfl
 ·refine AWp_skip ?_
  refine AWp_sr hP ?_
  refine RK.alc guard_none (op_bslice_vec hT rfl rfl rfl (es := []) rfl rfl rfl) ?_
  refine RK.M rfl ?_
  refine RK.app guard_none (op_appendL hT enD_len (by decide) (l := []) (l' := l) rfl rfl rfl rfl rfl rfl rfl rfl (by simp only [List.length_nil]; omega) (by decide) (by decide)) ?_
  refine RK.V (op_assign (rfl : _ = AV.vec _)) ?_
  refine RK.D ?_
  refine AWp_ret ?_
  refine ⟨.inr rfl, _, _, rfl, rfl, ?_⟩
  exact rfl
end Go.Proofs.YtmoaoiakmmbpoaaGreatDoor
end

section
/- chapter 30: search, right books, Add, Remove -/
namespace Go.Proofs.YtmoaoiakmmbpoaaGreatDoor
open Go Go.AM
/- slices.BinarySearchFunc[[]algorist/api.Derivation,algorist/api.Derivation,algorist/api.Derivation] -/
set_option maxHeartbeats 1000000 in
set_option maxRecDepth 100000 in
theorem p_BS {gf : FuncId} {caps : List (List DV)} (cf : Drv → Int) (l : List Drv) (d : Drv) (n : Nat) (hc : ∀ x ∈ l, Call0 Tryz.prog gf ([.p (.a (enD x)), .p (.a (enD d))] ++ caps.map .ip) (Z (cf x))) (hC : Cut cf l n) :
  Call0 Tryz.prog 85 [.p (.c (SL enD l)), .p (.a (enD d)), .fn gf caps] (.t [.c (.v (.int .i64 (n : Int))), .c (.v (.bool (cutB cf l n)))]) := by
 refine callM_of (np := 0) Tryz.func85 (by kernel_rfl) rfl rfl (Nat.le_of_ble_eq_true rfl) (fun m h => absurd rfl h) (fun m h => absurd rfl h) rfl ?_
 refine AWp_len (t := 0) rfl rfl (fun hlen => ?_)
 refine AWp_sr hP ?_
 refine RK.alc guard_none (op_box rfl rfl) ?_
 refine RK.As rfl ?_
 refine RK.As rfl ?_
 refine RK.D ?_
 refine AWp_sr hP ?_
 refine RK.M rfl ?_
 refine RK.V (op_len hT rfl rfl rfl (by rfl)) ?_
 refine RK.As rfl ?_
 refine RK.D ?_
 refine AWp_sr hP ?_
 refine RK.M rfl ?_
 refine RK.As rfl ?_
 refine RK.As rfl ?_
 refine RK.D ?_
 refine AWp_seq ?_
 refine AWp_block ?_
 refine AWp_loop (ι := Nat × Nat) (fun q => stL [(0, .p (.c (SL enD l))), (2, .fn gf caps), (4, .loc 4 0), (8, Z (l.length : Int)), (9, Z ((q.1 : Nat) : Int)), (10, Z ((q.2 : Nat) : Int))] [(4, ⟨false, 1, 45, enD d⟩)]) (fun q => q.1 ≤ n ∧ n ≤ q.2 ∧ q.2 ≤ l.length) (fun q => q.2 - q.1) (0, l.length) ⟨Nat.zero_le _, hC.le, Nat.le_refl _⟩ (le_stL ⟨.refl _, .refl _, .refl _, .refl _, .refl _, .refl _, trivial⟩ ⟨rfl, trivial⟩) ?_
 intro q hq
 refine AWp_seq ?_
 refine AWp_sr hP ?_
 refine RK.M rfl ?_
 refine RK.M rfl ?_
 refine RK.V (op_lss rfl rfl) ?_
 refine RK.D ?_
 refine AWp_cond rfl (fun hb1 => ?_) (fun hb1 => ?_)
 ·have hb1_ := of_decide_eq_true hb1
  have hlt : q.1 < q.2 := by omega
  refine AWp_skip ?_
  refine AWp_block ?_
  refine AWp_sr hP ?_
  refine RK.M rfl ?_
  refine RK.M rfl ?_
  refine RK.V (op_add rfl rfl (by first | exact IntWalk.i64_in _ (by omega) | rfl)) ?_
  refine RK.V (op_conv hT rfl rfl rfl rfl (c := ((q.1 + q.2 : Nat) : Int)) (by rw [IntKind.wrap_u64]; omega)) ?_
  refine RK.V (op_shrN (m := q.1 + q.2) (j := 1) rfl rfl (by decide)) ?_
  refine RK.V (op_conv hT rfl rfl rfl rfl (c := (((q.1 + q.2) / 2 : Nat) : Int)) (by rw [IntKind.wrap_i64]; omega)) ?_
  refine RK.As rfl ?_
  refine RK.D ?_
  refine AWp_sr hP ?_
  refine RK.V (op_move (rfl : _ = AV.fn _ _)) ?_
  refine RK.M rfl ?_
  refine RK.M rfl ?_
  refine RK.V (op_indexG hT enD_len (by decide) zD (n := (((q.1 + q.2) / 2 : Nat) : Int)) (l := l) rfl rfl rfl rfl rfl rfl (by omega)) ?_
  refine RK.V (op_load_ip_agg hT rfl rfl rfl (cs := enD (l.getD ((q.1 + q.2) / 2) zD)) rfl rfl) ?_
  refine RK.V (op_load_agg hT rfl rfl rfl rfl (cs := enD d) rfl rfl) ?_
  refine RK.V (Eff.callFn rfl (hc _ (getD_mem' zD (by omega)))) ?_
  refine RK.V (op_lss rfl rfl) ?_
  refine RK.D ?_
  refine AWp_cond rfl (fun hb2 => ?_) (fun hb2 => ?_)
  ·have hb2_ := of_decide_eq_true hb2
   have hm := (hC.iff ((q.1 + q.2) / 2) (by omega)).1 (of_decide_eq_true hb2)
   refine AWp_region hP ?_
   refine RK.M rfl ?_
   refine RK.V (op_add rfl rfl (by first | exact IntWalk.i64_in _ (by omega) | rfl)) ?_
   refine RK.As rfl ?_
   refine RK.D ?_
   refine ⟨((q.1 + q.2) / 2 + 1, q.2), ⟨(by show (q.1 + q.2) / 2 + 1 ≤ n; omega), hq.2⟩, (by show q.2 - ((q.1 + q.2) / 2 + 1) < q.2 - q.1; omega), le_stL ⟨.refl _, .refl _, .refl _, .refl _, Sub.int (by show (((q.1 + q.2) / 2 : Nat) : Int) + 1 = (((q.1 + q.2) / 2 + 1 : Nat) : Int); omega), .refl _, trivial⟩ ⟨rfl, trivial⟩⟩
  ·have hb2_ := of_decide_eq_false hb2
   have hm : ¬ (q.1 + q.2) / 2 < n := fun z => of_decide_eq_false hb2 ((hC.iff ((q.1 + q.2) / 2) (by omega)).2 z)
   refine AWp_region hP ?_
   refine RK.M rfl ?_
   refine RK.As rfl ?_
   refine RK.D ?_
   refine ⟨(q.1, (q.1 + q.2) / 2), ⟨hq.1, (by show n ≤ (q.1 + q.2) / 2; omega), (by show (q.1 + q.2) / 2 ≤ l.length; omega)⟩, (by show (q.1 + q.2) / 2 - q.1 < q.2 - q.1; omega), le_stL ⟨.refl _, .refl _, .refl _, .refl _, .refl _, .refl _, trivial⟩ ⟨rfl, trivial⟩⟩
 ·have hb1_ := of_decide_eq_false hb1
  have he1 : q.1 = n := by omega
  rw [he1]
  refine AWp_exit ?_
  refine AWp_sr hP ?_
  refine RK.M rfl ?_
  refine RK.M rfl ?_
  refine RK.M rfl ?_
  refine RK.V (op_lss rfl rfl) ?_
  refine RK.M rfl ?_
  refine RK.split (t := 39) rfl (fun hg3 => ?_) (fun hg3 => ?_)
  ·have hg3_ := of_decide_eq_true hg3
   have hnl : n < l.length := by have := of_decide_eq_true hg3; omega
   refine RK.val (guard_yes rfl rfl hg3) (op_move (rfl : _ = AV.fn _ _)) ?_
   refine RK.val (guard_yes rfl rfl hg3) (op_move (rfl : _ = AV.p (.c _))) ?_
   refine RK.val (guard_yes rfl rfl hg3) (op_move (rfl : _ = AV.p (.c _))) ?_
   refine RK.val (guard_yes rfl rfl hg3) (op_indexG hT enD_len (by decide) zD (n := (n : Int)) (l := l) rfl rfl rfl rfl rfl rfl (by omega)) ?_
   refine RK.val (guard_yes rfl rfl hg3) (op_load_ip_agg hT rfl rfl rfl (cs := enD (l.getD n zD)) rfl rfl) ?_
   refine RK.val (guard_yes rfl rfl hg3) (op_load_agg hT rfl rfl rfl rfl (cs := enD d) rfl rfl) ?_
   refine RK.val (guard_yes rfl rfl hg3) (Eff.callFn rfl (hc _ (getD_mem' zD (by omega)))) ?_
   refine RK.val (guard_yes rfl rfl hg3) (op_eql rfl rfl) ?_
   refine RK.V (op_pick_t rfl hg3 (rfl : _ = AV.p (.c _))) ?_
   refine RK.As rfl ?_
   refine RK.As rfl ?_
   refine RK.D ?_
   refine AWp_ret ?_
   refine ends_two rfl (.inr rfl) (res_tmp rfl) (res_tmp rfl) ?_ O_ends
   exact Sub.of_eq (by rw [← cutB_y hnl])
  ·have hg3_ := of_decide_eq_false hg3
   have hnl : ¬ n < l.length := fun z => of_decide_eq_false hg3 (by omega)
   refine RK.skip (guard_no rfl rfl hg3) ?_
   refine RK.skip (guard_no rfl rfl hg3) ?_
   refine RK.skip (guard_no rfl rfl hg3) ?_
   refine RK.skip (guard_no rfl rfl hg3) ?_
   refine RK.skip (guard_no rfl rfl hg3) ?_
   refine RK.skip (guard_no rfl rfl hg3) ?_
   refine RK.skip (guard_no rfl rfl hg3) ?_
   refine RK.skip (guard_no rfl rfl hg3) ?_
   refine RK.V (op_pick_f rfl hg3 (rfl : _ = AV.p (.c _))) ?_
   refine RK.As rfl ?_
   refine RK.As rfl ?_
   refine RK.D ?_
   refine AWp_ret ?_
   refine ends_two rfl (.inr rfl) (res_tmp rfl) (res_tmp rfl) ?_ O_ends
   exact Sub.of_eq (by rw [← cutB_n hnl])
/- algorist/hypothesis.Right -/
set_option maxHeartbeats 2000000 in
set_option maxRecDepth 100000 in
theorem p_RightB (b : Book) :
  Call0 Tryz.prog 27 [.p (.a (enBk b))] (B (rightB b)) := by
 refine callM_of (np := 0) Tryz.func27 (by kernel_rfl) rfl rfl (Nat.le_of_ble_eq_true rfl) (fun m h => absurd rfl h) (fun m h => absurd rfl h) rfl ?_
 refine AWp_lenA 0 0 (n := b.1.length) rfl rfl (fun hlen => ?_)
 refine AWp_sr hP ?_
 refine RK.alc guard_none (op_box rfl rfl) ?_
 refine RK.As rfl ?_
 refine RK.D ?_
 refine AWp_seq ?_
 refine AWp_sr hP ?_
 refine RK.F hT rfl rfl rfl rfl rfl rfl ?_
 refine RK.V (op_load_one hT rfl rfl rfl rfl (by first | rfl | exact vget (by omega))) ?_
 refine RK.V (op_len hT rfl rfl rfl (by rfl)) ?_
 refine RK.M rfl ?_
 refine RK.D ?_
 refine AWp_block ?_
 refine AWp_loop (ι := Nat) (fun k => stL [(1, .loc 1 0), (6, .p (.c (SL enD b.1))), (7, Z (b.1.length : Int)), (8, Z (k : Int))] [(1, ⟨false, 1, 27, enBk b⟩)]) (fun k => RgI b.1 k) (fun k => b.1.length - k) 0 (RgI.start _) (le_stL ⟨.refl _, .refl _, .refl _, .refl _, trivial⟩ ⟨rfl, trivial⟩) ?_
 intro k hI
 have hkl := hI.1
 refine AWp_sr hP ?_
 refine RK.V (op_lss rfl rfl) ?_
 refine RK.D ?_
 refine AWp_seq ?_
 refine AWp_cond rfl (fun hb1 => ?_) (fun hb1 => ?_)
 ·have hb1_ := of_decide_eq_true hb1
  refine AWp_skip ?_
  refine AWp_seq ?_
  refine AWp_block ?_
  refine AWp_sr hP ?_
  refine RK.M rfl ?_
  refine RK.V (op_indexG hT enD_len (by decide) zD (n := (k : Int)) (l := b.1) rfl rfl rfl rfl rfl rfl (by omega)) ?_
  refine RK.V (op_load_ip_agg hT rfl rfl rfl (cs := enD (b.1.getD k zD)) rfl rfl) ?_
  refine RK.alc guard_none (op_alloc hT rfl rfl) ?_
  refine RK.As rfl ?_
  refine RK.S hT rfl rfl rfl rfl rfl rfl rfl ?_
  refine RK.D ?_
  refine AWp_sr hP ?_
  refine RK.V (op_load_agg hT rfl rfl rfl rfl (cs := enD (b.1.getD k zD)) rfl rfl) ?_
  refine RK.V (Eff.call0 (p_right (b.1.getD k zD))) ?_
  refine RK.V (op_unot rfl) ?_
  refine RK.M rfl ?_
  refine RK.split (t := 16) rfl (fun hg2 => ?_) (fun hg2 => ?_)
  ·have hg2_ := (notT hg2)
   have hr : rightD (b.1.getD k zD) = false := notT hg2
   refine RK.skip (guard_no rfl rfl hg2) ?_
   refine RK.skip (guard_no rfl rfl hg2) ?_
   refine RK.skip (guard_no rfl rfl hg2) ?_
   refine RK.skip (guard_sk rfl rfl) ?_
   refine RK.skip (guard_sk rfl rfl) ?_
   refine RK.skip (guard_sk rfl rfl) ?_
   refine RK.skip (guard_sk rfl rfl) ?_
   refine RK.skip (guard_sk rfl rfl) ?_
   refine RK.skip (guard_sk rfl rfl) ?_
   refine RK.skip (guard_sk rfl rfl) ?_
   refine RK.skip (guard_sk rfl rfl) ?_
   refine RK.skip (guard_sk rfl rfl) ?_
   refine RK.skip (guard_no rfl rfl hg2) ?_
   refine RK.V (op_pick_t rfl hg2 (rfl : _ = AV.p (.c _))) ?_
   refine RK.D ?_
   refine AWp_cond_true rfl rfl ?_
   refine AWp_sr hP ?_
   refine RK.As rfl ?_
   refine RK.D ?_
   refine AWp_ret ?_
   refine ends_one rfl (.inr rfl) (res_tmp rfl) ?_ O_ends
   exact Sub.bool (rgB_1 (by omega) hr)
  ·have hg2_ := (notF hg2)
   have hr : rightD (b.1.getD k zD) = true := notF hg2
   refine RK.val (guard_yes rfl rfl hg2) (op_move (rfl : _ = AV.p (.c _))) ?_
   refine RK.val (guard_yes rfl rfl hg2) (op_gtr rfl rfl) ?_
   refine RK.val (guard_yes rfl rfl hg2) (op_move (rfl : _ = AV.p (.c _))) ?_
   refine RK.split (t := 19) rfl (fun hg3 => ?_) (fun hg3 => ?_)
   ·have hg3_ := of_decide_eq_true hg3
    have hk1 : 1 ≤ k := by have := of_decide_eq_true hg3; omega
    refine RK.val (guard_yes rfl rfl hg3) (op_field_loc hT rfl rfl rfl rfl rfl rfl) ?_
    refine RK.val (guard_yes rfl rfl hg3) (op_load_one hT rfl rfl rfl rfl (by first | rfl | exact vget (by omega))) ?_
    refine RK.val (guard_yes rfl rfl hg3) (op_move (rfl : _ = AV.p (.c _))) ?_
    refine RK.val (guard_yes rfl rfl hg3) (op_sub rfl rfl (by first | exact IntWalk.i64_in _ (by omega) | rfl)) ?_
    refine RK.val (guard_yes rfl rfl hg3) (op_indexG hT enD_len (by decide) zD (n := ((k : Int) - 1)) (l := b.1) rfl rfl rfl rfl rfl rfl (by omega)) ?_
    refine RK.val (guard_yes rfl rfl hg3) (op_load_ip_agg hT rfl rfl rfl (cs := enD (b.1.getD ((k : Int) - 1).toNat zD)) rfl rfl) ?_
    refine RK.val (guard_yes rfl rfl hg3) (op_load_agg hT rfl rfl rfl rfl (cs := enD (b.1.getD k zD)) rfl rfl) ?_
    refine RK.val (guard_yes rfl rfl hg3) (Eff.call0 (p_compare (b.1.getD ((k : Int) - 1).toNat zD) (b.1.getD k zD))) ?_
    refine RK.val (guard_yes rfl rfl hg3) (op_geq rfl rfl) ?_
    refine RK.val (guard_yes rfl rfl hg2) (op_pick_t rfl hg3 (rfl : _ = AV.p (.c _))) ?_
    refine RK.V (op_pick_f rfl hg2 (rfl : _ = AV.p (.c _))) ?_
    refine RK.D ?_
    refine AWp_cond rfl (fun hb4 => ?_) (fun hb4 => ?_)
    ·have hb4_ := of_decide_eq_true hb4
     have hsub : ((k : Int) - 1).toNat = k - 1 := by omega
     have hcm : ¬ cmD (b.1.getD (k - 1) zD) (b.1.getD k zD) < 0 := by rw [← hsub]; have := of_decide_eq_true hb4; omega
     refine AWp_sr hP ?_
     refine RK.As rfl ?_
     refine RK.D ?_
     refine AWp_ret ?_
     refine ends_one rfl (.inr rfl) (res_tmp rfl) ?_ O_ends
     exact Sub.bool (rgB_2 hk1 (by omega) hcm)
    ·have hb4_ := of_decide_eq_false hb4
     have hsub : ((k : Int) - 1).toNat = k - 1 := by omega
     have hcm : cmD (b.1.getD (k - 1) zD) (b.1.getD k zD) < 0 := by rw [← hsub]; have := of_decide_eq_false hb4; omega
     refine AWp_skip ?_
     refine AWp_region hP ?_
     refine RK.V (op_add rfl rfl (by first | exact IntWalk.i64_in _ (by omega) | rfl)) ?_
     refine RK.M rfl ?_
     refine RK.D ?_
     refine ⟨k + 1, hI.next (by omega) hr fun _ => hcm, by omega, le_stL ⟨.refl _, .refl _, .refl _, Sub.int (by omega), trivial⟩ ⟨rfl, trivial⟩⟩
   ·have hg3_ := of_decide_eq_false hg3
    have hk0 : k = 0 := by have := of_decide_eq_false hg3; omega
    refine RK.skip (guard_no rfl rfl hg3) ?_
    refine RK.skip (guard_no rfl rfl hg3) ?_
    refine RK.skip (guard_no rfl rfl hg3) ?_
    refine RK.skip (guard_no rfl rfl hg3) ?_
    refine RK.skip (guard_no rfl rfl hg3) ?_
    refine RK.skip (guard_no rfl rfl hg3) ?_
    refine RK.skip (guard_no rfl rfl hg3) ?_
    refine RK.skip (guard_no rfl rfl hg3) ?_
    refine RK.skip (guard_no rfl rfl hg3) ?_
    refine RK.val (guard_yes rfl rfl hg2) (op_pick_f rfl hg3 (rfl : _ = AV.p (.c _))) ?_
    refine RK.V (op_pick_f rfl hg2 (rfl : _ = AV.p (.c _))) ?_
    refine RK.D ?_
    refine AWp_cond_false rfl rfl ?_
    refine AWp_skip ?_
    refine AWp_region hP ?_
    refine RK.V (op_add rfl rfl (by first | exact IntWalk.i64_in _ (by omega) | rfl)) ?_
    refine RK.M rfl ?_
    refine RK.D ?_
    refine ⟨k + 1, hI.next (by omega) hr fun z => absurd z (by omega), by omega, le_stL ⟨.refl _, .refl _, .refl _, Sub.int (by omega), trivial⟩ ⟨rfl, trivial⟩⟩
 ·have hb1_ := of_decide_eq_false hb1
  have hR : rightL b.1 = true := RgI.done ((show k = b.1.length by omega) ▸ hI)
  refine AWp_exit ?_
  refine AWp_sr hP ?_
  refine RK.F hT rfl rfl rfl rfl rfl rfl ?_
  refine RK.V (op_load_one hT rfl rfl rfl rfl (by first | rfl | exact vget (by omega))) ?_
  refine RK.V (op_len hT rfl rfl rfl (by rfl)) ?_
  refine RK.V (op_leq rfl rfl) ?_
  refine RK.M rfl ?_
  refine RK.split (t := 36) rfl (fun hg5 => ?_) (fun hg5 => ?_)
  ·have hg5_ := of_decide_eq_true hg5
   have h60 : b.1.length ≤ 60 := by have := of_decide_eq_true hg5; omega
   refine RK.val (guard_yes rfl rfl hg5) (op_field_loc hT rfl rfl rfl rfl rfl rfl) ?_
   refine RK.val (guard_yes rfl rfl hg5) (op_load_one hT rfl rfl rfl rfl (by first | rfl | exact vget (by omega))) ?_
   refine RK.val (guard_yes rfl rfl hg5) (Eff.call0 (p_hyps b.2)) ?_
   refine RK.V (op_pick_t rfl hg5 (rfl : _ = AV.p (.c _))) ?_
   refine RK.As rfl ?_
   refine RK.D ?_
   refine AWp_ret ?_
   refine ends_one rfl (.inr rfl) (res_tmp rfl) ?_ O_ends
   exact Sub.bool (rgB_3 hR h60)
  ·have hg5_ := of_decide_eq_false hg5
   have h60 : ¬ b.1.length ≤ 60 := fun z => of_decide_eq_false hg5 (by omega)
   refine RK.skip (guard_no rfl rfl hg5) ?_
   refine RK.skip (guard_no rfl rfl hg5) ?_
   refine RK.skip (guard_no rfl rfl hg5) ?_
   refine RK.V (op_pick_f rfl hg5 (rfl : _ = AV.p (.c _))) ?_
   refine RK.As rfl ?_
   refine RK.D ?_
   refine AWp_ret ?_
   refine ends_one rfl (.inr rfl) (res_tmp rfl) ?_ O_ends
   exact Sub.bool (rgB_4 h60)
/- algorist/hypothesis.Add -/
set_option maxHeartbeats 2000000 in
set_option maxRecDepth 100000 in
theorem p_AddB (b : Book) (d : Drv) (hs : SrtD b.1) (hl : b.1.length ≤ 1000000) :
  Call0 Tryz.prog 56 [.p (.a (enBk b)), .p (.a (enD d))] (.t [.a (enBk (addB b d)), .c (.v (.int .i64 (addE b d)))]) := by
 refine callM_of (np := 0) Tryz.func56 (by kernel_rfl) rfl rfl (Nat.le_of_ble_eq_true rfl) (fun m h => absurd rfl h) (fun m h => absurd rfl h) rfl ?_
 refine AWp_sr hP ?_
 refine RK.alc guard_none (op_box rfl rfl) ?_
 refine RK.alc guard_none (op_box rfl rfl) ?_
 refine RK.alc guard_none (op_alloc hT rfl rfl) ?_
 refine RK.As rfl ?_
 refine RK.D ?_
 refine AWp_seq ?_
 refine AWp_sr hP ?_
 refine RK.V (op_load_agg hT rfl rfl rfl rfl (cs := enD d) rfl rfl) ?_
 refine RK.V (Eff.call0 (p_right d)) ?_
 refine RK.V (op_unot rfl) ?_
 refine RK.D ?_
 refine AWp_cond rfl (fun hb1 => ?_) (fun hb1 => ?_)
 ·have hb1_ := (notT hb1)
  have hr : rightD d = false := notT hb1
  refine AWp_sr hP ?_
  refine RK.V (op_build_st hT rfl rfl rfl (es := [_, _]) rfl) ?_
  refine RK.S hT rfl rfl rfl rfl rfl rfl rfl ?_
  refine RK.As rfl ?_
  refine RK.D ?_
  refine AWp_ret ?_
  refine ends_two rfl (.inr rfl) (res_cell_agg hT rfl rfl rfl rfl (cs := [_, _]) rfl rfl) (res_tmp rfl) ?_ O_ends
  exact Sub.of_eq (by rw [addB_n (addE_1 hr) (by decide), addE_1 hr]; rfl)
 ·have hb1_ := (notF hb1)
  have hr : rightD d = true := notF hb1
  have hC := lessN_cut (d := d) hs
  refine AWp_skip ?_
  refine AWp_sr hP ?_
  refine RK.F hT rfl rfl rfl rfl rfl rfl ?_
  refine RK.V (op_load_one hT rfl rfl rfl rfl (by first | rfl | exact vget (by omega))) ?_
  refine RK.V (op_load_agg hT rfl rfl rfl rfl (cs := enD d) rfl rfl) ?_
  refine RK.V (Eff.call0 ((p_BS (gf := 60) (caps := []) (fun x => cmD x d) b.1 d (lessN b.1 d) (fun x _ => p_compare x d) (lessN_cut hs)).sub ⟨.refl _, .refl _, sub_fn, trivial⟩)) ?_
  refine RK.V (op_move (rfl : _ = AV.t _)) ?_
  refine RK.V (op_extract rfl (v := .c _) rfl) ?_
  refine RK.V (op_extract rfl (v := .c _) rfl) ?_
  refine RK.As rfl ?_
  refine RK.As rfl ?_
  refine RK.D ?_
  refine AWp_seq ?_
  refine AWp_block ?_
  refine AWp_sr hP ?_
  refine RK.M rfl ?_
  refine RK.As rfl ?_
  refine RK.D ?_
  refine AWp_cond rfl (fun hb2 => ?_) (fun hb2 => ?_)
  ·have hh : cutB (fun x => cmD x d) b.1 (lessN b.1 d) = true := hb2
   refine AWp_sr hP ?_
   refine RK.V (op_build_st hT rfl rfl rfl (es := [_, _]) rfl) ?_
   refine RK.S hT rfl rfl rfl rfl rfl rfl rfl ?_
   refine RK.As rfl ?_
   refine RK.D ?_
   refine AWp_ret ?_
   refine ends_two rfl (.inr rfl) (res_cell_agg hT rfl rfl rfl rfl (cs := [_, _]) rfl rfl) (res_tmp rfl) ?_ O_ends
   exact Sub.of_eq (by rw [addB_n (addE_2 hr hh) (by decide), addE_2 hr hh]; rfl)
  ·have hh : cutB (fun x => cmD x d) b.1 (lessN b.1 d) = false := hb2
   refine AWp_sr hP ?_
   refine RK.F hT rfl rfl rfl rfl rfl rfl ?_
   refine RK.V (op_load_one hT rfl rfl rfl rfl (by first | rfl | exact vget (by omega))) ?_
   refine RK.V (op_len hT rfl rfl rfl (by rfl)) ?_
   refine RK.V (op_eql rfl rfl) ?_
   refine RK.As rfl ?_
   refine RK.D ?_
   refine AWp_cond rfl (fun hb3 => ?_) (fun hb3 => ?_)
   ·have hb3_ := bT hb3
    have h60 : b.1.length = 60 := by have := bT hb3; omega
    refine AWp_sr hP ?_
    refine RK.V (op_build_st hT rfl rfl rfl (es := [_, _]) rfl) ?_
    refine RK.S hT rfl rfl rfl rfl rfl rfl rfl ?_
    refine RK.As rfl ?_
    refine RK.D ?_
    refine AWp_ret ?_
    refine ends_two rfl (.inr rfl) (res_cell_agg hT rfl rfl rfl rfl (cs := [_, _]) rfl rfl) (res_tmp rfl) ?_ O_ends
    exact Sub.of_eq (by rw [addB_n (addE_3 hr hh h60) (by decide), addE_3 hr hh h60]; rfl)
   ·have hb3_ := bF hb3
    have h60 : ¬ b.1.length = 60 := fun z => bF hb3 (by omega)
    refine AWp_skip ?_
    refine AWp_sr hP ?_
    refine RK.F hT rfl rfl rfl rfl rfl rfl ?_
    refine RK.V (op_load_one hT rfl rfl rfl rfl (by first | rfl | exact vget (by omega))) ?_
    refine RK.alc guard_none (Eff.callV (p_CloneD b.1 hl)) ?_
    refine RK.M rfl ?_
    refine RK.V (op_load_agg hT rfl rfl rfl rfl (cs := enD d) rfl rfl) ?_
    refine RK.alc guard_none (op_bslice_vec hT rfl rfl rfl (es := [_, _, _]) rfl rfl rfl) ?_
    refine RK.mutL guard_none (Eff.call (o := ownB 30 33 (VB 3 45 enD b.1) (VB 3 45 enD [d])) (o' := O) (rd := [30, 33]) ((p_Insert b.1 d (lessN b.1 d) hC.le hl (m0 := 30) (m1 := 33) (by decide)).callG enD_len (by decide)) (mem2 rfl rfl) ownB_mem rfl) ?_
    refine RK.F hT rfl rfl rfl rfl rfl rfl ?_
    refine RK.S hT rfl rfl rfl rfl rfl rfl rfl ?_
    refine RK.D ?_
    refine AWp_sr hP ?_
    refine RK.G2 hT rfl rfl rfl rfl rfl rfl ?_
    refine RK.S hT rfl rfl rfl rfl rfl rfl rfl ?_
    refine RK.As rfl ?_
    refine RK.D ?_
    refine AWp_ret ?_
    refine ends_two rfl (.inr rfl) (res_cell_agg hT rfl rfl rfl rfl (cs := [_, _]) rfl rfl) (res_tmp rfl) ?_ O_ends
    exact Sub.of_eq (by rw [addB_y (addE_4 hr hh h60), addE_4 hr hh h60])
end Go.Proofs.YtmoaoiakmmbpoaaGreatDoor
end

import Derived.Test.YthaiejfjnllglaaGreatDoorFBA
import Derived.Test.YthaiejfjnllglaaGreatDoorFBB
import Derived.Test.YthaiejfjnllglaaGreatDoorProg
import Derived.KernelRfl
set_option maxRecDepth 100000
set_option maxHeartbeats 2000000
namespace Go.Proofs.YthaiejfjnllglaaGreatDoor
section
open Go Go.AM
def ty2:TyI:=⟨.int .i64,1,8,[.v (.int .i64 0)]⟩
theorem IZ:TyOK Tryz.prog 2 ty2:=TyOK.mk' (z:=.int .i64 0) (by kernel_rfl) Tryz.underlying2 rfl rfl ⟨z_v _ rfl,trivial⟩
def ty3:TyI:=⟨.int .i64,1,8,[.v (.int .i64 0)]⟩
theorem IV:TyOK Tryz.prog 3 ty3:=TyOK.mk' (z:=.int .i64 0) (by kernel_rfl) Tryz.underlying3 rfl rfl ⟨z_v _ rfl,trivial⟩
def ty4:TyI:=⟨.bool,1,1,[.v (.bool false)]⟩
theorem IN:TyOK Tryz.prog 4 ty4:=TyOK.mk' (z:=.bool false) (by kernel_rfl) Tryz.underlying4 trivial rfl ⟨z_v _ rfl,trivial⟩
def ty5:TyI:=⟨.int .u8,1,1,[.v (.int .u8 0)]⟩
theorem IG:TyOK Tryz.prog 5 ty5:=TyOK.mk' (z:=.int .u8 0) (by kernel_rfl) Tryz.underlying5 rfl rfl ⟨z_v _ rfl,trivial⟩
def ty9:TyI:=⟨.str,1,16,[.v (.string ⟨#[]⟩)]⟩
theorem Ir:TyOK Tryz.prog 9 ty9:=TyOK.mk' (z:=.string ⟨#[]⟩) (by kernel_rfl) Tryz.underlying9 trivial rfl ⟨z_v _ rfl,trivial⟩
def Ja:TyI:=⟨.int .u64,1,8,[.v (.int .u64 0)]⟩
theorem FY:TyOK Tryz.prog 12 Ja:=TyOK.mk' (z:=.int .u64 0) (by kernel_rfl) Tryz.underlying12 rfl rfl ⟨z_v _ rfl,trivial⟩
def I9:TyI:=⟨.int .i32,1,4,[.v (.int .i32 0)]⟩
theorem FX:TyOK Tryz.prog 21 I9:=TyOK.mk' (z:=.int .i32 0) (by kernel_rfl) Tryz.underlying21 rfl rfl ⟨z_v _ rfl,trivial⟩
def I8:TyI:=⟨.int .u16,1,2,[.v (.int .u16 0)]⟩
theorem FW:TyOK Tryz.prog 22 I8:=TyOK.mk' (z:=.int .u16 0) (by kernel_rfl) Tryz.underlying22 rfl rfl ⟨z_v _ rfl,trivial⟩
def I7:TyI:=⟨.ar 4 22,4,8,[.v (.int .u16 0),.v (.int .u16 0),.v (.int .u16 0),.v (.int .u16 0)]⟩
theorem FV:TyOK Tryz.prog 23 I7:=TyOK.mk' (z:=.agg #[.int .u16 0,.int .u16 0,.int .u16 0,.int .u16 0]) (by kernel_rfl) Tryz.underlying23 ⟨rfl,rfl⟩ rfl ⟨z_v _ rfl,z_v _ rfl,z_v _ rfl,z_v _ rfl,trivial⟩
def I6:TyI:=⟨.ar 4 5,4,4,[.v (.int .u8 0),.v (.int .u8 0),.v (.int .u8 0),.v (.int .u8 0)]⟩
theorem FU:TyOK Tryz.prog 24 I6:=TyOK.mk' (z:=.agg #[.int .u8 0,.int .u8 0,.int .u8 0,.int .u8 0]) (by kernel_rfl) Tryz.underlying24 ⟨rfl,rfl⟩ rfl ⟨z_v _ rfl,z_v _ rfl,z_v _ rfl,z_v _ rfl,trivial⟩
def I5:TyI:=⟨.st [(0,22),(1,23),(5,24)],9,14,[.v (.int .u16 0),.v (.int .u16 0),.v (.int .u16 0),.v (.int .u16 0),.v (.int .u16 0),.v (.int .u8 0),.v (.int .u8 0),.v (.int .u8 0),.v (.int .u8 0)]⟩
theorem FT:TyOK Tryz.prog 25 I5:=TyOK.mk' (z:=.agg #[.int .u16 0,.int .u16 0,.int .u16 0,.int .u16 0,.int .u16 0,.int .u8 0,.int .u8 0,.int .u8 0,.int .u8 0]) (by kernel_rfl) Tryz.underlying25 rfl rfl ⟨z_v _ rfl,z_v _ rfl,z_v _ rfl,z_v _ rfl,z_v _ rfl,z_v _ rfl,z_v _ rfl,z_v _ rfl,z_v _ rfl,trivial⟩
def I4:TyI:=⟨.st [(0,22),(1,23),(5,24)],9,14,[.v (.int .u16 0),.v (.int .u16 0),.v (.int .u16 0),.v (.int .u16 0),.v (.int .u16 0),.v (.int .u8 0),.v (.int .u8 0),.v (.int .u8 0),.v (.int .u8 0)]⟩
theorem FR:TyOK Tryz.prog 26 I4:=TyOK.mk' (z:=.agg #[.int .u16 0,.int .u16 0,.int .u16 0,.int .u16 0,.int .u16 0,.int .u8 0,.int .u8 0,.int .u8 0,.int .u8 0]) (by kernel_rfl) Tryz.underlying26 rfl rfl ⟨z_v _ rfl,z_v _ rfl,z_v _ rfl,z_v _ rfl,z_v _ rfl,z_v _ rfl,z_v _ rfl,z_v _ rfl,z_v _ rfl,trivial⟩
def I3:TyI:=⟨.sl 105,1,24,[.sl 0 []]⟩
theorem FQ:TyOK Tryz.prog 27 I3:=TyOK.mk' (z:=.slice none 0 0) (by kernel_rfl) Tryz.underlying27 rfl rfl ⟨cr,trivial⟩
def I2:TyI:=⟨.st [(0,4),(1,27)],2,32,[.v (.bool false),.sl 0 []]⟩
theorem FP:TyOK Tryz.prog 28 I2:=TyOK.mk' (z:=.agg #[.bool false,.slice none 0 0]) (by kernel_rfl) Tryz.underlying28 rfl rfl ⟨z_v _ rfl,cr,trivial⟩
def I0:TyI:=⟨.st [(0,4),(1,27)],2,32,[zn 0,zm 0]⟩
theorem FO:TyOK Tryz.prog 29 I0:=TyOK.mk' (z:=.agg #[.bool false,.slice none 0 0]) (by kernel_rfl) Tryz.underlying29 rfl rfl ⟨cg,ci,trivial⟩
def IY:TyI:=⟨.sl 46,1,24,[.sl 0 []]⟩
theorem FN:TyOK Tryz.prog 32 IY:=TyOK.mk' (z:=.slice none 0 0) (by kernel_rfl) Tryz.underlying32 rfl rfl ⟨cr,trivial⟩
def IX:TyI:=⟨.int .i64,1,8,[.v (.int .i64 0)]⟩
theorem FM:TyOK Tryz.prog 33 IX:=TyOK.mk' (z:=.int .i64 0) (by kernel_rfl) Tryz.underlying33 rfl rfl ⟨z_v _ rfl,trivial⟩
def IW:TyI:=⟨.sl 29,1,24,[.sl 0 []]⟩
theorem FJ:TyOK Tryz.prog 36 IW:=TyOK.mk' (z:=.slice none 0 0) (by kernel_rfl) Tryz.underlying36 rfl rfl ⟨cr,trivial⟩
def IU:TyI:=⟨.st [(0,3),(1,29),(3,29),(5,29),(7,36),(8,32)],9,152,[.v (.int .i64 0),zn 0,zm 0,zn 0,zm 0,zn 0,zm 0,.sl 0 [],.sl 0 []]⟩
theorem FI:TyOK Tryz.prog 41 IU:=TyOK.mk' (z:=.agg #[.int .i64 0,.bool false,.slice none 0 0,.bool false,.slice none 0 0,.bool false,.slice none 0 0,.slice none 0 0,.slice none 0 0]) (by kernel_rfl) Tryz.underlying41 rfl rfl ⟨z_v _ rfl,cg,ci,cg,ci,cg,ci,cr,cr,trivial⟩
def IT:TyI:=⟨.st [(0,3),(1,29),(3,29),(5,29),(7,36),(8,32)],9,152,[.v (.int .i64 0),zn 0,zm 0,zn 0,zm 0,zn 0,zm 0,.sl 0 [],.sl 0 []]⟩
theorem FH:TyOK Tryz.prog 42 IT:=TyOK.mk' (z:=.agg #[.int .i64 0,.bool false,.slice none 0 0,.bool false,.slice none 0 0,.bool false,.slice none 0 0,.slice none 0 0,.slice none 0 0]) (by kernel_rfl) Tryz.underlying42 rfl rfl ⟨z_v _ rfl,cg,ci,cg,ci,cg,ci,cr,cr,trivial⟩
def IR:TyI:=⟨.st [(0,29),(2,29),(4,29)],6,96,[zn 0,zm 0,zn 0,zm 0,zn 0,zm 0]⟩
theorem FG:TyOK Tryz.prog 45 IR:=TyOK.mk' (z:=.agg #[.bool false,.slice none 0 0,.bool false,.slice none 0 0,.bool false,.slice none 0 0]) (by kernel_rfl) Tryz.underlying45 rfl rfl ⟨cg,ci,cg,ci,cg,ci,trivial⟩
def IQ:TyI:=⟨.st [(0,29),(2,29),(4,29)],6,96,[zn 0,zm 0,zn 0,zm 0,zn 0,zm 0]⟩
theorem FF:TyOK Tryz.prog 46 IQ:=TyOK.mk' (z:=.agg #[.bool false,.slice none 0 0,.bool false,.slice none 0 0,.bool false,.slice none 0 0]) (by kernel_rfl) Tryz.underlying46 rfl rfl ⟨cg,ci,cg,ci,cg,ci,trivial⟩
def IP:TyI:=⟨.sl 3,1,24,[.sl 0 []]⟩
theorem FE:TyOK Tryz.prog 48 IP:=TyOK.mk' (z:=.slice none 0 0) (by kernel_rfl) Tryz.underlying48 rfl rfl ⟨cr,trivial⟩
def IM:TyI:=⟨.st [(0,4),(1,27)],2,32,[.v (.bool false),.sl 0 []]⟩
theorem FD:TyOK Tryz.prog 53 IM:=TyOK.mk' (z:=.agg #[.bool false,.slice none 0 0]) (by kernel_rfl) Tryz.underlying53 rfl rfl ⟨z_v _ rfl,cr,trivial⟩
def IL:TyI:=⟨.st [(0,4),(1,27)],2,32,[.v (.bool false),.sl 0 []]⟩
theorem Fz:TyOK Tryz.prog 54 IL:=TyOK.mk' (z:=.agg #[.bool false,.slice none 0 0]) (by kernel_rfl) Tryz.underlying54 rfl rfl ⟨z_v _ rfl,cr,trivial⟩
def IK:TyI:=⟨.ar 3 54,6,96,[.v (.bool false),.sl 0 [],.v (.bool false),.sl 0 [],.v (.bool false),.sl 0 []]⟩
theorem Fy:TyOK Tryz.prog 55 IK:=TyOK.mk' (z:=.agg #[.bool false,.slice none 0 0,.bool false,.slice none 0 0,.bool false,.slice none 0 0]) (by kernel_rfl) Tryz.underlying55 ⟨rfl,rfl⟩ rfl ⟨z_v _ rfl,cr,z_v _ rfl,cr,z_v _ rfl,cr,trivial⟩
def IJ:TyI:=⟨.ar 4 54,8,128,[.v (.bool false),.sl 0 [],.v (.bool false),.sl 0 [],.v (.bool false),.sl 0 [],.v (.bool false),.sl 0 []]⟩
theorem Fx:TyOK Tryz.prog 56 IJ:=TyOK.mk' (z:=.agg #[.bool false,.slice none 0 0,.bool false,.slice none 0 0,.bool false,.slice none 0 0,.bool false,.slice none 0 0]) (by kernel_rfl) Tryz.underlying56 ⟨rfl,rfl⟩ rfl ⟨z_v _ rfl,cr,z_v _ rfl,cr,z_v _ rfl,cr,z_v _ rfl,cr,trivial⟩
def II:TyI:=⟨.st [(0,55),(6,56)],14,224,[.v (.bool false),.sl 0 [],.v (.bool false),.sl 0 [],.v (.bool false),.sl 0 [],.v (.bool false),.sl 0 [],.v (.bool false),.sl 0 [],.v (.bool false),.sl 0 [],.v (.bool false),.sl 0 []]⟩
theorem Fw:TyOK Tryz.prog 57 II:=TyOK.mk' (z:=.agg #[.bool false,.slice none 0 0,.bool false,.slice none 0 0,.bool false,.slice none 0 0,.bool false,.slice none 0 0,.bool false,.slice none 0 0,.bool false,.slice none 0 0,.bool false,.slice none 0 0]) (by kernel_rfl) Tryz.underlying57 rfl rfl ⟨z_v _ rfl,cr,z_v _ rfl,cr,z_v _ rfl,cr,z_v _ rfl,cr,z_v _ rfl,cr,z_v _ rfl,cr,z_v _ rfl,cr,trivial⟩
def IH:TyI:=⟨.st [(0,55),(6,56)],14,224,[.v (.bool false),.sl 0 [],.v (.bool false),.sl 0 [],.v (.bool false),.sl 0 [],.v (.bool false),.sl 0 [],.v (.bool false),.sl 0 [],.v (.bool false),.sl 0 [],.v (.bool false),.sl 0 []]⟩
theorem Fv:TyOK Tryz.prog 58 IH:=TyOK.mk' (z:=.agg #[.bool false,.slice none 0 0,.bool false,.slice none 0 0,.bool false,.slice none 0 0,.bool false,.slice none 0 0,.bool false,.slice none 0 0,.bool false,.slice none 0 0,.bool false,.slice none 0 0]) (by kernel_rfl) Tryz.underlying58 rfl rfl ⟨z_v _ rfl,cr,z_v _ rfl,cr,z_v _ rfl,cr,z_v _ rfl,cr,z_v _ rfl,cr,z_v _ rfl,cr,z_v _ rfl,cr,trivial⟩
def IF:TyI:=⟨.st [(0,36),(1,33)],2,32,[.sl 0 [],.v (.int .i64 0)]⟩
theorem Fu:TyOK Tryz.prog 62 IF:=TyOK.mk' (z:=.agg #[.slice none 0 0,.int .i64 0]) (by kernel_rfl) Tryz.underlying62 rfl rfl ⟨cr,z_v _ rfl,trivial⟩
def IE:TyI:=⟨.st [(0,36),(1,33)],2,32,[.sl 0 [],.v (.int .i64 0)]⟩
theorem Ft:TyOK Tryz.prog 63 IE:=TyOK.mk' (z:=.agg #[.slice none 0 0,.int .i64 0]) (by kernel_rfl) Tryz.underlying63 rfl rfl ⟨cr,z_v _ rfl,trivial⟩
def ID:TyI:=⟨.sl 93,1,24,[.sl 0 []]⟩
theorem Fs:TyOK Tryz.prog 65 ID:=TyOK.mk' (z:=.slice none 0 0) (by kernel_rfl) Tryz.underlying65 rfl rfl ⟨cr,trivial⟩
def IA:TyI:=⟨.st [(0,42),(9,33)],10,160,[.v (.int .i64 0),zn 0,zm 0,zn 0,zm 0,zn 0,zm 0,.sl 0 [],.sl 0 [],.v (.int .i64 0)]⟩
theorem Fq:TyOK Tryz.prog 71 IA:=TyOK.mk' (z:=.agg #[.int .i64 0,.bool false,.slice none 0 0,.bool false,.slice none 0 0,.bool false,.slice none 0 0,.slice none 0 0,.slice none 0 0,.int .i64 0]) (by kernel_rfl) Tryz.underlying71 rfl rfl ⟨z_v _ rfl,cg,ci,cg,ci,cg,ci,cr,cr,z_v _ rfl,trivial⟩
def Iz:TyI:=⟨.st [(0,42),(9,33)],10,160,[.v (.int .i64 0),zn 0,zm 0,zn 0,zm 0,zn 0,zm 0,.sl 0 [],.sl 0 [],.v (.int .i64 0)]⟩
theorem Fp:TyOK Tryz.prog 72 Iz:=TyOK.mk' (z:=.agg #[.int .i64 0,.bool false,.slice none 0 0,.bool false,.slice none 0 0,.bool false,.slice none 0 0,.slice none 0 0,.slice none 0 0,.int .i64 0]) (by kernel_rfl) Tryz.underlying72 rfl rfl ⟨z_v _ rfl,cg,ci,cg,ci,cg,ci,cr,cr,z_v _ rfl,trivial⟩
def Iy:TyI:=⟨.st [(0,42),(9,33)],10,160,[.v (.int .i64 0),zn 0,zm 0,zn 0,zm 0,zn 0,zm 0,.sl 0 [],.sl 0 [],.v (.int .i64 0)]⟩
theorem Fk:TyOK Tryz.prog 74 Iy:=TyOK.mk' (z:=.agg #[.int .i64 0,.bool false,.slice none 0 0,.bool false,.slice none 0 0,.bool false,.slice none 0 0,.slice none 0 0,.slice none 0 0,.int .i64 0]) (by kernel_rfl) Tryz.underlying74 rfl rfl ⟨z_v _ rfl,cg,ci,cg,ci,cg,ci,cr,cr,z_v _ rfl,trivial⟩
def Iw:TyI:=⟨.sl 42,1,24,[.sl 0 []]⟩
theorem Fj:TyOK Tryz.prog 84 Iw:=TyOK.mk' (z:=.slice none 0 0) (by kernel_rfl) Tryz.underlying84 rfl rfl ⟨cr,trivial⟩
def Iu:TyI:=⟨.st [(0,29),(2,29),(4,29),(6,29)],8,128,[zn 0,zm 0,zn 0,zm 0,zn 0,zm 0,zn 0,zm 0]⟩
theorem Fi:TyOK Tryz.prog 86 Iu:=TyOK.mk' (z:=.agg #[.bool false,.slice none 0 0,.bool false,.slice none 0 0,.bool false,.slice none 0 0,.bool false,.slice none 0 0]) (by kernel_rfl) Tryz.underlying86 rfl rfl ⟨cg,ci,cg,ci,cg,ci,cg,ci,trivial⟩
def It:TyI:=⟨.st [(0,29),(2,29),(4,29),(6,29)],8,128,[zn 0,zm 0,zn 0,zm 0,zn 0,zm 0,zn 0,zm 0]⟩
theorem Fh:TyOK Tryz.prog 87 It:=TyOK.mk' (z:=.agg #[.bool false,.slice none 0 0,.bool false,.slice none 0 0,.bool false,.slice none 0 0,.bool false,.slice none 0 0]) (by kernel_rfl) Tryz.underlying87 rfl rfl ⟨cg,ci,cg,ci,cg,ci,cg,ci,trivial⟩
def Bl:TyI:=⟨.ar 2 29,4,64,[zn 0,zm 0,zn 0,zm 0]⟩
theorem Fg:TyOK Tryz.prog 93 Bl:=TyOK.mk' (z:=.agg #[.bool false,.slice none 0 0,.bool false,.slice none 0 0]) (by kernel_rfl) Tryz.underlying93 ⟨rfl,rfl⟩ rfl ⟨cg,ci,cg,ci,trivial⟩
def Is:TyI:=⟨.ar 2 5,2,2,[.v (.int .u8 0),.v (.int .u8 0)]⟩
theorem Ff:TyOK Tryz.prog 96 Is:=TyOK.mk' (z:=.agg #[.int .u8 0,.int .u8 0]) (by kernel_rfl) Tryz.underlying96 ⟨rfl,rfl⟩ rfl ⟨z_v _ rfl,z_v _ rfl,trivial⟩
def Ea:TyI:=⟨.int .u64,1,8,[.v (.int .u64 0)]⟩
theorem BP:TyOK Tryz.prog 103 Ea:=TyOK.mk' (z:=.int .u64 0) (by kernel_rfl) Tryz.underlying103 rfl rfl ⟨z_v _ rfl,trivial⟩
def D9:TyI:=⟨.int .u32,1,4,[.v (.int .u32 0)]⟩
theorem BO:TyOK Tryz.prog 105 D9:=TyOK.mk' (z:=.int .u32 0) (by kernel_rfl) Tryz.underlying105 rfl rfl ⟨z_v _ rfl,trivial⟩
def D8:TyI:=⟨.int .u64,1,8,[.v (.int .u64 0)]⟩
theorem BN:TyOK Tryz.prog 106 D8:=TyOK.mk' (z:=.int .u64 0) (by kernel_rfl) Tryz.underlying106 rfl rfl ⟨z_v _ rfl,trivial⟩
def D6:TyI:=⟨.sl 105,1,24,[.sl 0 []]⟩
theorem BL:TyOK Tryz.prog 114 D6:=TyOK.mk' (z:=.slice none 0 0) (by kernel_rfl) Tryz.underlying114 rfl rfl ⟨cr,trivial⟩
def D5:TyI:=⟨.sl 142,1,24,[.sl 0 []]⟩
theorem BK:TyOK Tryz.prog 138 D5:=TyOK.mk' (z:=.slice none 0 0) (by kernel_rfl) Tryz.underlying138 rfl rfl ⟨cr,trivial⟩
def D3:TyI:=⟨.st [(0,3),(1,140)],2,16,[.v (.int .i64 0),.v (.nilFunc)]⟩
theorem BI:TyOK Tryz.prog 141 D3:=TyOK.mk' (z:=.agg #[.int .i64 0,.nilFunc]) (by kernel_rfl) Tryz.underlying141 rfl rfl ⟨z_v _ rfl,z_v _ rfl,trivial⟩
def D2:TyI:=⟨.st [(0,3),(1,140)],2,16,[.v (.int .i64 0),.v (.nilFunc)]⟩
theorem BH:TyOK Tryz.prog 142 D2:=TyOK.mk' (z:=.agg #[.int .i64 0,.nilFunc]) (by kernel_rfl) Tryz.underlying142 rfl rfl ⟨z_v _ rfl,z_v _ rfl,trivial⟩
def D1:TyI:=⟨.pt 163,1,8,[.v (.pointer none)]⟩
theorem BG:TyOK Tryz.prog 161 D1:=TyOK.mk' (z:=.pointer none) (by kernel_rfl) Tryz.underlying161 rfl rfl ⟨z_v _ rfl,trivial⟩
def D0:TyI:=⟨.st [(0,46),(6,87)],14,224,[zn 0,zm 0,zn 0,zm 0,zn 0,zm 0,zn 0,zm 0,zn 0,zm 0,zn 0,zm 0,zn 0,zm 0]⟩
theorem BF:TyOK Tryz.prog 162 D0:=TyOK.mk' (z:=.agg #[.bool false,.slice none 0 0,.bool false,.slice none 0 0,.bool false,.slice none 0 0,.bool false,.slice none 0 0,.bool false,.slice none 0 0,.bool false,.slice none 0 0,.bool false,.slice none 0 0]) (by kernel_rfl) Tryz.underlying162 rfl rfl ⟨cg,ci,cg,ci,cg,ci,cg,ci,cg,ci,cg,ci,cg,ci,trivial⟩
def DZ:TyI:=⟨.st [(0,46),(6,87)],14,224,[zn 0,zm 0,zn 0,zm 0,zn 0,zm 0,zn 0,zm 0,zn 0,zm 0,zn 0,zm 0,zn 0,zm 0]⟩
theorem BE:TyOK Tryz.prog 163 DZ:=TyOK.mk' (z:=.agg #[.bool false,.slice none 0 0,.bool false,.slice none 0 0,.bool false,.slice none 0 0,.bool false,.slice none 0 0,.bool false,.slice none 0 0,.bool false,.slice none 0 0,.bool false,.slice none 0 0]) (by kernel_rfl) Tryz.underlying163 rfl rfl ⟨cg,ci,cg,ci,cg,ci,cg,ci,cg,ci,cg,ci,cg,ci,trivial⟩
def DY:TyI:=⟨.st [(0,2),(1,2),(2,2)],3,24,[.v (.int .i64 0),.v (.int .i64 0),.v (.int .i64 0)]⟩
theorem BD:TyOK Tryz.prog 175 DY:=TyOK.mk' (z:=.agg #[.int .i64 0,.int .i64 0,.int .i64 0]) (by kernel_rfl) Tryz.underlying175 rfl rfl ⟨z_v _ rfl,z_v _ rfl,z_v _ rfl,trivial⟩
def DX:TyI:=⟨.st [(0,2),(1,2),(2,2)],3,24,[.v (.int .i64 0),.v (.int .i64 0),.v (.int .i64 0)]⟩
theorem BC:TyOK Tryz.prog 176 DX:=TyOK.mk' (z:=.agg #[.int .i64 0,.int .i64 0,.int .i64 0]) (by kernel_rfl) Tryz.underlying176 rfl rfl ⟨z_v _ rfl,z_v _ rfl,z_v _ rfl,trivial⟩
def DT:TyI:=⟨.sl 192,1,24,[.sl 0 []]⟩
theorem Bz:TyOK Tryz.prog 190 DT:=TyOK.mk' (z:=.slice none 0 0) (by kernel_rfl) Tryz.underlying190 rfl rfl ⟨cr,trivial⟩
def DS:TyI:=⟨.ar 2 3,2,16,[.v (.int .i64 0),.v (.int .i64 0)]⟩
theorem By:TyOK Tryz.prog 192 DS:=TyOK.mk' (z:=.agg #[.int .i64 0,.int .i64 0]) (by kernel_rfl) Tryz.underlying192 ⟨rfl,rfl⟩ rfl ⟨z_v _ rfl,z_v _ rfl,trivial⟩
def DR:TyI:=⟨.ar 3 29,6,96,[zn 0,zm 0,zn 0,zm 0,zn 0,zm 0]⟩
theorem Bx:TyOK Tryz.prog 206 DR:=TyOK.mk' (z:=.agg #[.bool false,.slice none 0 0,.bool false,.slice none 0 0,.bool false,.slice none 0 0]) (by kernel_rfl) Tryz.underlying206 ⟨rfl,rfl⟩ rfl ⟨cg,ci,cg,ci,cg,ci,trivial⟩
def DQ:TyI:=⟨.sl 2,1,24,[.sl 0 []]⟩
theorem Bw:TyOK Tryz.prog 219 DQ:=TyOK.mk' (z:=.slice none 0 0) (by kernel_rfl) Tryz.underlying219 rfl rfl ⟨cr,trivial⟩
def DP:TyI:=⟨.ar 2 93,8,128,[zn 0,zm 0,zn 0,zm 0,zn 0,zm 0,zn 0,zm 0]⟩
theorem Bv:TyOK Tryz.prog 233 DP:=TyOK.mk' (z:=.agg #[.bool false,.slice none 0 0,.bool false,.slice none 0 0,.bool false,.slice none 0 0,.bool false,.slice none 0 0]) (by kernel_rfl) Tryz.underlying233 ⟨rfl,rfl⟩ rfl ⟨cg,ci,cg,ci,cg,ci,cg,ci,trivial⟩
def DO:TyI:=⟨.st [(0,27),(1,27)],2,48,[.sl 0 [],.sl 0 []]⟩
theorem Bu:TyOK Tryz.prog 235 DO:=TyOK.mk' (z:=.agg #[.slice none 0 0,.slice none 0 0]) (by kernel_rfl) Tryz.underlying235 rfl rfl ⟨cr,cr,trivial⟩
def DN:TyI:=⟨.st [(0,27),(1,27)],2,48,[.sl 0 [],.sl 0 []]⟩
theorem Bt:TyOK Tryz.prog 236 DN:=TyOK.mk' (z:=.agg #[.slice none 0 0,.slice none 0 0]) (by kernel_rfl) Tryz.underlying236 rfl rfl ⟨cr,cr,trivial⟩
def DM:TyI:=⟨.ar 8 3,8,64,[.v (.int .i64 0),.v (.int .i64 0),.v (.int .i64 0),.v (.int .i64 0),.v (.int .i64 0),.v (.int .i64 0),.v (.int .i64 0),.v (.int .i64 0)]⟩
theorem Bs:TyOK Tryz.prog 244 DM:=TyOK.mk' (z:=.agg #[.int .i64 0,.int .i64 0,.int .i64 0,.int .i64 0,.int .i64 0,.int .i64 0,.int .i64 0,.int .i64 0]) (by kernel_rfl) Tryz.underlying244 ⟨rfl,rfl⟩ rfl ⟨z_v _ rfl,z_v _ rfl,z_v _ rfl,z_v _ rfl,z_v _ rfl,z_v _ rfl,z_v _ rfl,z_v _ rfl,trivial⟩
def DL:TyI:=⟨.int .i64,1,8,[.v (.int .i64 0)]⟩
theorem Br:TyOK Tryz.prog 249 DL:=TyOK.mk' (z:=.int .i64 0) (by kernel_rfl) Tryz.underlying249 rfl rfl ⟨z_v _ rfl,trivial⟩
def DK:TyI:=⟨.int .u64,1,8,[.v (.int .u64 0)]⟩
theorem Bq:TyOK Tryz.prog 262 DK:=TyOK.mk' (z:=.int .u64 0) (by kernel_rfl) Tryz.underlying262 rfl rfl ⟨z_v _ rfl,trivial⟩
def DJ:TyI:=⟨.pt 3,1,8,[.v (.pointer none)]⟩
theorem Bp:TyOK Tryz.prog 266 DJ:=TyOK.mk' (z:=.pointer none) (by kernel_rfl) Tryz.underlying266 rfl rfl ⟨z_v _ rfl,trivial⟩
def DI:TyI:=⟨.pt 262,1,8,[.v (.pointer none)]⟩
theorem Bo:TyOK Tryz.prog 273 DI:=TyOK.mk' (z:=.pointer none) (by kernel_rfl) Tryz.underlying273 rfl rfl ⟨z_v _ rfl,trivial⟩
def DH:TyI:=⟨.pt 5,1,8,[.v (.pointer none)]⟩
theorem Bn:TyOK Tryz.prog 286 DH:=TyOK.mk' (z:=.pointer none) (by kernel_rfl) Tryz.underlying286 rfl rfl ⟨z_v _ rfl,trivial⟩
def DG:TyI:=⟨.st [(0,9)],1,16,[.v (.string ⟨#[]⟩)]⟩
theorem Bm:TyOK Tryz.prog 291 DG:=TyOK.mk' (z:=.agg #[.string ⟨#[]⟩]) (by kernel_rfl) Tryz.underlying291 rfl rfl ⟨z_v _ rfl,trivial⟩
def D7:TyI:=⟨.ot,1,8,[.v (.nilFunc)]⟩
theorem BM:TyOK Tryz.prog 108 D7:=TyOK.mk' (z:=.nilFunc) (by kernel_rfl) Tryz.underlying108 trivial rfl ⟨z_v _ rfl,trivial⟩
def D4:TyI:=⟨.ot,1,8,[.v (.nilFunc)]⟩
theorem BJ:TyOK Tryz.prog 140 D4:=TyOK.mk' (z:=.nilFunc) (by kernel_rfl) Tryz.underlying140 trivial rfl ⟨z_v _ rfl,trivial⟩
def DW:TyI:=⟨.ot,1,8,[.v (.nilFunc)]⟩
theorem BB:TyOK Tryz.prog 183 DW:=TyOK.mk' (z:=.nilFunc) (by kernel_rfl) Tryz.underlying183 trivial rfl ⟨z_v _ rfl,trivial⟩
def DU:TyI:=⟨.ot,1,8,[.v (.nilFunc)]⟩
theorem BA:TyOK Tryz.prog 187 DU:=TyOK.mk' (z:=.nilFunc) (by kernel_rfl) Tryz.underlying187 trivial rfl ⟨z_v _ rfl,trivial⟩
def tt:TT:=s7 [(2,ty2),(3,ty3),(4,ty4),(5,ty5),(9,ty9),(12,Ja),(21,I9),(22,I8),(23,I7),(24,I6),(25,I5),(26,I4),(27,I3),(28,I2),(29,I0),(32,IY),(33,IX),(36,IW),(41,IU),(42,IT),(45,IR),(46,IQ),(48,IP),(53,IM),(54,IL),(55,IK),(56,IJ),(57,II),(58,IH),(62,IF),(63,IE),(65,ID),(71,IA),(72,Iz),(74,Iy),(84,Iw),(86,Iu),(87,It),(93,Bl),(96,Is),(103,Ea),(105,D9),(106,D8),(114,D6),(138,D5),(141,D3),(142,D2),(161,D1),(162,D0),(163,DZ),(175,DY),(176,DX),(190,DT),(192,DS),(206,DR),(219,DQ),(233,DP),(235,DO),(236,DN),(244,DM),(249,DL),(262,DK),(266,DJ),(273,DI),(286,DH),(291,DG),(108,D7),(140,D4),(183,DW),(187,DU)]
theorem hT:dX Tryz.prog tt:=AllT.ok ⟨IZ,IV,IN,IG,Ir,FY,FX,FW,FV,FU,FT,FR,FQ,FP,FO,FN,FM,FJ,FI,FH,FG,FF,FE,FD,Fz,Fy,Fx,Fw,Fv,Fu,Ft,Fs,Fq,Fp,Fk,Fj,Fi,Fh,Fg,Ff,BP,BO,BN,BL,BK,BI,BH,BG,BF,BE,BD,BC,Bz,By,Bx,Bw,Bv,Bu,Bt,Bs,Br,Bq,Bp,Bo,Bn,Bm,BM,BJ,BB,BA,trivial⟩
theorem hP:Tryz.prog.follows .mixedOrders=true:=by kernel_rfl
end
section
open Go Go.AM
theorem fk (ws:List Nat) (hok:okW ws) :
  aH Tryz.prog 130 [.p (.c (W ws))] (.p (.c (nt (wv ws)))):=by
 refine aM Tryz.func130 rfl rfl rfl rfl ?_
 refine jy (t:=0) rfl rfl (fun hlen=>?_)
 refine ae hP<|aj rfl<|ag<|ao<|aC<|bl (ι:=List Nat) (fun l=>stL [(0,.p (.c (W l)))] []) (fun l=>okW l∧wv l=wv ws∧l.length≤140737488355328) (fun l=>l.length) ws ⟨hok,rfl,hlen⟩ (aE ⟨.refl _,trivial⟩ trivial) ?_
 rintro l ⟨hl,hv,hn⟩
 refine ao<|ae hP<|ak rfl<|ab (aX hT rfl rfl rfl rfl)<|ab (bJ rfl rfl)<|ak rfl ?_
 refine aY (t:=6) rfl (fun hg1=>?_) (fun hg1=>?_)
 ·have hg1_:=dT0 hg1
  refine aA hg1 (az (rfl:_=AV.p (.c _))) ?_
  refine aA hg1 (az (rfl:_=AV.p (.c _))) ?_
  refine aA hg1 (aX hT rfl rfl rfl rfl) ?_
  refine aA hg1 (bE rfl rfl (by first | exact iW0 _ (by omega) | rfl)) ?_
  refine aA hg1 (by first | exact fO hT rfl rfl rfl rfl rfl rfl (by omega) | exact cq hT rfl rfl rfl rfl rfl rfl (by omega) (by first | exact iY (by omega) | simp)) ?_
  refine aA hg1 (bV hT rfl rfl rfl (by first | rfl | exact mH (by omega))) ?_
  refine aA hg1 (bj rfl rfl) ?_
  refine ab (aO rfl hg1 (rfl:_=AV.p (.c _)))<|ag ?_
  refine ay rfl (fun hb2=>?_) (fun hb2=>?_)
  ·have hb2_:=bT hb2
   refine au<|aC<|aw hP<|ak rfl<|ak rfl<|ab (aX hT rfl rfl rfl rfl)<|ab (bE rfl rfl (by first | exact iW0 _ (by omega) | rfl)) ?_
   refine ab (jD hT rfl rfl rfl rfl rfl rfl (by omega)) ?_
   refine aj rfl<|ag ?_
   have e:((l.length:Int) - 1).toNat=l.length - 1:=by omega
   refine ⟨l.take (l.length - 1),⟨hl.take _,?_,?_⟩,?_,aE ⟨aF ?_,trivial⟩ trivial⟩
   ·rw [th (by omega) (by rw [← e];omega),hv]
   ·rw [List.length_take];omega
   ·rw [List.length_take];omega
   show AV.p (.c (W (l.take ((l.length:Int) - 1).toNat)))=_
   rw [e]
  have hb2_:=bF hb2
  refine aW<|ae hP<|ak rfl<|aj rfl<|ag<|am<|E1 rfl rfl ?_
  have e:((l.length:Int) - 1).toNat=l.length - 1:=by omega
  refine aF ?_
  rw [← hv,sT hl (.inr (by rw [← e];omega))]
 have hg1_:=dF0 hg1
 iterate 7 refine aZ hg1 ?_
 refine ab (aN rfl hg1 (rfl:_=AV.p (.c _)))<|ag<|aQ rfl rfl<|aW<|ae hP<|ak rfl<|aj rfl<|ag<|am<|E1 rfl rfl ?_
 refine aF ?_
 rw [← hv,sT hl (.inl (by omega))]
end
section
open Go Go.AM
theorem sn (a:Int) :
  aH Tryz.prog 128 [Z a] (B false):=by
 refine aM Tryz.func128 rfl rfl rfl rfl ?_
 refine ae hP<|aj rfl<|ag<|ae hP<|ak rfl<|ak rfl<|ab (bq rfl rfl)<|aj rfl<|ag<|am<|E1 rfl rfl ?_
 exact aF (by simp)
theorem sk (a:Int) :
  aH Tryz.prog 181 [.p (.c (.v (.int .u32 a)))] (B false):=by
 refine aM Tryz.func181 rfl rfl rfl rfl ?_
 refine ae hP<|aj rfl<|ag<|ae hP<|ak rfl<|ak rfl<|ab (bq rfl rfl)<|aj rfl<|ag<|am<|E1 rfl rfl ?_
 exact aF (by simp)
theorem oD (a b:Int) :
  aH Tryz.prog 57 [.p (.c (.v (.int .i64 a))),.p (.c (.v (.int .i64 b)))] (Z (bB a b)):=by
 refine aM Tryz.func57 rfl rfl rfl rfl ?_
 refine ae hP<|aj rfl<|ag<|ae hP<|ak rfl<|ab (ah (sn _)) ?_
 refine aj rfl<|ag<|ae hP<|ak rfl<|ab (ah (sn _)) ?_
 refine aj rfl<|ag<|ao<|ae hP<|ak rfl<|ag<|aQ rfl rfl<|au<|ao<|ae hP<|ak rfl<|ag<|aQ rfl rfl<|au<|ao<|ae hP<|ak rfl<|ak rfl<|ab (bh rfl rfl)<|ag ?_
 refine ay rfl (fun hb1=>?_) (fun hb1=>?_)
 ·have hb1_:=dT0 hb1
  refine ae hP<|aj rfl<|ag<|am<|E1 rfl rfl ?_
  exact aF (by unfold bB;rw [if_pos (by omega)])
 have hb1_:=dF0 hb1
 refine au<|ao<|ae hP<|ak rfl<|ak rfl<|ab (bJ rfl rfl)<|ag ?_
 refine ay rfl (fun hb2=>?_) (fun hb2=>?_)
 ·have hb2_:=dT0 hb2
  refine ae hP<|aj rfl<|ag<|am<|E1 rfl rfl ?_
  exact aF (by unfold bB;rw [if_neg (by omega),if_pos (by omega)])
 have hb2_:=dF0 hb2
 refine au<|ae hP<|aj rfl<|ag<|am<|E1 rfl rfl ?_
 exact aF (by unfold bB;rw [if_neg (by omega),if_neg (by omega)])
theorem vZ (a b:Int) :
  aH Tryz.prog 129 [.p (.c (.v (.int .u32 a))),.p (.c (.v (.int .u32 b)))] (Z (bB a b)):=by
 refine aM Tryz.func129 rfl rfl rfl rfl ?_
 refine ae hP<|aj rfl<|ag<|ae hP<|ak rfl<|ab (ah (sk _)) ?_
 refine aj rfl<|ag<|ae hP<|ak rfl<|ab (ah (sk _)) ?_
 refine aj rfl<|ag<|ao<|ae hP<|ak rfl<|ag<|aQ rfl rfl<|au<|ao<|ae hP<|ak rfl<|ag<|aQ rfl rfl<|au<|ao<|ae hP<|ak rfl<|ak rfl<|ab (bh rfl rfl)<|ag ?_
 refine ay rfl (fun hb1=>?_) (fun hb1=>?_)
 ·have hb1_:=dT0 hb1
  refine ae hP<|aj rfl<|ag<|am<|E1 rfl rfl ?_
  exact aF (by unfold bB;rw [if_pos (by omega)])
 have hb1_:=dF0 hb1
 refine au<|ao<|ae hP<|ak rfl<|ak rfl<|ab (bJ rfl rfl)<|ag ?_
 refine ay rfl (fun hb2=>?_) (fun hb2=>?_)
 ·have hb2_:=dT0 hb2
  refine ae hP<|aj rfl<|ag<|am<|E1 rfl rfl ?_
  exact aF (by unfold bB;rw [if_neg (by omega),if_pos (by omega)])
 have hb2_:=dF0 hb2
 refine au<|ae hP<|aj rfl<|ag<|am<|E1 rfl rfl ?_
 exact aF (by unfold bB;rw [if_neg (by omega),if_neg (by omega)])
theorem J3 (a b:Int) :
  aH Tryz.prog 60 [.p (.c (.sl 2 [.v (.int .i64 a),.v (.int .i64 b)]))] (Z (if a=0 then b else a)):=by
 refine aM Tryz.func60 rfl rfl rfl rfl ?_
 refine ae hP<|aj rfl<|ag<|ae hP<|aj rfl<|ag<|ao<|ae hP<|ak rfl<|ab (aX hT rfl rfl rfl rfl)<|ak rfl<|ag<|aC<|ee 3 ?_
 refine ae hP<|ab (bh rfl rfl)<|ag<|ao<|aU rfl (by decide) ?_
 refine au<|ao<|aC<|ae hP<|c7 ?_
 refine cO hT rfl rfl rfl ?_
 refine aj rfl<|ag<|ae hP<|ak rfl<|ak rfl<|ab (bq rfl rfl)<|ag ?_
 refine ay rfl (fun hb1=>?_) (fun hb1=>?_)
 ·have hb1_:=b8 hb1
  refine ae hP<|ak rfl<|aj rfl<|ag<|am<|E1 rfl rfl ?_
  exact aF (by rw [if_neg hb1_])
 have hb1_:=bU hb1
 refine au<|aw hP<|bA rfl rfl ?_
 refine ak rfl<|ag<|ae hP<|ab (bh rfl rfl)<|ag<|ao<|aU rfl (by decide) ?_
 refine au<|ao<|aC<|ae hP<|c7 ?_
 refine cO hT rfl rfl rfl ?_
 refine aj rfl<|ag<|ae hP<|ak rfl<|ak rfl<|ab (bq rfl rfl)<|ag ?_
 refine ay rfl (fun hb2=>?_) (fun hb2=>?_)
 ·have hb2_:=b8 hb2
  refine ae hP<|ak rfl<|aj rfl<|ag<|am<|E1 rfl rfl ?_
  exact aF (by rw [if_pos hb1_])
 have hb2_:=bU hb2
 refine au<|aw hP<|bA rfl rfl ?_
 refine ak rfl<|ag<|ae hP<|ab (bh rfl rfl)<|ag<|ao<|aQ rfl (by decide) ?_
 refine aW<|ae hP<|ak rfl<|aj rfl<|ag<|am<|E1 rfl rfl ?_
 exact aF (by rw [if_pos hb1_,hb2_])
theorem E6 (x y c:Nat) (hx:x < 4294967296) (hy:y < 4294967296) (hc:c < 4294967296) :
  aH Tryz.prog 169 [.p (.c (w32 x)),.p (.c (w32 y)),.p (.c (w32 c))] (.t [.c (w32 ((x+y+c) % 4294967296)),.c (w32 ((x+y+c) / 4294967296))]):=by
 refine aM Tryz.func169 rfl rfl rfl rfl ?_
 refine ae hP<|aj rfl<|aj rfl<|ag<|ae hP<|ak rfl<|ab (bn hT rfl rfl rfl rfl (by first | exact IntWalk.u64_in _ (by omega) | rfl)) ?_
 refine ak rfl<|ab (bn hT rfl rfl rfl rfl (by first | exact IntWalk.u64_in _ (by omega) | rfl)) ?_
 refine ab (bN rfl rfl (c:=((x+y:Nat):Int)) (by rw [IntWalk.u64_in _ (by omega)];omega)) ?_
 refine ak rfl<|ab (bn hT rfl rfl rfl rfl (by first | exact IntWalk.u64_in _ (by omega) | rfl)) ?_
 refine ab (bN rfl rfl (c:=((x+y+c:Nat):Int)) (by rw [IntWalk.u64_in _ (by omega)];omega)) ?_
 refine aj rfl<|ag<|ae hP<|ak rfl<|ab (bn hT rfl rfl rfl rfl (c:=(((x+y+c) % 4294967296:Nat):Int)) (by rw [IntKind.wrap_u32];omega)) ?_
 refine aj rfl<|ag<|ae hP<|ak rfl<|ab (dw (j:=32) rfl rfl (by first | decide | omega)) ?_
 refine ab (bn hT rfl rfl rfl rfl (c:=(((x+y+c) / 4294967296:Nat):Int)) (by rw [IntWalk.u32_in _ (by omega)])) ?_
 refine aj rfl<|ag<|am<|E11 rfl rfl rfl ?_
 exact .refl _
theorem xL (x y c:Nat) (hx:x < 4294967296) (hy:y < 4294967296) (hc:c < 2) :
  aH Tryz.prog 170 [.p (.c (w32 x)),.p (.c (w32 y)),.p (.c (w32 c))] (.t [.c (w32 ((x+8589934592 - y - c) % 4294967296)),.c (w32 (if x < y+c then 1 else 0))]):=by
 have hxy:(x ^^^ y) < 4294967296:=Nat.xor_lt_two_pow (n:=32) hx hy
 have hd:(x+8589934592 - y - c) % 4294967296 < 4294967296:=Nat.mod_lt _ (by omega)
 have h1:((4294967295 - x) &&& y) < 4294967296:=Nat.lt_of_le_of_lt Nat.and_le_right hy
 have h2:((4294967295 - (x ^^^ y)) &&& ((x+8589934592 - y - c) % 4294967296)) < 4294967296:=Nat.lt_of_le_of_lt Nat.and_le_right hd
 refine aM Tryz.func170 rfl rfl rfl rfl ?_
 refine ae hP<|aj rfl<|aj rfl<|ag<|ae hP<|ak rfl<|ak rfl<|ab (bE rfl rfl rfl)<|ak rfl<|ab (bE rfl rfl (c:=(((x+8589934592 - y - c) % 4294967296:Nat):Int)) (by simp only [IntKind.wrap_u32];omega)) ?_
 refine aj rfl<|ag<|ae hP<|ak rfl<|ab (rX rfl (by first | assumption | omega)) ?_
 refine ak rfl<|ab (qI rfl rfl rfl (by first | exact iU (by omega) | exact gm (by omega)) (by first | exact iU (by omega) | exact gm (by omega))) ?_
 refine ak rfl<|ak rfl<|ab (GY rfl rfl rfl (by first | exact iU (by omega) | exact gm (by omega)) (by first | exact iU (by omega) | exact gm (by omega))) ?_
 refine ab (rX rfl (by first | assumption | omega)) ?_
 refine ak rfl<|ab (qI rfl rfl rfl (by first | exact iU (by omega) | exact gm (by omega)) (by first | exact iU (by omega) | exact gm (by omega))) ?_
 refine ab (mV rfl rfl rfl (by first | exact iU (by omega) | exact gm (by omega)) (by first | exact iU (by omega) | exact gm (by omega))) ?_
 refine ab (dw (j:=31) rfl rfl (by first | decide | omega)) ?_
 refine aj rfl<|ag<|am<|E11 rfl rfl rfl ?_
 exact aF (by rw [y4 x y c hx hy hc];rfl)
theorem Hq:∀ m,m < 256→(⟨#[0,1,2,2,3,3,3,3,4,4,4,4,4,4,4,4,5,5,5,5,5,5,5,5,5,5,5,5,5,5,5,5,6,6,6,6,6,6,6,6,6,6,6,6,6,6,6,6,6,6,6,6,6,6,6,6,6,6,6,6,6,6,6,6,7,7,7,7,7,7,7,7,7,7,7,7,7,7,7,7,7,7,7,7,7,7,7,7,7,7,7,7,7,7,7,7,7,7,7,7,7,7,7,7,7,7,7,7,7,7,7,7,7,7,7,7,7,7,7,7,7,7,7,7,7,7,7,7,8,8,8,8,8,8,8,8,8,8,8,8,8,8,8,8,8,8,8,8,8,8,8,8,8,8,8,8,8,8,8,8,8,8,8,8,8,8,8,8,8,8,8,8,8,8,8,8,8,8,8,8,8,8,8,8,8,8,8,8,8,8,8,8,8,8,8,8,8,8,8,8,8,8,8,8,8,8,8,8,8,8,8,8,8,8,8,8,8,8,8,8,8,8,8,8,8,8,8,8,8,8,8,8,8,8,8,8,8,8,8,8,8,8,8,8,8,8,8,8,8,8,8,8,8,8,8,8]⟩:ByteArray)[m]?=some (UInt8.ofNat (bo m)):=by decide +kernel
theorem M4:∀ m,m < 256→(UInt8.ofNat (bo m)).toNat=bo m:=by decide +kernel
theorem nU {dst:Option Nat} {ty:TypeId} {pos:String} {af:Array Edge} {gd:Option (Nat × Bool)} {d:Nat} {ρ:Operand→AV} {own:Own} {x y:Operand} {m:Nat}
  (hx:ρ x=.p (.c (.v (.string ⟨#[0,1,2,2,3,3,3,3,4,4,4,4,4,4,4,4,5,5,5,5,5,5,5,5,5,5,5,5,5,5,5,5,6,6,6,6,6,6,6,6,6,6,6,6,6,6,6,6,6,6,6,6,6,6,6,6,6,6,6,6,6,6,6,6,7,7,7,7,7,7,7,7,7,7,7,7,7,7,7,7,7,7,7,7,7,7,7,7,7,7,7,7,7,7,7,7,7,7,7,7,7,7,7,7,7,7,7,7,7,7,7,7,7,7,7,7,7,7,7,7,7,7,7,7,7,7,7,7,8,8,8,8,8,8,8,8,8,8,8,8,8,8,8,8,8,8,8,8,8,8,8,8,8,8,8,8,8,8,8,8,8,8,8,8,8,8,8,8,8,8,8,8,8,8,8,8,8,8,8,8,8,8,8,8,8,8,8,8,8,8,8,8,8,8,8,8,8,8,8,8,8,8,8,8,8,8,8,8,8,8,8,8,8,8,8,8,8,8,8,8,8,8,8,8,8,8,8,8,8,8,8,8,8,8,8,8,8,8,8,8,8,8,8,8,8,8,8,8,8,8,8,8,8,8,8,8]⟩)))) (hy:ρ y=.p (.c (.v (.int .u8 m)))) (hm:m < 256):Eff Tryz.prog ⟨dst,.index 9 x y,ty,pos,af,gd⟩ d ρ own (.p (.c (.v (.int .u8 (bo m:Nat))))) [] none []:=by
 have h:=um (P:=Tryz.prog) (dst:=dst) (ty:=ty) (pos:=pos) (af:=af) (gd:=gd) (d:=d) (own:=own) hT (T:=9) rfl rfl hx hy (by omega) (by rw [Int.toNat_natCast];exact Hq m hm)
 rw [M4 m hm] at h
 exact h
theorem EJ (x:Nat) (hx:x < 4294967296) :
  aH Tryz.prog 233 [.p (.c (w32 x))] (Z (bo x)):=by
 refine aM Tryz.func233 rfl rfl rfl rfl ?_
 refine ae hP<|aj rfl<|ag<|ao<|ae hP<|ak rfl<|ab (dp rfl rfl)<|ag ?_
 refine ay rfl (fun hb1=>?_) (fun hb1=>?_)
 ·have hb1_:=dT0 hb1
  refine ae hP<|ak rfl<|ab (dw (j:=16) rfl rfl (by first | decide | omega)) ?_
  refine aj rfl<|ag<|aw hP<|aj rfl<|ag<|ao<|ae hP<|ak rfl<|ab (dp rfl rfl)<|ag ?_
  refine ay rfl (fun hb2=>?_) (fun hb2=>?_)
  ·have hb2_:=dT0 hb2
   refine ae hP<|ak rfl<|ab (dw (j:=8) rfl rfl (by first | decide | omega)) ?_
   refine aj rfl<|ag<|aw hP<|ak rfl<|bA rfl rfl ?_
   refine aj rfl<|ag<|ae hP<|ak rfl<|ak rfl<|ab (bn hT rfl rfl rfl rfl (IntWalk.u8_in _ (by omega))) ?_
   refine ab (nU rfl rfl (by omega)) ?_
   refine ab (bn hT rfl rfl rfl rfl (iW0 _ (by first | (have h8:=bS (m:=x / 2 ^ 16 / 2 ^ 8) (by omega);omega) | (have h8:=bS (m:=x / 2 ^ 16) (by omega);omega) | (have h8:=bS (m:=x / 2 ^ 8) (by omega);omega) | (have h8:=bS (m:=x) (by omega);omega)))) ?_
   refine ab (bN rfl rfl (iW0 _ (by first | (have h8:=bS (m:=x / 2 ^ 16 / 2 ^ 8) (by omega);omega) | (have h8:=bS (m:=x / 2 ^ 16) (by omega);omega) | (have h8:=bS (m:=x / 2 ^ 8) (by omega);omega) | (have h8:=bS (m:=x) (by omega);omega)))) ?_
   refine aj rfl<|ag<|am<|E1 rfl rfl ?_
   have e:bo x=16+(8+bo (x / 2 ^ 16 / 2 ^ 8)):=by rw [jw (k:=16) (by omega),jw (n:=x / 2 ^ 16) (k:=8) (by omega)]
   exact aK (by omega)
  have hb2_:=dF0 hb2
  refine au<|ae hP<|ak rfl<|ak rfl<|ab (bn hT rfl rfl rfl rfl (IntWalk.u8_in _ (by omega))) ?_
  refine ab (nU rfl rfl (by omega)) ?_
  refine ab (bn hT rfl rfl rfl rfl (iW0 _ (by first | (have h8:=bS (m:=x / 2 ^ 16 / 2 ^ 8) (by omega);omega) | (have h8:=bS (m:=x / 2 ^ 16) (by omega);omega) | (have h8:=bS (m:=x / 2 ^ 8) (by omega);omega) | (have h8:=bS (m:=x) (by omega);omega)))) ?_
  refine ab (bN rfl rfl (iW0 _ (by first | (have h8:=bS (m:=x / 2 ^ 16 / 2 ^ 8) (by omega);omega) | (have h8:=bS (m:=x / 2 ^ 16) (by omega);omega) | (have h8:=bS (m:=x / 2 ^ 8) (by omega);omega) | (have h8:=bS (m:=x) (by omega);omega)))) ?_
  refine aj rfl<|ag<|am<|E1 rfl rfl ?_
  have e:bo x=16+bo (x / 2 ^ 16):=by rw [jw (k:=16) (by omega)]
  exact aK (by omega)
 have hb1_:=dF0 hb1
 refine au<|ao<|ae hP<|ak rfl<|ab (dp rfl rfl)<|ag ?_
 refine ay rfl (fun hb3=>?_) (fun hb3=>?_)
 ·have hb3_:=dT0 hb3
  refine ae hP<|ak rfl<|ab (dw (j:=8) rfl rfl (by first | decide | omega)) ?_
  refine aj rfl<|ag<|aw hP<|ak rfl<|bA rfl rfl ?_
  refine aj rfl<|ag<|ae hP<|ak rfl<|ak rfl<|ab (bn hT rfl rfl rfl rfl (IntWalk.u8_in _ (by omega))) ?_
  refine ab (nU rfl rfl (by omega)) ?_
  refine ab (bn hT rfl rfl rfl rfl (iW0 _ (by first | (have h8:=bS (m:=x / 2 ^ 16 / 2 ^ 8) (by omega);omega) | (have h8:=bS (m:=x / 2 ^ 16) (by omega);omega) | (have h8:=bS (m:=x / 2 ^ 8) (by omega);omega) | (have h8:=bS (m:=x) (by omega);omega)))) ?_
  refine ab (bN rfl rfl (iW0 _ (by first | (have h8:=bS (m:=x / 2 ^ 16 / 2 ^ 8) (by omega);omega) | (have h8:=bS (m:=x / 2 ^ 16) (by omega);omega) | (have h8:=bS (m:=x / 2 ^ 8) (by omega);omega) | (have h8:=bS (m:=x) (by omega);omega)))) ?_
  refine aj rfl<|ag<|am<|E1 rfl rfl ?_
  have e:bo x=8+bo (x / 2 ^ 8):=by rw [jw (k:=8) (by omega)]
  exact aK (by omega)
 have hb3_:=dF0 hb3
 refine au<|ae hP<|ak rfl<|ak rfl<|ab (bn hT rfl rfl rfl rfl (IntWalk.u8_in _ (by omega))) ?_
 refine ab (nU rfl rfl (by omega)) ?_
 refine ab (bn hT rfl rfl rfl rfl (iW0 _ (by first | (have h8:=bS (m:=x / 2 ^ 16 / 2 ^ 8) (by omega);omega) | (have h8:=bS (m:=x / 2 ^ 16) (by omega);omega) | (have h8:=bS (m:=x / 2 ^ 8) (by omega);omega) | (have h8:=bS (m:=x) (by omega);omega)))) ?_
 refine ab (bN rfl rfl (iW0 _ (by first | (have h8:=bS (m:=x / 2 ^ 16 / 2 ^ 8) (by omega);omega) | (have h8:=bS (m:=x / 2 ^ 16) (by omega);omega) | (have h8:=bS (m:=x / 2 ^ 8) (by omega);omega) | (have h8:=bS (m:=x) (by omega);omega)))) ?_
 refine aj rfl<|ag<|am<|E1 rfl rfl ?_
 exact aK (by omega)
theorem NR (x:Nat) (hx:x < 4294967296) :
  aH Tryz.prog 206 [.p (.c (w32 x))] (Z (32 - (bo x:Nat))):=by
 have hb:=gH (k:=32) hx
 refine aM Tryz.func206 rfl rfl rfl rfl ?_
 refine ae hP<|aj rfl<|ag<|ae hP<|ak rfl<|ab (ah (EJ _ (by assumption))) ?_
 refine ab (bE rfl rfl (by first | exact iW0 _ (by omega) | rfl)) ?_
 refine aj rfl<|ag<|am<|E1 rfl rfl ?_
 exact .refl _
theorem MX (hi lo y:Nat) (hy:y < 4294967296) (hh:hi < y) (hl:lo < 4294967296) :
  aH Tryz.prog 238 [.p (.c (w32 hi)),.p (.c (w32 lo)),.p (.c (w32 y))] (.t [.c (w32 ((hi*4294967296+lo) / y)),.c (w32 ((hi*4294967296+lo) % y))]):=by
 have hq:(hi*4294967296+lo) / y < 4294967296:=(Nat.div_lt_iff_lt_mul (by omega)).2 (by have:(hi+1)*4294967296≤y*4294967296:=Nat.mul_le_mul_right _ hh;omega)
 have hr:(hi*4294967296+lo) % y < y:=Nat.mod_lt _ (by omega)
 refine aM Tryz.func238 rfl rfl rfl rfl ?_
 refine ae hP<|aj rfl<|aj rfl<|ag<|ao<|ae hP<|ak rfl<|ab (bq rfl rfl)<|ak rfl<|bv (a7 rfl rfl (bne_iff_ne.2 (by omega))) (az (rfl:_=AV.p (.c _))) ?_
 refine bv (a7 rfl rfl (bne_iff_ne.2 (by omega))) (az (rfl:_=AV.p (.c _))) ?_
 refine bv (a7 rfl rfl (bne_iff_ne.2 (by omega))) (ej rfl rfl) ?_
 refine ab (aO rfl (bne_iff_ne.2 (by omega)) (rfl:_=AV.p (.c _))) ?_
 refine ag<|aQ rfl (decide_eq_false (by omega)) ?_
 refine au<|ae hP<|ak rfl<|ab (bn hT rfl rfl rfl rfl (IntWalk.u64_in _ (by omega))) ?_
 refine ab (iB (j:=32) rfl rfl (by first | decide | omega) rfl) ?_
 refine ak rfl<|ab (bn hT rfl rfl rfl rfl (IntWalk.u64_in _ (by omega))) ?_
 refine ab (j6 rfl rfl (nr (by omega) hl)) ?_
 refine aj rfl<|ag<|ae hP<|ak rfl<|ak rfl<|ab (bn hT rfl rfl rfl rfl (IntWalk.u64_in _ (by omega))) ?_
 refine ab (cZ rfl rfl (by omega) (c:=(((hi*4294967296+lo) / y:Nat):Int)) (by rw [Int.tdiv_eq_ediv_of_nonneg (by omega),← Int.natCast_ediv,dc (by omega)])) ?_
 refine ab (bn hT rfl rfl rfl rfl (kN (by omega))) ?_
 refine ak rfl<|ak rfl<|ab (bn hT rfl rfl rfl rfl (IntWalk.u64_in _ (by omega))) ?_
 refine ab (bM rfl rfl (by omega) (c:=(((hi*4294967296+lo) % y:Nat):Int)) (by rw [Int.tmod_eq_emod_of_nonneg (by omega),← Int.natCast_emod])) ?_
 refine ab (bn hT rfl rfl rfl rfl (kN (by omega))) ?_
 refine aj rfl<|aj rfl<|ag<|am<|E11 rfl rfl rfl ?_
 exact .refl _
end
section
open Go Go.AM
theorem qM (m n:Nat) :
  aH Tryz.prog 59 [.p (.c (nt m)),.p (.c (nt n))] (Z (bB m n)):=by
 refine aM Tryz.func59 rfl rfl rfl rfl ?_
 refine jy (t:=0) rfl rfl (fun hlen=>?_)
 refine jy (t:=1) rfl rfl (fun hlen2=>?_)
 refine ae hP<|aj rfl<|ag<|ao<|ae hP<|ak rfl<|ab (aX hT rfl rfl rfl rfl)<|ak rfl<|ab (aX hT rfl rfl rfl rfl)<|ab (ah (oD _ _)) ?_
 refine aj rfl<|ag<|ae hP<|ak rfl<|ab (bq rfl rfl)<|ag ?_
 refine ay rfl (fun hb1=>?_) (fun hb1=>?_)
 ·have hb1_:=b8 hb1
  refine ae hP<|ak rfl<|aj rfl<|ag<|am<|E1 rfl rfl ?_
  exact aK (HW hb1_)
 have hb1_:=bU hb1
 refine au<|ao<|ae hP<|ak rfl<|ab (aX hT rfl rfl rfl rfl)<|ab (bE rfl rfl (by first | exact iW0 _ (by omega) | rfl)) ?_
 refine aj rfl<|ag<|aC ?_
 have hll:(wl m).length=(wl n).length:=by have:=kl hb1_;omega
 refine bl (ι:=Nat) (fun k=>stL [(0,.p (.c (nt m))),(1,.p (.c (nt n))),(6,Z ((k:Int) - 1))] []) (fun k=>k≤(wl m).length∧(wl m).drop k=(wl n).drop k) (fun k=>k) (wl m).length ⟨Nat.le_refl _,by rw [List.drop_length,hll,List.drop_length]⟩ (aE ⟨.refl _,.refl _,.refl _,trivial⟩ trivial) ?_
 rintro k ⟨hk,he⟩
 refine ao<|ae hP<|ak rfl<|ab (dp rfl rfl)<|ag ?_
 refine ay rfl (fun hb2=>?_) (fun hb2=>?_)
 ·have hb2_:=dT0 hb2
  refine au<|ao<|aC<|ae hP<|ak rfl<|ak rfl<|ab (cq hT rfl rfl rfl rfl rfl rfl (l:=(wl m).length) (xs:=(wl m).map w32) (by omega) (iY (by omega))) ?_
  refine cO hT rfl rfl rfl ?_
  refine ak rfl<|ak rfl<|ab (cq hT rfl rfl rfl rfl rfl rfl (l:=(wl n).length) (xs:=(wl n).map w32) (by omega) (iY (by omega))) ?_
  refine cO hT rfl rfl rfl ?_
  refine ab (ah (vZ _ _)) ?_
  refine aj rfl<|ag<|ae hP<|ak rfl<|ab (bq rfl rfl)<|ag ?_
  refine ay rfl (fun hb3=>?_) (fun hb3=>?_)
  ·have hb3_:=b8 hb3
   refine ae hP<|ak rfl<|aj rfl<|ag<|am<|E1 rfl rfl ?_
   have hkk:((k:Int) - 1).toNat=k - 1:=by omega
   rw [hkk] at hb3_ ⊢
   have h2:=vk (bG m) (bG n) hll (k:=k - 1) (by omega) (by rw [show k - 1+1=k by omega];exact he) hb3_
   rw [bH,bH] at h2
   exact aK h2
  have hb3_:=bU hb3
  refine au<|aw hP<|ak rfl<|ab (bE rfl rfl (by first | exact iW0 _ (by omega) | rfl)) ?_
  refine aj rfl<|ag ?_
  have hkk:((k:Int) - 1).toNat=k - 1:=by omega
  have he2:=kl hb3_
  rw [hkk] at he2
  refine ⟨k - 1,⟨by omega,?_⟩,by omega,aE ⟨.refl _,.refl _,aK (by omega),trivial⟩ trivial⟩
  have e1:=el (ws:=wl m) (k:=k - 1) (by omega)
  have e2:=el (ws:=wl n) (k:=k - 1) (by omega)
  rw [e1,e2,show k - 1+1=k by omega,he]
  congr 1
  omega
 have hb2_:=dF0 hb2
 refine aW<|ae hP<|aj rfl<|ag<|am<|E1 rfl rfl ?_
 have hk0:k=0:=by omega
 rw [hk0,List.drop_zero,List.drop_zero] at he
 have:m=n:=by rw [← bH m,he,bH]
 exact aK (by rw [this,iG])
theorem Hb (a b:List Nat) (ha:okW a) (hb:okW b) (hla:a.length≤1099511627776) (hlb:b.length≤1099511627776) :
  aH Tryz.prog 106 [.p (.c (W a)),.p (.c (W b))] (.p (.c (nt (wv a+wv b)))):=by
 refine aM Tryz.func106 rfl rfl rfl rfl ?_
 refine ae hP<|aj rfl<|ag<|cH (ι:=List Nat × List Nat) (fun ⟨p,q⟩=>stL [(0,.p (.c (W p))),(1,.p (.c (W q)))] []) (fun ⟨p,q⟩=>okW p∧okW q∧q.length≤p.length∧p.length≤1099511627776∧wv p+wv q=wv a+wv b) ?_ ?_
 ·refine ae hP<|ak rfl<|ab (aX hT rfl rfl rfl rfl)<|ak rfl<|ab (aX hT rfl rfl rfl rfl)<|ab (bh rfl rfl)<|ag ?_
  refine ay rfl (fun hb1=>?_) (fun hb1=>?_)
  ·have hb1_:=dT0 hb1
   refine aw hP<|ak rfl<|ak rfl<|aj rfl<|aj rfl<|ag ?_
   exact ⟨(b,a),⟨hb,ha,by omega,hlb,Nat.add_comm _ _⟩,aE ⟨.refl _,.refl _,trivial⟩ trivial⟩
  have hb1_:=dF0 hb1
  refine au ?_
  exact ⟨(a,b),⟨ha,hb,by omega,hla,rfl⟩,aE ⟨.refl _,.refl _,trivial⟩ trivial⟩
 clear hla hlb
 generalize hS:wv a+wv b=S
 clear ha hb
 rintro ⟨a,b⟩ ⟨ha,hb,hl,hla,hs⟩
 refine ae hP<|ak rfl<|ab (aX hT rfl rfl rfl rfl)<|bA rfl rfl ?_
 refine aq ai (eR hT rfl rfl rfl rfl rfl rfl rfl rfl (by omega)) ?_
 refine ab (a8 (rfl:_=AV.vec _))<|ag<|ae hP<|ab (az (rfl:_=AV.vec _))<|ak rfl<|RK.mut ai (mW hT rfl rfl rfl rfl rfl rfl rfl (by simp) (ws':=a ++ [0]) (by rw [B0])) ?_
 refine ag<|ae hP<|aj rfl<|ag<|ao<|ae hP<|ab (az (rfl:_=AV.vec _))<|ab (fj hT rfl rfl rfl rfl)<|ak rfl<|ag<|aC ?_
 have hA:okW (a ++ [0]):=ha.snoc (by omega)
 refine bl (ι:=List Nat × Nat) (fun ⟨l,c⟩=>stL [(1,.p (.c (W b))),(5,.vec 19),(6,.p (.c (w32 c))),(24,Z (((a ++ [0]).length:Nat):Int)),(25,Z ((l.length:Nat):Int))] [(19,WB 105 (l ++ (a ++ [0]).drop l.length))]) (fun ⟨l,c⟩=>l.length≤(a ++ [0]).length∧okW l∧c < 2∧wv l+4294967296 ^ l.length*c=wv ((a ++ [0]).take l.length)+wv (b.take l.length)) (fun ⟨l,_⟩=>(a ++ [0]).length - l.length) ([],0) ⟨Nat.zero_le _,okW.nil,by omega,by simp [wv]⟩ (aE ⟨.refl _,.refl _,.refl _,.refl _,.refl _,trivial⟩ ⟨rfl,trivial⟩) ?_
 rintro ⟨l,c⟩ ⟨hll,hol,hc,hv⟩
 have hmid:=qO hll
 have hAlen:(a ++ [0]).length=a.length+1:=by simp
 refine ae hP<|ab (bh rfl rfl)<|ag<|ao ?_
 refine ay rfl (fun hb2=>?_) (fun hb2=>?_)
 ·have hb2_:=dT0 hb2
  have hlt:l.length < (a ++ [0]).length:=by omega
  refine au<|ao<|aC<|ae hP<|ak rfl<|aj rfl<|ag<|ae hP<|aj rfl<|ag<|cH (ι:=Unit) (fun _=>stL [(1,.p (.c (W b))),(5,.vec 19),(6,.p (.c (w32 c))),(24,Z (((a ++ [0]).length:Nat):Int)),(25,Z ((l.length:Nat):Int)),(7,Z ((l.length:Nat):Int)),(8,.p (.c (w32 (b.getD l.length 0))))] [(19,WB 105 (l ++ (a ++ [0]).drop l.length))]) (fun _=>True) ?_ ?_
  ·refine ae hP<|ak rfl<|ak rfl<|ab (aX hT rfl rfl rfl rfl)<|ab (bh rfl rfl)<|ag ?_
   refine ay rfl (fun hb3=>?_) (fun hb3=>?_)
   ·have hb3_:=dT0 hb3
    refine aw hP<|ak rfl<|ak rfl<|c7 ?_
    refine cO hT rfl rfl rfl ?_
    refine aj rfl<|ag ?_
    exact ⟨(),trivial,aE ⟨.refl _,.refl _,.refl _,.refl _,.refl _,.refl _,.refl _,trivial⟩ ⟨rfl,trivial⟩⟩
   have hb3_:=dF0 hb3
   refine au ?_
   exact ⟨(),trivial,aE ⟨.refl _,.refl _,.refl _,.refl _,.refl _,.refl _,aF (by rw [qX (by omega)];rfl),trivial⟩ ⟨rfl,trivial⟩⟩
  rintro _ -
  refine aw hP<|ab (az (rfl:_=AV.vec _))<|ak rfl<|ab (az (rfl:_=AV.vec _))<|ak rfl<|du ?_
  refine ab (dF hT rfl rfl rfl rfl (by first | omega | (simp;omega)) (qP hlt)) ?_
  refine ak rfl<|ak rfl<|ab (ah (E6 _ _ _ (hA.getD _) (hb.getD _) (by omega))) ?_
  refine ab (az (rfl:_=AV.t _))<|ab (aD rfl (v:=.c _) rfl)<|ab (aD rfl (v:=.c _) rfl)<|du ?_
  refine dC ai (cG hT rfl rfl rfl rfl rfl (by first | omega | (simp;omega)) (qN hlt)) ?_
  refine aj rfl<|ag<|aw hP<|bA rfl rfl ?_
  refine ak rfl<|ag ?_
  have hs1:=hA.getD l.length
  have hs2:=hb.getD l.length
  have hr:=A3 (A:=(a ++ [0])) (b:=b) (_r:=[]) hlt rfl hv _ rfl
  refine ⟨(l ++ [((a ++ [0]).getD l.length 0+b.getD l.length 0+c) % 4294967296],((a ++ [0]).getD l.length 0+b.getD l.length 0+c) / 4294967296),⟨by simp;omega,hol.snoc (Nat.mod_lt _ (by omega)),by omega,by simpa using hr⟩,by simp;omega,aE ⟨.refl _,.refl _,.refl _,.refl _,aK (by simp),trivial⟩ ⟨rfl,trivial⟩⟩
 have hb2_:=dF0 hb2
 have hge:l.length=(a ++ [0]).length:=by omega
 have hfin:=hol.app (hA.drop l.length)
 have hval:=A6 hge hl ha hb hol hv
 refine aW<|cY (t:=5) rfl rfl ?_
 refine ae hP<|ak rfl<|ab (ah (fk _ hfin)) ?_
 refine aj rfl<|ag<|am<|E1 rfl rfl ?_
 exact aF (by rw [hval,hs])
end
section
open Go Go.AM
theorem wX (a b:List Nat) (ha:okW a) (hb:okW b) (hla:a.length≤1099511627776) (hab:b.length≤a.length) (hle:wv b≤wv a) :
  aH Tryz.prog 107 [.p (.c (W a)),.p (.c (W b))] (.p (.c (nt (wv a - wv b)))):=by
 refine aM Tryz.func107 rfl rfl rfl rfl ?_
 have h0l:(0:Nat)≤a.length:=Nat.zero_le _
 refine ae hP<|aj rfl<|ag<|ae hP<|ak rfl<|ab (aX hT rfl rfl rfl rfl)<|aq ai (eR hT rfl rfl rfl rfl rfl rfl rfl rfl (by omega)) ?_
 refine ab (a8 (rfl:_=AV.vec _))<|ag<|ae hP<|ab (az (rfl:_=AV.vec _))<|ak rfl<|RK.mut ai (mW hT rfl rfl rfl rfl rfl rfl rfl (by simp) (ws':=a) (by rw [B2,List.append_nil])) ?_
 refine ag<|ae hP<|aj rfl<|ag<|ao<|ae hP<|ab (az (rfl:_=AV.vec _))<|ab (fj hT rfl rfl rfl rfl)<|ak rfl<|ag<|aC<|bl (ι:=List Nat × Nat) (fun ⟨l,c⟩=>stL [(1,.p (.c (W b))),(5,.vec 11),(6,.p (.c (w32 c))),(16,Z ((a.length:Nat):Int)),(17,Z ((l.length:Nat):Int))] [(11,WB 105 (l ++ a.drop l.length))]) (fun ⟨l,c⟩=>l.length≤a.length∧okW l∧c < 2∧wv l+wv (b.take l.length)=wv (a.take l.length)+4294967296 ^ l.length*c) (fun ⟨l,_⟩=>a.length - l.length) ([],0) ⟨Nat.zero_le _,okW.nil,by omega,by simp [wv]⟩ (aE ⟨.refl _,.refl _,.refl _,.refl _,.refl _,trivial⟩ ⟨rfl,trivial⟩) ?_
 rintro ⟨l,c⟩ ⟨hll,hol,hc,hv⟩
 have hmid:=qO hll
 refine ae hP<|ab (bh rfl rfl)<|ag<|ao ?_
 refine ay rfl (fun hb1=>?_) (fun hb1=>?_)
 ·have hb1_:=dT0 hb1
  have hlt:l.length < a.length:=by omega
  refine au<|ao<|aC<|ae hP<|ak rfl<|aj rfl<|ag<|ae hP<|aj rfl<|ag<|cH (ι:=Unit) (fun _=>stL [(1,.p (.c (W b))),(5,.vec 11),(6,.p (.c (w32 c))),(16,Z ((a.length:Nat):Int)),(17,Z ((l.length:Nat):Int)),(7,Z ((l.length:Nat):Int)),(8,.p (.c (w32 (b.getD l.length 0))))] [(11,WB 105 (l ++ a.drop l.length))]) (fun _=>True) ?_ ?_
  ·refine ae hP<|ak rfl<|ak rfl<|ab (aX hT rfl rfl rfl rfl)<|ab (bh rfl rfl)<|ag ?_
   refine ay rfl (fun hb2=>?_) (fun hb2=>?_)
   ·have hb2_:=dT0 hb2
    refine aw hP<|ak rfl<|ak rfl<|c7 ?_
    refine cO hT rfl rfl rfl ?_
    refine aj rfl<|ag ?_
    exact ⟨(),trivial,aE ⟨.refl _,.refl _,.refl _,.refl _,.refl _,.refl _,.refl _,trivial⟩ ⟨rfl,trivial⟩⟩
   have hb2_:=dF0 hb2
   refine au ?_
   exact ⟨(),trivial,aE ⟨.refl _,.refl _,.refl _,.refl _,.refl _,.refl _,aF (by rw [qX (by omega)];rfl),trivial⟩ ⟨rfl,trivial⟩⟩
  rintro _ -
  refine aw hP<|ab (az (rfl:_=AV.vec _))<|ak rfl<|ab (az (rfl:_=AV.vec _))<|ak rfl<|du ?_
  refine ab (dF hT rfl rfl rfl rfl (by first | omega | (simp;omega)) (qP hlt)) ?_
  refine ak rfl<|ak rfl<|ab (ah (xL _ _ _ (ha.getD _) (hb.getD _) hc)) ?_
  refine ab (az (rfl:_=AV.t _))<|ab (aD rfl (v:=.c _) rfl)<|ab (aD rfl (v:=.c _) rfl)<|du ?_
  refine dC ai (cG hT rfl rfl rfl rfl rfl (by first | omega | (simp;omega)) (qN hlt)) ?_
  refine aj rfl<|ag<|aw hP<|bA rfl rfl ?_
  refine ak rfl<|ag ?_
  have hr:=zq rfl hc ha hb hv
  refine ⟨(l ++ [(a.getD l.length 0+8589934592 - b.getD l.length 0 - c) % 4294967296],if a.getD l.length 0 < b.getD l.length 0+c then 1 else 0),⟨by simp;omega,hol.snoc (Nat.mod_lt _ (by omega)),by split <;> omega,by simpa using hr⟩,by simp;omega,aE ⟨.refl _,.refl _,.refl _,.refl _,aK (by simp),trivial⟩ ⟨rfl,trivial⟩⟩
 have hb1_:=dF0 hb1
 have hge:l.length=a.length:=by omega
 have hfin:=hol.app (ha.drop l.length)
 have hval:=zr hge hab hle hol hv
 refine aW<|cY (t:=5) rfl rfl ?_
 refine ae hP<|ak rfl<|ab (ah (fk _ hfin)) ?_
 refine aj rfl<|ag<|am<|E1 rfl rfl ?_
 exact aF (by rw [hval])
theorem G9 (a b:List Nat) (ha:okW a) (hb:okW b) (hla:a.length≤1099511627776) (hlb:b.length≤1099511627776) :
  aH Tryz.prog 64 [.p (.c (W a)),.p (.c (W b))] (.p (.c (nt (wv a*wv b)))):=by
 refine aM Tryz.func64 rfl rfl rfl rfl ?_
 refine ae hP<|aj rfl<|ag<|ae hP<|ak rfl<|ab (aX hT rfl rfl rfl rfl)<|ak rfl<|ab (aX hT rfl rfl rfl rfl)<|bA rfl rfl ?_
 refine aq ai (eR hT rfl rfl rfl rfl rfl rfl rfl rfl (by omega)) ?_
 refine ab (a8 (rfl:_=AV.vec _))<|ag<|ao<|ae hP<|ak rfl<|ab (aX hT rfl rfl rfl rfl)<|ak rfl<|ag<|aC<|bl (ι:=List Nat × Nat) (fun ⟨o,i⟩=>stL [(1,.p (.c (W b))),(5,.vec 17),(18,.p (.c (W a))),(19,Z ((a.length:Nat):Int)),(20,Z (i:Int))] [(17,WB 105 o)]) (fun ⟨o,i⟩=>i≤a.length∧o.length=a.length+b.length∧okW o∧wv o=wv (a.take i)*wv b∧∀ j,i+b.length≤j→o.getD j 0=0) (fun ⟨_,i⟩=>a.length - i) (List.replicate ((a.length:Int)+(b.length:Int)).toNat 0,0) ⟨Nat.zero_le _,by simp;omega,okW.rep _,by rw [lh];simp [wv],fun j _=>me _ _⟩ (aE ⟨.refl _,.refl _,.refl _,.refl _,.refl _,trivial⟩ ⟨rfl,trivial⟩) ?_
 rintro ⟨o,i⟩ ⟨hi,hlo,ho,hv,hz⟩
 refine ae hP<|ab (bh rfl rfl)<|ag<|ao ?_
 refine ay rfl (fun hb1=>?_) (fun hb1=>?_)
 ·have hb1_:=dT0 hb1
  have hlt0:i < a.length:=by omega
  refine au<|ao<|aC<|ae hP<|ak rfl<|c7 ?_
  refine cO hT rfl rfl rfl ?_
  refine aj rfl<|aj rfl<|ag<|ae hP<|aj rfl<|ag<|ao<|ae hP<|ak rfl<|ab (aX hT rfl rfl rfl rfl)<|ak rfl<|ag<|aC ?_
  obtain ⟨o0,ho0⟩:∃ o0,o0=o:=⟨_,rfl⟩
  have hv0:=hv
  rw [← ho0] at hv
  refine bl (ι:=List Nat × Nat × Nat) (fun ⟨o,k,c⟩=>stL [(1,.p (.c (W b))),(5,.vec 17),(18,.p (.c (W a))),(19,Z ((a.length:Nat):Int)),(20,Z (i:Int)),(6,Z (i:Int)),(7,.p (.c (w32 (a.getD i 0)))),(8,.p (.c (.v (.int .u64 (c:Nat))))),(25,.p (.c (W b))),(26,Z ((b.length:Nat):Int)),(27,Z (k:Int))] [(17,WB 105 o)]) (fun ⟨o,k,c⟩=>k≤b.length∧o.length=a.length+b.length∧okW o∧c < 4294967296∧wv o+4294967296 ^ (i+k)*c=wv o0+4294967296 ^ i*(a.getD i 0*wv (b.take k))∧∀ j,i+b.length≤j→o.getD j 0=0) (fun ⟨_,k,_⟩=>b.length - k) (o,0,0) ⟨Nat.zero_le _,hlo,ho,by omega,by rw [ho0];simp [wv],hz⟩ (aE ⟨.refl _,.refl _,.refl _,.refl _,.refl _,.refl _,.refl _,.refl _,.refl _,.refl _,.refl _,trivial⟩ ⟨rfl,trivial⟩) ?_
  clear hlo ho hz hv0 ho0
  rintro ⟨o,k,c⟩ ⟨hk,hlo,ho,hc,hkv,hz⟩
  refine ae hP<|ab (bh rfl rfl)<|ag<|ao ?_
  refine ay rfl (fun hb2=>?_) (fun hb2=>?_)
  ·have hb2_:=dT0 hb2
   have hlt:k < b.length:=by omega
   have ha1:=ha.getD i
   have hb1v:=hb.getD k
   have hp1:=Nat.mul_le_mul (Nat.le_sub_one_of_lt (ha.getD i)) (Nat.le_sub_one_of_lt (hb.getD k))
   have ho1:=ho.getD (i+k)
   refine au<|ao<|aC<|ae hP<|ak rfl<|c7 ?_
   refine cO hT rfl rfl rfl ?_
   refine aj rfl<|aj rfl<|ag<|ae hP<|ak rfl<|ab (bn hT rfl rfl rfl rfl (dc (by omega))) ?_
   refine ak rfl<|ab (bn hT rfl rfl rfl rfl (dc (by omega))) ?_
   refine ab (bQ rfl rfl (c:=((a.getD i 0*b.getD k 0:Nat):Int)) (by rw [← Int.natCast_mul,dc (by omega)])) ?_
   refine ab (az (rfl:_=AV.vec _))<|ak rfl<|ak rfl<|ab (bN rfl rfl (c:=((i+k:Nat):Int)) (by rw [iW0 _ (by omega)];omega)) ?_
   refine du ?_
   refine ab (dF hT rfl rfl rfl rfl (by first | omega | (simp;omega)) rfl) ?_
   refine ab (bn hT rfl rfl rfl rfl (dc (by omega))) ?_
   refine ab (bN rfl rfl (c:=((a.getD i 0*b.getD k 0+o.getD (i+k) 0:Nat):Int)) (by rw [← Int.natCast_add,dc (by omega)])) ?_
   refine ak rfl<|ab (bN rfl rfl (c:=((a.getD i 0*b.getD k 0+o.getD (i+k) 0+c:Nat):Int)) (by rw [← Int.natCast_add,dc (by omega)])) ?_
   refine aj rfl<|ag<|aw hP<|ab (az (rfl:_=AV.vec _))<|ak rfl<|ak rfl<|ab (bN rfl rfl (c:=((i+k:Nat):Int)) (by rw [iW0 _ (by omega)];omega)) ?_
   refine ak rfl<|ab (bn hT rfl rfl rfl rfl (c:=(((a.getD i 0*b.getD k 0+o.getD (i+k) 0+c) % 4294967296:Nat):Int)) (by rw [IntKind.wrap_u32];omega)) ?_
   refine ak rfl<|ab (dw (j:=32) rfl rfl (by first | decide | omega)) ?_
   refine du ?_
   refine dC ai (cG hT rfl rfl rfl rfl rfl (by first | omega | (simp;omega)) rfl) ?_
   refine aj rfl<|ag<|aw hP<|bA rfl rfl ?_
   refine ak rfl<|ag ?_
   have hr:=rY (b:=b) (x:=a.getD i 0) (i:=i) (k:=k) (t:=a.getD i 0*b.getD k 0+o.getD (i+k) 0+c) (by omega) rfl hkv
   refine ⟨(o.set (i+k) ((a.getD i 0*b.getD k 0+o.getD (i+k) 0+c) % 4294967296),k+1,(a.getD i 0*b.getD k 0+o.getD (i+k) 0+c) / 4294967296),⟨by omega,by simpa using hlo,ho.set (Nat.mod_lt _ (by omega)),(Nat.div_lt_iff_lt_mul (by omega)).2 (by omega),hr,fun j hj=>?_⟩,by show b.length - (k+1) < b.length - k;omega,aE ⟨.refl _,.refl _,.refl _,.refl _,.refl _,.refl _,.refl _,.refl _,.refl _,.refl _,.refl _,trivial⟩ ⟨rfl,trivial⟩⟩
   rw [fC _ _ _ _ (by omega),if_neg (by omega)]
   exact hz j (by omega)
  have hb2_:=dF0 hb2
  have hke:k=b.length:=by omega
  subst hke
  refine aW<|aw hP<|ab (az (rfl:_=AV.vec _))<|ak rfl<|ak rfl<|ab (aX hT rfl rfl rfl rfl)<|ab (bN rfl rfl (c:=((i+b.length:Nat):Int)) (by rw [iW0 _ (by omega)];omega)) ?_
  refine ak rfl<|ab (bn hT rfl rfl rfl rfl (kN (by omega))) ?_
  refine du ?_
  refine dC ai (cG hT rfl rfl rfl rfl rfl (by first | omega | (simp;omega)) rfl) ?_
  refine ag<|aw hP<|bA rfl rfl ?_
  refine ak rfl<|ag ?_
  have hov:=r5 (o:=o0) (a:=a) (by omega) (hz _ (Nat.le_refl _)) rfl hv hkv
  refine ⟨(o.set (i+b.length) c,i+1),⟨by omega,by simpa using hlo,ho.set (by omega),hov,fun j hj=>?_⟩,by show a.length - (i+1) < a.length - i;omega,aE ⟨.refl _,.refl _,.refl _,.refl _,.refl _,trivial⟩ ⟨rfl,trivial⟩⟩
  rw [fC _ _ _ _ (by omega),if_neg (by omega)]
  exact hz j (by omega)
 have hb1_:=dF0 hb1
 have hie:i=a.length:=by omega
 refine aW<|cY (t:=5) rfl rfl ?_
 refine ae hP<|ak rfl<|ab (ah (fk _ ho)) ?_
 refine aj rfl<|ag<|am<|E1 rfl rfl ?_
 exact aF (by rw [hv,hie,List.take_length])
end
section
open Go Go.AM
theorem qK (a:List Nat) (k:Nat) (ha:okW a) (hla:a.length≤1099511627776) (hk:k≤1099511627776) :
  aH Tryz.prog 207 [.p (.c (W a)),Z (k:Int)] (.p (.c (nt (wv a*2 ^ k)))):=by
 refine aM Tryz.func207 rfl rfl rfl rfl ?_
 obtain ⟨q,hq⟩:∃ q,q=k / 32:=⟨_,rfl⟩
 obtain ⟨s,hs⟩:∃ s,s=k % 32:=⟨_,rfl⟩
 have hks:k=32*q+s:=by omega
 have hs32:s < 32:=by omega
 refine ae hP<|aj rfl<|ag<|ae hP<|ak rfl<|ab (aX hT rfl rfl rfl rfl)<|ak rfl<|ab (cZ rfl rfl (by decide) (c:=((q:Nat):Int)) (by rw [Int.tdiv_eq_ediv_of_nonneg (by omega),iW0 _ (by omega)];omega)) ?_
 refine ab (bN rfl rfl (c:=((a.length+q:Nat):Int)) (by rw [iW0 _ (by omega)];omega)) ?_
 refine ab (bN rfl rfl (c:=((a.length+q+1:Nat):Int)) (by rw [iW0 _ (by omega)];omega)) ?_
 refine aq ai (eR hT rfl rfl rfl rfl rfl rfl rfl rfl (by omega)) ?_
 refine ab (a8 (rfl:_=AV.vec _))<|ag<|ao<|ae hP<|ak rfl<|ab (aX hT rfl rfl rfl rfl)<|ak rfl<|ag<|aC<|bl (ι:=List Nat × Nat) (fun ⟨o,i⟩=>stL [(1,Z (k:Int)),(5,.vec 15),(16,.p (.c (W a))),(17,Z ((a.length:Nat):Int)),(18,Z (i:Int))] [(15,WB 105 o)]) (fun ⟨o,i⟩=>i≤a.length∧o.length=a.length+q+1∧okW o∧wv o=wv (a.take i)*2 ^ k∧o.getD (i+q) 0 < 2 ^ s∧∀ j,i+q < j→o.getD j 0=0) (fun ⟨_,i⟩=>a.length - i) (List.replicate ((a.length+q+1:Nat):Int).toNat 0,0) ⟨Nat.zero_le _,by simp;omega,okW.rep _,by rw [lh];simp [wv],by rw [me];exact Nat.two_pow_pos s,fun j _=>me _ _⟩ (aE ⟨.refl _,.refl _,.refl _,.refl _,.refl _,trivial⟩ ⟨rfl,trivial⟩) ?_
 rintro ⟨o,i⟩ ⟨hi,hlo,ho,hv,hlow,hz⟩
 refine ae hP<|ab (bh rfl rfl)<|ag<|ao ?_
 refine ay rfl (fun hb1=>?_) (fun hb1=>?_)
 ·have hb1_:=dT0 hb1
  have hlt:i < a.length:=by omega
  have hai:=ha.getD i
  have hoi:=ho.getD (i+q)
  have hti:a.getD i 0*2 ^ s / 4294967296 < 4294967296:=zz hai hs32
  refine au<|ao<|aC<|ae hP<|ak rfl<|c7 ?_
  refine cO hT rfl rfl rfl ?_
  refine aj rfl<|aj rfl<|ag<|ae hP<|ak rfl<|ab (bn hT rfl rfl rfl rfl (dc (by omega))) ?_
  refine ak rfl<|ab (bM rfl rfl (by decide) (c:=((s:Nat):Int)) (by rw [Int.tmod_eq_emod_of_nonneg (by omega)];omega)) ?_
  refine ab (lv rfl rfl (by omega) (c:=((a.getD i 0*2 ^ s:Nat):Int)) (xQ hai hs32)) ?_
  refine aj rfl<|ag<|ae hP<|ab (az (rfl:_=AV.vec _))<|ak rfl<|ak rfl<|ab (cZ rfl rfl (by decide) (c:=((q:Nat):Int)) (by rw [Int.tdiv_eq_ediv_of_nonneg (by omega),iW0 _ (by omega)];omega)) ?_
  refine ab (bN rfl rfl (c:=((i+q:Nat):Int)) (by rw [iW0 _ (by omega)];omega)) ?_
  refine du ?_
  refine ab (dF hT rfl rfl rfl rfl (by first | omega | (simp;omega)) rfl) ?_
  refine ak rfl<|ab (bn hT rfl rfl rfl rfl (c:=((a.getD i 0*2 ^ s % 4294967296:Nat):Int)) (by rw [IntKind.wrap_u32];omega)) ?_
  refine ab (mV rfl rfl rfl (iU hoi) (iU (Nat.mod_lt _ (by omega)))) ?_
  refine du ?_
  refine dC ai (cG hT rfl rfl rfl rfl rfl (by first | omega | (simp;omega)) rfl) ?_
  refine ag<|aw hP<|ab (az (rfl:_=AV.vec _))<|ak rfl<|ak rfl<|ab (cZ rfl rfl (by decide) (c:=((q:Nat):Int)) (by rw [Int.tdiv_eq_ediv_of_nonneg (by omega),iW0 _ (by omega)];omega)) ?_
  refine ab (bN rfl rfl (c:=((i+q:Nat):Int)) (by rw [iW0 _ (by omega)];omega)) ?_
  refine ab (bN rfl rfl (c:=((i+q+1:Nat):Int)) (by rw [iW0 _ (by omega)];omega)) ?_
  refine ak rfl<|ab (dw (j:=32) rfl rfl (by decide)) ?_
  refine ab (bn hT rfl rfl rfl rfl (c:=((a.getD i 0*2 ^ s / 4294967296:Nat):Int)) (kN hti)) ?_
  refine du ?_
  refine dC ai (cG hT rfl rfl rfl rfl rfl (by first | omega | (simp;omega)) rfl) ?_
  refine ag<|aw hP<|bA rfl rfl ?_
  refine ak rfl<|ag ?_
  have hr:=zy (a:=a) (x:=a.getD i 0) hks hs32 (by omega) rfl hlow (hz _ (by omega)) hv
  have hts:a.getD i 0*2 ^ s / 4294967296 < 2 ^ s:=by
   rw [Nat.div_lt_iff_lt_mul (by omega),Nat.mul_comm];exact Nat.mul_lt_mul_of_pos_left hai (Nat.two_pow_pos s)
  refine ⟨((o.set (i+q) (o.getD (i+q) 0 ||| a.getD i 0*2 ^ s % 4294967296)).set (i+q+1) (a.getD i 0*2 ^ s / 4294967296),i+1),⟨by omega,by simpa using hlo,(ho.set (Nat.or_lt_two_pow (n:=32) hoi (Nat.mod_lt _ (by omega)))).set hti,hr,?_,fun j hj=>?_⟩,by show a.length - (i+1) < a.length - i;omega,aE ⟨.refl _,.refl _,.refl _,.refl _,.refl _,trivial⟩ ⟨rfl,trivial⟩⟩
  ·rw [show i+1+q=i+q+1 by omega,fC _ _ _ _ (by simp;omega),if_pos rfl];exact hts
  rw [fC _ _ _ _ (by simp;omega),if_neg (by omega),fC _ _ _ _ (by omega),if_neg (by omega)]
  exact hz j (by omega)
 have hb1_:=dF0 hb1
 have hie:i=a.length:=by omega
 refine aW<|cY (t:=5) rfl rfl ?_
 refine ae hP<|ak rfl<|ab (ah (fk _ ho)) ?_
 refine aj rfl<|ag<|am<|E1 rfl rfl ?_
 exact aF (by rw [hv,hie,List.take_length])
theorem G8 (a:List Nat) (k:Nat) (ha:okW a) (hla:a.length≤1099511627776) (hk:k < 32) :
  aH Tryz.prog 208 [.p (.c (W a)),Z (k:Int)] (.p (.c (nt (wv a / 2 ^ k)))):=by
 refine aM Tryz.func208 rfl rfl rfl rfl ?_
 have h0l:(0:Nat)≤a.length:=Nat.zero_le _
 refine ae hP<|aj rfl<|ag<|ae hP<|ak rfl<|ab (aX hT rfl rfl rfl rfl)<|aq ai (eR hT rfl rfl rfl rfl rfl rfl rfl rfl (by omega)) ?_
 refine ab (a8 (rfl:_=AV.vec _))<|ag<|ao<|ae hP<|ab (az (rfl:_=AV.vec _))<|ab (fj hT rfl rfl rfl rfl)<|ak rfl<|ag<|aC<|bl (ι:=List Nat × Nat) (fun ⟨o,i⟩=>stL [(0,.p (.c (W a))),(1,Z (k:Int)),(5,.vec 10),(12,Z ((a.length:Nat):Int)),(13,Z (i:Int))] [(10,WB 105 o)]) (fun ⟨o,i⟩=>i≤a.length∧o.length=a.length∧∀ j,j < i→o.getD j 0=jh a k j) (fun ⟨_,i⟩=>a.length - i) (List.replicate ((a.length:Nat):Int).toNat 0,0) ⟨Nat.zero_le _,by simp,fun j hj=>by omega⟩ (aE ⟨.refl _,.refl _,.refl _,aK (by simp),.refl _,trivial⟩ ⟨rfl,trivial⟩) ?_
 rintro ⟨o,i⟩ ⟨hi,hlo,hv⟩
 refine ae hP<|ab (bh rfl rfl)<|ag<|ao ?_
 refine ay rfl (fun hb1=>?_) (fun hb1=>?_)
 ·have hb1_:=dT0 hb1
  have hlt:i < a.length:=by omega
  have hai:=ha.getD i
  refine au<|ao<|aC<|ae hP<|ak rfl<|aj rfl<|ag<|ae hP<|ak rfl<|ak rfl<|c7 ?_
  refine cO hT rfl rfl rfl ?_
  refine ab (bn hT rfl rfl rfl rfl (dc (by omega))) ?_
  refine aj rfl<|ag<|cH (ι:=Unit) (fun _=>stL [(0,.p (.c (W a))),(1,Z (k:Int)),(5,.vec 10),(12,Z ((a.length:Nat):Int)),(13,Z (i:Int)),(6,Z (i:Int)),(7,.p (.c (.v (.int .u64 ((a.getD i 0+4294967296*a.getD (i+1) 0:Nat):Int)))))] [(10,WB 105 o)]) (fun _=>True) ?_ ?_
  ·refine ae hP<|ak rfl<|ab (bN rfl rfl (c:=((i+1:Nat):Int)) (by rw [iW0 _ (by omega)];omega)) ?_
   refine ak rfl<|ab (aX hT rfl rfl rfl rfl)<|ab (bh rfl rfl)<|ag ?_
   refine ay rfl (fun hb2=>?_) (fun hb2=>?_)
   ·have hb2_:=dT0 hb2
    refine aw hP<|ak rfl<|ak rfl<|ak rfl<|ab (bN rfl rfl (c:=((i+1:Nat):Int)) (by rw [iW0 _ (by omega)];omega)) ?_
    refine c7 ?_
    refine cO hT rfl rfl rfl ?_
    refine ab (bn hT rfl rfl rfl rfl (dc (by have:=ha.getD (i+1);omega))) ?_
    refine ab (iB (j:=32) rfl rfl (by decide) rfl) ?_
    refine ab (j6 rfl rfl (c:=((a.getD i 0+4294967296*a.getD (i+1) 0:Nat):Int)) (by rw [nq hai (ha.getD (i+1))])) ?_
    refine aj rfl<|ag ?_
    exact ⟨(),trivial,aE ⟨.refl _,.refl _,.refl _,.refl _,.refl _,.refl _,.refl _,trivial⟩ ⟨rfl,trivial⟩⟩
   have hb2_:=dF0 hb2
   refine au ?_
   exact ⟨(),trivial,aE ⟨.refl _,.refl _,.refl _,.refl _,.refl _,.refl _,aK (by rw [qX (k:=i+1) (by omega)];omega),trivial⟩ ⟨rfl,trivial⟩⟩
  rintro _ -
  have hai2:=ha.getD (i+1)
  refine aw hP<|ab (az (rfl:_=AV.vec _))<|ak rfl<|ak rfl<|ak rfl<|ab (dw (j:=k) rfl rfl (by show k≤64;omega)) ?_
  refine ab (bn hT rfl rfl rfl rfl (c:=((jh a k i:Nat):Int)) (by rw [IntKind.wrap_u32];unfold jh;omega)) ?_
  refine du ?_
  refine dC ai (cG hT rfl rfl rfl rfl rfl (by first | omega | (simp;omega)) rfl) ?_
  refine ag<|aw hP<|bA rfl rfl ?_
  refine ak rfl<|ag ?_
  refine ⟨(o.set i (jh a k i),i+1),⟨by omega,by simpa using hlo,fun j hj=>?_⟩,by show a.length - (i+1) < a.length - i;omega,aE ⟨.refl _,.refl _,.refl _,.refl _,.refl _,trivial⟩ ⟨rfl,trivial⟩⟩
  rw [fC _ _ _ _ (by omega)]
  split
  ·subst_vars;rfl
  exact hv j (by omega)
 have hb1_:=dF0 hb1
 have hie:i=a.length:=by omega
 have hoe:=Gd (hie ▸ hv) hlo
 have hook:=Ji a k
 refine aW<|cY (t:=5) rfl rfl ?_
 refine ae hP<|ak rfl<|ab (ah (fk _ (hoe ▸ hook))) ?_
 refine aj rfl<|ag<|am<|E1 rfl rfl ?_
 exact aF (by rw [hoe,wo k hk a ha])
theorem vX (a:List Nat) (d:Nat) (ha:okW a) (hla:a.length≤1099511627776) (hd:0 < d) (hd2:d < 4294967296) :
  aH Tryz.prog 205 [.p (.c (W a)),.p (.c (w32 d))] (.t [.c (nt (wv a / d)),.c (w32 (wv a % d))]):=by
 refine aM Tryz.func205 rfl rfl rfl rfl ?_
 have h0l:(0:Nat)≤a.length:=Nat.zero_le _
 refine ae hP<|aj rfl<|aj rfl<|ag<|ae hP<|ak rfl<|ab (aX hT rfl rfl rfl rfl)<|aq ai (eR hT rfl rfl rfl rfl rfl rfl rfl rfl (by omega)) ?_
 refine ab (a8 (rfl:_=AV.vec _))<|ag<|ae hP<|aj rfl<|ag<|ao<|ae hP<|ak rfl<|ab (aX hT rfl rfl rfl rfl)<|ab (bE rfl rfl (by first | exact iW0 _ (by omega) | rfl)) ?_
 refine aj rfl<|ag<|aC<|bl (ι:=List Nat × Nat × Nat) (fun ⟨o,i,r⟩=>stL [(0,.p (.c (W a))),(1,.p (.c (w32 d))),(6,.vec 11),(7,.p (.c (w32 r))),(8,Z ((i:Int) - 1))] [(11,WB 105 o)]) (fun ⟨o,i,r⟩=>i≤a.length∧o.length=a.length∧okW o∧r < d∧wv (a.drop i)=d*wv (o.drop i)+r) (fun ⟨_,i,_⟩=>i) (List.replicate ((a.length:Nat):Int).toNat 0,a.length,0) ⟨Nat.le_refl _,by simp,okW.rep _,hd,by simp [wv]⟩ (aE ⟨.refl _,.refl _,.refl _,.refl _,.refl _,trivial⟩ ⟨rfl,trivial⟩) ?_
 rintro ⟨o,i,r⟩ ⟨hi,hlo,ho,hr,hv⟩
 refine ao<|ae hP<|ak rfl<|ab (dp rfl rfl)<|ag ?_
 refine ay rfl (fun hb1=>?_) (fun hb1=>?_)
 ·have hb1_:=dT0 hb1
  obtain ⟨i,rfl⟩:∃ k,i=k+1:=⟨i - 1,by omega⟩
  have hc:((i+1:Nat):Int) - 1=(i:Int):=by omega
  have hai:=ha.getD i
  have hq:(r*4294967296+a.getD i 0) / d < 4294967296:=(Nat.div_lt_iff_lt_mul hd).2 (by have:(r+1)*4294967296≤d*4294967296:=Nat.mul_le_mul_right _ hr;omega)
  refine dz (t:=stL [(0,.p (.c (W a))),(1,.p (.c (w32 d))),(6,.vec 11),(7,.p (.c (w32 r))),(8,Z (i:Int))] [(11,WB 105 o)]) (aE ⟨.refl _,.refl _,.refl _,.refl _,aK hc,trivial⟩ ⟨rfl,trivial⟩) ?_
  refine au<|ao<|aC<|aw hP<|ab (az (rfl:_=AV.vec _))<|ak rfl<|ak rfl<|ak rfl<|ak rfl<|c7 ?_
  refine cO hT rfl rfl rfl ?_
  refine ak rfl<|ab (ah (MX _ _ _ hd2 hr hai)) ?_
  refine ab (az (rfl:_=AV.t _))<|ab (aD rfl (v:=.c _) rfl)<|ab (aD rfl (v:=.c _) rfl)<|du ?_
  refine dC ai (cG hT rfl rfl rfl rfl rfl (by first | omega | (simp;omega)) rfl) ?_
  refine aj rfl<|ag<|aw hP<|ak rfl<|ab (bE rfl rfl (by first | exact iW0 _ (by omega) | rfl)) ?_
  refine aj rfl<|ag ?_
  refine ⟨(o.set i ((r*4294967296+a.getD i 0) / d),i,(r*4294967296+a.getD i 0) % d),⟨by omega,by simpa using hlo,ho.set hq,Nat.mod_lt _ hd,yS (by omega) hlo hv hd⟩,by show i < i+1;omega,aE ⟨.refl _,.refl _,.refl _,.refl _,aK (by omega),trivial⟩ ⟨rfl,trivial⟩⟩
 have hb1_:=dF0 hb1
 have hie:i=0:=by omega
 subst hie
 refine aW<|cY (t:=6) rfl rfl ?_
 refine ae hP<|ak rfl<|ab (ah (fk _ ho)) ?_
 refine ak rfl<|aj rfl<|aj rfl<|ag<|am<|E11 rfl rfl rfl ?_
 rw [List.drop_zero,List.drop_zero] at hv
 have e1:wv a / d=wv o:=by rw [hv,Nat.mul_add_div hd,Nat.div_eq_of_lt hr,Nat.add_zero]
 have e2:wv a % d=r:=by rw [hv,Nat.mul_add_mod,Nat.mod_eq_of_lt hr]
 exact aF (by rw [e1,e2])
end
section
open Go Go.AM
theorem Ha (a b:Nat) (hla:(wl a).length≤1099511627776) (hb:0 < b) :
  aH Tryz.prog 171 [.p (.c (nt a)),.p (.c (nt b))] (.t [.c (nt (a / b)),.c (nt (a % b))]):=by
 refine aM Tryz.func171 rfl rfl rfl rfl ?_
 have h0l:(0:Nat)≤(wl a).length:=Nat.zero_le _
 have hbl:=dE b
 refine ae hP<|aj rfl<|aj rfl<|ag<|ao<|ae hP<|ak rfl<|ak rfl<|ab (ah (qM a b)) ?_
 refine ab (bh rfl rfl)<|ag ?_
 refine ay rfl (fun hb1=>?_) (fun hb1=>?_)
 ·have hb1_:=dT0 hb1
  have hlt:a < b:=by
   unfold bB at *;split at * <;> first | omega | (split at * <;> omega)
  refine ae hP<|ak rfl<|aj rfl<|aj rfl<|ag<|am<|E11 rfl rfl rfl ?_
  exact Sub.tup ⟨fun _ _ h=>DSub.of_eq (by rw [Nat.div_eq_of_lt hlt];rfl) _ _ (DSub.nil_sl _ _ h),DSub.of_eq (by rw [Nat.mod_eq_of_lt hlt]),trivial⟩
 have hb1_:=dF0 hb1
 have hab:b≤a:=by
  unfold bB at *;split at * <;> first | omega | (split at * <;> omega)
 have hll:=fM hab
 refine au<|ao<|ae hP<|ak rfl<|ab (aX hT rfl rfl rfl rfl)<|ab (bj rfl rfl)<|ag ?_
 refine ay rfl (fun hb2=>?_) (fun hb2=>?_)
 ·have hb2_:=bT hb2
  have h1:(wl b).length=1:=by omega
  have hd2:=(bG b).getD 0
  have hbe:b=(wl b).getD 0 0:=by
   have:=nR (n:=0) h1
   rw [bH] at this;simpa [wv] using this
  have hmod:wv (wl a) % (wl b).getD 0 0 < 4294967296:=Nat.lt_trans (Nat.mod_lt _ (by omega)) hd2
  have hr1:okW [wv (wl a) % (wl b).getD 0 0]:=by intro x hx;rw [List.mem_singleton.1 hx];exact hmod
  have hd1:0 < (wl b).getD 0 0:=by omega
  have hdiv:a / (wl b).getD 0 0=a / b∧a % (wl b).getD 0 0=a % b:=by rw [← hbe];exact ⟨rfl,rfl⟩
  refine ae hP<|ak rfl<|ak rfl<|c7 ?_
  refine cO hT rfl rfl rfl ?_
  refine ab (ah (vX (wl a) ((wl b).getD 0 0) (bG a) hla hd1 hd2)) ?_
  refine ab (az (rfl:_=AV.t _))<|ab (aD rfl (v:=.c _) rfl)<|ab (aD rfl (v:=.c _) rfl)<|aj rfl<|aj rfl<|ag<|ae hP<|ak rfl<|ak rfl<|ab (bg hT rfl rfl rfl (es:=[_]) rfl rfl rfl)<|ab (ah (fk [_] hr1)) ?_
  refine aj rfl<|aj rfl<|ag<|am<|E11 rfl rfl rfl ?_
  exact aF (by rw [bH,hdiv.1,hdiv.2];simp [wv])
 have hb2_:=bF hb2
 obtain ⟨k,hk⟩:∃ k,(wl b).length=k+1+1:=by
  refine ⟨(wl b).length - 2,?_⟩
  have:(wl b).length≠0:=by intro h;rw [h] at hbl;omega
  omega
 obtain ⟨s,hs⟩:∃ s,s=32 - bo ((wl b).getD (k+1) 0):=⟨_,rfl⟩
 obtain ⟨hn1,hn2,hs32,hbp⟩:=yx hk hs
 have hb3:bo ((wl b).getD (k+1) 0)≤32:=gH (k:=32) (by simpa using (bG b).getD (k+1))
 have hsl:=Gf (m:=a) hs32
 have hva:=bH a
 have hvb:=bH b
 obtain ⟨v,hv⟩:∃ v,v=wl (b*2 ^ s):=⟨_,rfl⟩
 obtain ⟨x,hx⟩:∃ x,x=wl (a*2 ^ s):=⟨_,rfl⟩
 have okv:okW v:=hv ▸ bG _
 have okx:okW x:=hx ▸ bG _
 have hwv:wv v=b*2 ^ s:=by rw [hv,bH]
 have hwx:wv x=a*2 ^ s:=by rw [hx,bH]
 have cb:aH Tryz.prog 207 [.p (.c (nt b)),Z (s:Int)] (.p (.c (W v))):=by
  have:=qK (wl b) s (bG b) (by omega) (by omega)
  rw [hvb] at this;rw [hv];exact this
 have ca:aH Tryz.prog 207 [.p (.c (nt a)),Z (s:Int)] (.p (.c (W x))):=by
  have:=qK (wl a) s (bG a) (by omega) (by omega)
  rw [hva] at this;rw [hx];exact this
 rw [← hv] at hn1 hn2
 rw [← hx] at hsl
 obtain ⟨u0,hu0⟩:∃ u0,u0=x ++ (List.replicate ((((wl a).length:Nat):Int)+1).toNat 0).drop x.length:=⟨_,rfl⟩
 have hu0l:u0.length=(wl a).length+1:=by rw [hu0];simp;omega
 have oku0:okW u0:=by rw [hu0];exact okx.app ((okW.rep _).drop _)
 have hwu0:wv u0=a*2 ^ s:=by
  rw [hu0,fX,List.drop_replicate,lh,Nat.mul_zero,Nat.add_zero,hwx]
 refine au<|ae hP<|ak rfl<|ak rfl<|ab (aX hT rfl rfl rfl rfl)<|ab (bE rfl rfl (c:=((k+1:Nat):Int)) (by rw [iW0 _ (by omega)];omega)) ?_
 refine c7 ?_
 refine cO hT rfl rfl rfl ?_
 refine ab (ah (NR _ ((bG b).getD _))) ?_
 refine aj rfl<|ag<|dz (t:=stL [(0,.p (.c (nt a))),(1,.p (.c (nt b))),(8,Z (s:Int))] []) (aE ⟨.refl _,.refl _,aK (by omega),trivial⟩ trivial) ?_
 refine ae hP<|ak rfl<|ak rfl<|ab (ah cb) ?_
 refine aj rfl<|ag<|ae hP<|ak rfl<|ab (aX hT rfl rfl rfl rfl)<|aj rfl<|ag<|ae hP<|ak rfl<|ab (aX hT rfl rfl rfl rfl)<|bA rfl rfl ?_
 refine aq ai (eR hT rfl rfl rfl rfl rfl rfl rfl rfl (by omega)) ?_
 refine ab (a8 (rfl:_=AV.vec _))<|ag<|ae hP<|ab (az (rfl:_=AV.vec _))<|ak rfl<|ak rfl<|ab (ah ca) ?_
 refine RK.mut ai (mW hT rfl rfl rfl rfl rfl rfl rfl (by simp;omega) (ws':=u0) hu0.symm) ?_
 refine ag<|ae hP<|ab (az (rfl:_=AV.vec _))<|ab (fj hT rfl rfl rfl rfl)<|ak rfl<|ab (bE rfl rfl (c:=(((wl a).length+1 - (k+2):Nat):Int)) (by rw [iW0 _ (by rw [hu0l];omega),hu0l];omega)) ?_
 refine aq ai (eR hT rfl rfl rfl rfl rfl rfl rfl rfl (by omega)) ?_
 refine ab (a8 (rfl:_=AV.vec _))<|ag<|ao<|ae hP<|ab (az (rfl:_=AV.vec _))<|ab (fj hT rfl rfl rfl rfl)<|ab (bE rfl rfl (c:=(((wl a).length+1 - (k+2):Nat):Int) - 1) (by simp only [List.length_replicate,Int.toNat_natCast];exact iW0 _ (by omega))) ?_
 refine aj rfl<|ag<|aC<|bl (ι:=List Nat × List Nat × Nat) (fun ⟨u,q,i⟩=>stL [(8,Z (s:Int)),(9,.p (.c (W v))),(10,Z ((k+2:Nat):Int)),(11,.vec 60),(12,.vec 70),(13,Z ((i:Int) - 1))] [(60,WB 105 u),(70,WB 105 q)]) (fun ⟨u,q,i⟩=>u.length=(wl a).length+1∧okW u∧q.length=(wl a).length+1 - (k+2)∧okW q∧i≤q.length∧wv (u.drop i) < wv v∧a*2 ^ s=wv v*(4294967296 ^ i*wv (q.drop i))+wv u) (fun ⟨_,_,i⟩=>i) (u0,List.replicate (((wl a).length+1 - (k+2):Nat):Int).toNat 0,(wl a).length+1 - (k+2)) ⟨hu0l,oku0,by simp,okW.rep _,by simp,by rw [hwv];exact AD hwu0 hu0l hbp (by omega),by rw [hwu0,List.drop_replicate,lh];simp⟩ (aE ⟨.refl _,.refl _,aK (by omega),.refl _,.refl _,.refl _,trivial⟩ ⟨rfl,rfl,trivial⟩) ?_
 rintro ⟨u,q,i⟩ ⟨hlu,hok,hlq,hqok,hi,hlow,hM⟩
 have hiq:=hi
 refine ao<|ae hP<|ak rfl<|ab (dp rfl rfl)<|ag ?_
 refine ay rfl (fun hb3=>?_) (fun hb3=>?_)
 ·have hb3_:=dT0 hb3
  obtain ⟨j,rfl⟩:∃ k,i=k+1:=⟨i - 1,by omega⟩
  have hc:((j+1:Nat):Int) - 1=(j:Int):=by omega
  have dg:Dig v u k j:=⟨hn1,okv,hn2,hok,by omega,hlow⟩
  have hq1:=hok.getD (j+k+2)
  have hq2:=hok.getD (j+k+1)
  have hq3:=hok.getD (j+k)
  have hv1:=okv.getD (k+1)
  have hv2:=okv.getD k
  have hN64:(u.getD (j+k+2) 0*4294967296+u.getD (j+k+1) 0) < 18446744073709551616:=by omega
  have hdl:(u.getD (j+k+2) 0*4294967296+u.getD (j+k+1) 0) / v.getD (k+1) 0≤(u.getD (j+k+2) 0*4294967296+u.getD (j+k+1) 0):=Nat.div_le_self _ _
  have hml:(u.getD (j+k+2) 0*4294967296+u.getD (j+k+1) 0) % v.getD (k+1) 0 < v.getD (k+1) 0:=Nat.mod_lt _ (by omega)
  refine dz (t:=stL [(8,Z (s:Int)),(9,.p (.c (W v))),(10,Z ((k+2:Nat):Int)),(11,.vec 60),(12,.vec 70),(13,Z ((j:Nat):Int))] [(60,WB 105 u),(70,WB 105 q)]) (aE ⟨.refl _,.refl _,.refl _,.refl _,.refl _,aK hc,trivial⟩ ⟨rfl,rfl,trivial⟩) ?_
  refine au<|ao<|aC<|ae hP<|ab (az (rfl:_=AV.vec _))<|ak rfl<|ak rfl<|ab (bN rfl rfl (c:=((j+k+2:Nat):Int)) (by rw [iW0 _ (by omega)];omega)) ?_
  refine du ?_
  refine ab (dF hT rfl rfl rfl rfl (by first | omega | (simp;omega)) rfl) ?_
  refine ab (bn hT rfl rfl rfl rfl (dc (by omega))) ?_
  refine ab (iB (j:=32) rfl rfl (by first | decide | omega) rfl) ?_
  refine ab (az (rfl:_=AV.vec _))<|ak rfl<|ak rfl<|ab (bN rfl rfl (c:=((j+k+2:Nat):Int)) (by rw [iW0 _ (by omega)];omega)) ?_
  refine ab (bE rfl rfl (c:=((j+k+1:Nat):Int)) (by rw [iW0 _ (by omega)];omega)) ?_
  refine du ?_
  refine ab (dF hT rfl rfl rfl rfl (by first | omega | (simp;omega)) rfl) ?_
  refine ab (bn hT rfl rfl rfl rfl (dc (by omega))) ?_
  refine ab (j6 rfl rfl (nr hq1 hq2)) ?_
  refine aj rfl<|ag<|ae hP<|ak rfl<|ak rfl<|ak rfl<|ab (bE rfl rfl (c:=((k+1:Nat):Int)) (by rw [iW0 _ (by omega)];omega)) ?_
  refine c7 ?_
  refine cO hT rfl rfl rfl ?_
  refine ab (bn hT rfl rfl rfl rfl (dc (by omega))) ?_
  refine ab (cZ rfl rfl (by omega) (c:=(((u.getD (j+k+2) 0*4294967296+u.getD (j+k+1) 0) / v.getD (k+1) 0:Nat):Int)) (by rw [Int.tdiv_eq_ediv_of_nonneg (by omega),← Int.natCast_ediv,dc (by omega)])) ?_
  refine ak rfl<|ak rfl<|ak rfl<|ab (bE rfl rfl (c:=((k+1:Nat):Int)) (by rw [iW0 _ (by omega)];omega)) ?_
  refine c7 ?_
  refine cO hT rfl rfl rfl ?_
  refine ab (bn hT rfl rfl rfl rfl (dc (by omega))) ?_
  refine ab (bM rfl rfl (by omega) (c:=(((u.getD (j+k+2) 0*4294967296+u.getD (j+k+1) 0) % v.getD (k+1) 0:Nat):Int)) (by rw [Int.tmod_eq_emod_of_nonneg (by omega),← Int.natCast_emod])) ?_
  refine aj rfl<|aj rfl<|ag<|cH (ι:=Nat) (fun g=>stL [(8,Z (s:Int)),(9,.p (.c (W v))),(10,Z ((k+2:Nat):Int)),(11,.vec 60),(12,.vec 70),(13,Z ((j:Nat):Int)),(15,.p (.c (.v (.int .u64 ((g:Nat):Int)))))] [(60,WB 105 u),(70,WB 105 q)]) (fun g=>g < 4294967296∧dK v u j≤g∧g≤dK v u j+1) ?_ ?_
  ·refine aC<|bl (ι:=Nat × Nat) (fun ⟨g,r⟩=>stL [(8,Z (s:Int)),(9,.p (.c (W v))),(10,Z ((k+2:Nat):Int)),(11,.vec 60),(12,.vec 70),(13,Z ((j:Nat):Int)),(15,.p (.c (.v (.int .u64 ((g:Nat):Int))))),(16,.p (.c (.v (.int .u64 ((r:Nat):Int)))))] [(60,WB 105 u),(70,WB 105 q)]) (fun ⟨g,r⟩=>g*v.getD (k+1) 0+r=(u.getD (j+k+2) 0*4294967296+u.getD (j+k+1) 0)∧r < 4294967296∧g < 18446744073709551616∧dK v u j≤g) (fun ⟨g,_⟩=>g) ((u.getD (j+k+2) 0*4294967296+u.getD (j+k+1) 0) / v.getD (k+1) 0,(u.getD (j+k+2) 0*4294967296+u.getD (j+k+1) 0) % v.getD (k+1) 0) ⟨by rw [Nat.mul_comm];exact Nat.div_add_mod _ _,by omega,by omega,dg.init⟩ (aE ⟨.refl _,.refl _,.refl _,.refl _,.refl _,.refl _,.refl _,.refl _,trivial⟩ ⟨rfl,rfl,trivial⟩) ?_
   rintro ⟨g,r⟩ ⟨hg,hr,hg64,hdq⟩
   refine ao<|ae hP<|ak rfl<|ab (bJ rfl rfl)<|ak rfl ?_
   refine aY (t:=113) rfl (fun hg4=>?_) (fun hg4=>?_)
   ·have hg4_:=dT0 hg4
    have hdec:dK v u j < g:=dg.dec hg (Or.inl (by omega))
    have hstep:(g - 1)*v.getD (k+1) 0+(r+v.getD (k+1) 0)=(u.getD (j+k+2) 0*4294967296+u.getD (j+k+1) 0):=by
     rw [← hg,← Nat.add_assoc,Nat.add_right_comm,← Nat.succ_mul,show (g - 1).succ=g by omega]
    iterate 20 refine aZ hg4 ?_
    refine ab (aO rfl hg4 (rfl:_=AV.p (.c _)))<|ag<|aU rfl rfl<|au<|aC<|ae hP<|ak rfl<|ab (bE rfl rfl (c:=((g - 1:Nat):Int)) (by rw [IntWalk.u64_in _ (by omega)];omega)) ?_
    refine aj rfl<|ag<|ae hP<|ak rfl<|ak rfl<|ak rfl<|ab (bE rfl rfl (c:=((k+1:Nat):Int)) (by rw [iW0 _ (by omega)];omega)) ?_
    refine c7 ?_
    refine cO hT rfl rfl rfl ?_
    refine ab (bn hT rfl rfl rfl rfl (dc (by omega))) ?_
    refine ab (bN rfl rfl (c:=((r+v.getD (k+1) 0:Nat):Int)) (by rw [IntWalk.u64_in _ (by omega)];omega)) ?_
    refine aj rfl<|ag<|ae hP<|ak rfl<|ab (bJ rfl rfl)<|ag ?_
    refine ay rfl (fun hb5=>?_) (fun hb5=>?_)
    ·have hb5_:=dT0 hb5
     have hex:=dg.exit hstep (Or.inr (by omega))
     refine aW ?_
     exact ⟨g - 1,⟨hex.1,by omega,hex.2⟩,(aE ⟨.refl _,.refl _,.refl _,.refl _,.refl _,.refl _,.refl _,trivial⟩ ⟨rfl,rfl,trivial⟩)⟩
    have hb5_:=dF0 hb5
    refine au ?_
    exact ⟨(g - 1,r+v.getD (k+1) 0),⟨hstep,by omega,by omega,by omega⟩,by show g - 1 < g;omega,(aE ⟨.refl _,.refl _,.refl _,.refl _,.refl _,.refl _,.refl _,.refl _,trivial⟩ ⟨rfl,rfl,trivial⟩)⟩
   have hg4_:=dF0 hg4
   have hgB:g < 4294967296:=by omega
   have hp2:=Nat.mul_le_mul (Nat.le_sub_one_of_lt hgB) (Nat.le_sub_one_of_lt hv2)
   iterate 3 refine aA hg4 (az (rfl:_=AV.p (.c _))) ?_
   refine aA hg4 (bE rfl rfl (c:=((k:Nat):Int)) (by rw [iW0 _ (by omega)];omega)) ?_
   refine aA hg4 (by first | exact fO hT rfl rfl rfl rfl rfl rfl (by omega) | exact cq hT rfl rfl rfl rfl rfl rfl (by omega) (by first | exact iY (by omega) | simp)) ?_
   refine aA hg4 (bV hT rfl rfl rfl (by first | rfl | exact mH (by omega))) ?_
   refine aA hg4 (bn hT rfl rfl rfl rfl (dc (by omega))) ?_
   refine aA hg4 (bQ rfl rfl (c:=((g*v.getD k 0:Nat):Int)) (by rw [← Int.natCast_mul,dc (by omega)])) ?_
   refine aA hg4 (az (rfl:_=AV.p (.c _))) ?_
   refine aA hg4 (iB (j:=32) rfl rfl (by first | decide | omega) rfl) ?_
   refine aA hg4 (az (rfl:_=AV.vec _)) ?_
   refine aA hg4 (az (rfl:_=AV.p (.c _))) ?_
   refine aA hg4 (az (rfl:_=AV.p (.c _))) ?_
   refine aA hg4 (bN rfl rfl (c:=((j+k+2:Nat):Int)) (by rw [iW0 _ (by omega)];omega)) ?_
   refine aA hg4 (bE rfl rfl (c:=((j+k:Nat):Int)) (by rw [iW0 _ (by omega)];omega)) ?_
   refine aA hg4 (by first | exact gB hT rfl rfl rfl rfl rfl rfl rfl (by first | omega | (simp;omega)) | exact fH hT rfl rfl rfl rfl rfl rfl rfl (by first | omega | (simp;omega))) ?_
   refine aA hg4 (dF hT rfl rfl rfl rfl (by first | omega | (simp;omega)) rfl) ?_
   refine aA hg4 (bn hT rfl rfl rfl rfl (dc (by omega))) ?_
   refine aA hg4 (j6 rfl rfl (nr hr hq3)) ?_
   refine aA hg4 (bJ rfl rfl) ?_
   refine ab (aN rfl hg4 (rfl:_=AV.p (.c _)))<|ag ?_
   refine ay rfl (fun hb6=>?_) (fun hb6=>?_)
   ·have hb6_:=dT0 hb6
    have hdec:dK v u j < g:=dg.dec hg (Or.inr (Int.ofNat_lt.1 (by assumption)))
    have hstep:(g - 1)*v.getD (k+1) 0+(r+v.getD (k+1) 0)=(u.getD (j+k+2) 0*4294967296+u.getD (j+k+1) 0):=by
     rw [← hg,← Nat.add_assoc,Nat.add_right_comm,← Nat.succ_mul,show (g - 1).succ=g by omega]
    refine au<|aC<|ae hP<|ak rfl<|ab (bE rfl rfl (c:=((g - 1:Nat):Int)) (by rw [IntWalk.u64_in _ (by omega)];omega)) ?_
    refine aj rfl<|ag<|ae hP<|ak rfl<|ak rfl<|ak rfl<|ab (bE rfl rfl (c:=((k+1:Nat):Int)) (by rw [iW0 _ (by omega)];omega)) ?_
    refine c7 ?_
    refine cO hT rfl rfl rfl ?_
    refine ab (bn hT rfl rfl rfl rfl (dc (by omega))) ?_
    refine ab (bN rfl rfl (c:=((r+v.getD (k+1) 0:Nat):Int)) (by rw [IntWalk.u64_in _ (by omega)];omega)) ?_
    refine aj rfl<|ag<|ae hP<|ak rfl<|ab (bJ rfl rfl)<|ag ?_
    refine ay rfl (fun hb7=>?_) (fun hb7=>?_)
    ·have hb7_:=dT0 hb7
     have hex:=dg.exit hstep (Or.inr (by omega))
     refine aW ?_
     exact ⟨g - 1,⟨hex.1,by omega,hex.2⟩,(aE ⟨.refl _,.refl _,.refl _,.refl _,.refl _,.refl _,.refl _,trivial⟩ ⟨rfl,rfl,trivial⟩)⟩
    have hb7_:=dF0 hb7
    refine au ?_
    exact ⟨(g - 1,r+v.getD (k+1) 0),⟨hstep,by omega,by omega,by omega⟩,by show g - 1 < g;omega,(aE ⟨.refl _,.refl _,.refl _,.refl _,.refl _,.refl _,.refl _,.refl _,trivial⟩ ⟨rfl,rfl,trivial⟩)⟩
   have hb6_:=dF0 hb6
   have hex:=dg.exit hg (Or.inl ⟨by omega,by omega⟩)
   refine aW ?_
   exact ⟨g,⟨hex.1,hdq,hex.2⟩,(aE ⟨.refl _,.refl _,.refl _,.refl _,.refl _,.refl _,.refl _,trivial⟩ ⟨rfl,rfl,trivial⟩)⟩
  rintro g ⟨hgB,hg1,hg2⟩
  refine ae hP<|aj rfl<|ag<|ae hP<|aj rfl<|ag<|ao<|ae hP<|ak rfl<|ab (aX hT rfl rfl rfl rfl)<|ak rfl<|ag<|aC<|bl (ι:=List Nat × Nat × Nat × Nat) (fun ⟨o,i,c,e⟩=>stL [(8,Z (s:Int)),(9,.p (.c (W v))),(10,Z ((k+2:Nat):Int)),(11,.vec 60),(12,.vec 70),(13,Z ((j:Nat):Int)),(15,.p (.c (.v (.int .u64 ((g:Nat):Int))))),(17,.p (.c (.v (.int .u64 ((c:Nat):Int))))),(18,.p (.c (w32 (e)))),(147,.p (.c (W v))),(148,Z ((v.length:Nat):Int)),(149,Z ((i:Nat):Int))] [(60,WB 105 o),(70,WB 105 q)]) (fun ⟨o,i,c,e⟩=>i≤v.length∧o.length=u.length∧okW o∧c < 4294967296∧e < 2∧o.drop (j+k+3)=u.drop (j+k+3)∧wv o+4294967296 ^ j*(g*wv (v.take i))=wv u+4294967296 ^ (j+i)*(c+e)) (fun ⟨_,i,_,_⟩=>v.length - i) (u,0,0,0) ⟨Nat.zero_le _,rfl,hok,by omega,by omega,rfl,by simp [wv]⟩ (aE ⟨.refl _,.refl _,.refl _,.refl _,.refl _,.refl _,.refl _,.refl _,.refl _,.refl _,.refl _,.refl _,trivial⟩ ⟨rfl,rfl,trivial⟩) ?_
  rintro ⟨o,i,c,e⟩ ⟨hi,hlo,ho,hc,he,hd,hS⟩
  refine ae hP<|ab (bh rfl rfl)<|ag<|ao ?_
  refine ay rfl (fun hb8=>?_) (fun hb8=>?_)
  ·have hb8_:=dT0 hb8
   have hlt:i < v.length:=by omega
   have hvi:=okv.getD i
   have hp1:=Nat.mul_le_mul (Nat.le_sub_one_of_lt hgB) (Nat.le_sub_one_of_lt (okv.getD i))
   have htB:(g*v.getD i 0+c) / 4294967296 < 4294967296:=(Nat.div_lt_iff_lt_mul (by omega)).2 (by omega)
   refine au<|ao<|aC<|ae hP<|ak rfl<|c7 ?_
   refine cO hT rfl rfl rfl ?_
   refine aj rfl<|aj rfl<|ag<|ae hP<|ak rfl<|ak rfl<|ab (bn hT rfl rfl rfl rfl (dc (by omega))) ?_
   refine ab (bQ rfl rfl (c:=((g*v.getD i 0:Nat):Int)) (by rw [← Int.natCast_mul,dc (by omega)])) ?_
   refine ak rfl<|ab (bN rfl rfl (c:=((g*v.getD i 0+c:Nat):Int)) (by rw [← Int.natCast_add,dc (by omega)])) ?_
   refine aj rfl<|ag<|ae hP<|ak rfl<|ab (dw (j:=32) rfl rfl (by first | decide | omega)) ?_
   refine aj rfl<|ag<|aw hP<|ab (az (rfl:_=AV.vec _))<|ak rfl<|ak rfl<|ab (bN rfl rfl (c:=((j+i:Nat):Int)) (by rw [iW0 _ (by omega)];omega)) ?_
   refine ab (az (rfl:_=AV.vec _))<|ak rfl<|ak rfl<|ab (bN rfl rfl (c:=((j+i:Nat):Int)) (by rw [iW0 _ (by omega)];omega)) ?_
   refine du ?_
   refine ab (dF hT rfl rfl rfl rfl (by first | omega | (simp;omega)) rfl) ?_
   refine ak rfl<|ab (bn hT rfl rfl rfl rfl (c:=(((g*v.getD i 0+c) % 4294967296:Nat):Int)) (by rw [IntKind.wrap_u32];omega)) ?_
   refine ak rfl<|ab (ah (xL _ _ _ (ho.getD _) (Nat.mod_lt _ (by omega)) he)) ?_
   refine ab (az (rfl:_=AV.t _))<|ab (aD rfl (v:=.c _) rfl)<|ab (aD rfl (v:=.c _) rfl)<|du ?_
   refine dC ai (cG hT rfl rfl rfl rfl rfl (by first | omega | (simp;omega)) rfl) ?_
   refine aj rfl<|ag<|aw hP<|bA rfl rfl ?_
   refine ak rfl<|ag ?_
   have hr:=yz (v:=v) (g:=g) (by omega) ho he rfl hS
   exact ⟨(o.set (j+i) ((o.getD (j+i) 0+8589934592 - (g*v.getD i 0+c) % 4294967296 - e) % 4294967296),i+1,(g*v.getD i 0+c) / 4294967296,if o.getD (j+i) 0 < (g*v.getD i 0+c) % 4294967296+e then 1 else 0),⟨by omega,by simpa using hlo,ho.set (Nat.mod_lt _ (by omega)),htB,by split <;> omega,by rw [List.drop_set_of_lt (by omega)];exact hd,hr⟩,by show v.length - (i+1) < v.length - i;omega,(aE ⟨.refl _,.refl _,.refl _,.refl _,.refl _,.refl _,.refl _,.refl _,.refl _,.refl _,.refl _,.refl _,trivial⟩ ⟨rfl,rfl,trivial⟩)⟩
  have hb8_:=dF0 hb8
  have hie:i=v.length:=by omega
  subst hie
  rw [List.take_length,hn1] at hS
  have hml1:=Ac (o:=o) (p:=j+k+2) (c:=c) (e:=e) (A:=4294967296 ^ j*(g*wv v)) (S:=wv u) (by omega) ho hc he (by rw [show j+k+2=j+(k+2) by omega];exact hS)
  obtain ⟨o1,ho1⟩:∃ o1,o1=o.set (j+k+2) ((o.getD (j+k+2) 0+8589934592 - c - e) % 4294967296):=⟨_,rfl⟩
  have hok1:okW o1:=by rw [ho1];exact ho.set (Nat.mod_lt _ (by omega))
  have hlo1:o1.length=u.length:=by rw [ho1];simpa using hlo
  have hd1:o1.drop (j+k+3)=u.drop (j+k+3):=by rw [ho1,List.drop_set_of_lt (by omega)];exact hd
  rw [← ho1,show j+k+2+1=j+k+3 by omega] at hml1
  refine aW<|cH (ι:=List Nat) (fun u1=>stL [(8,Z (s:Int)),(9,.p (.c (W v))),(10,Z ((k+2:Nat):Int)),(11,.vec 60),(12,.vec 70),(13,Z ((j:Nat):Int)),(15,.p (.c (.v (.int .u64 ((dK v u j:Nat):Int)))))] [(60,WB 105 u1),(70,WB 105 q)]) (fun u1=>u1.length=u.length∧okW u1∧wv u1+4294967296 ^ j*(dK v u j*wv v)=wv u) ?_ ?_
  ·refine ae hP<|ab (az (rfl:_=AV.vec _))<|ak rfl<|ak rfl<|ab (bN rfl rfl (c:=((j+k+2:Nat):Int)) (by rw [iW0 _ (by omega)];omega)) ?_
   refine ab (az (rfl:_=AV.vec _))<|ak rfl<|ak rfl<|ab (bN rfl rfl (c:=((j+k+2:Nat):Int)) (by rw [iW0 _ (by omega)];omega)) ?_
   refine du ?_
   refine ab (dF hT rfl rfl rfl rfl (by first | omega | (simp;omega)) rfl) ?_
   refine ak rfl<|ab (bn hT rfl rfl rfl rfl (kN hc)) ?_
   refine ak rfl<|ab (ah (xL _ _ _ (ho.getD _) hc he)) ?_
   refine ab (az (rfl:_=AV.t _))<|ab (aD rfl (v:=.c _) rfl)<|ab (aD rfl (v:=.c _) rfl)<|du ?_
   refine dC ai (cG hT rfl rfl rfl rfl rfl (by first | omega | (simp;omega)) ho1.symm) ?_
   refine aj rfl<|ag<|ae hP<|ak rfl<|ab (bJ rfl rfl)<|ag ?_
   refine ay rfl (fun hb9=>?_) (fun hb9=>?_)
   ·have hb9_:=dT0 hb9
    have hbo:o.getD (j+k+2) 0 < c+e:=by
     rcases Nat.lt_or_ge (o.getD (j+k+2) 0) (c+e) with h | h
     ·exact h
     rw [if_neg (by omega)] at *;omega
    rw [if_pos hbo,Nat.mul_one] at hml1
    have hgq:=dg.bad hok1 hlo1 hd1 hg2 hml1
    have hg0:0 < g:=by omega
    refine ae hP<|ak rfl<|ab (bE rfl rfl (c:=((g - 1:Nat):Int)) (by rw [IntWalk.u64_in _ (by omega)];omega)) ?_
    refine aj rfl<|ag<|ae hP<|aj rfl<|ag<|ao<|ae hP<|ak rfl<|ab (aX hT rfl rfl rfl rfl)<|ak rfl<|ag<|aC<|bl (ι:=List Nat × Nat × Nat) (fun ⟨o,i,c⟩=>stL [(8,Z (s:Int)),(9,.p (.c (W v))),(10,Z ((k+2:Nat):Int)),(11,.vec 60),(12,.vec 70),(13,Z ((j:Nat):Int)),(15,.p (.c (.v (.int .u64 ((g - 1:Nat):Int))))),(22,.p (.c (w32 (c)))),(203,.p (.c (W v))),(204,Z ((v.length:Nat):Int)),(205,Z ((i:Nat):Int))] [(60,WB 105 o),(70,WB 105 q)]) (fun ⟨o,i,c⟩=>i≤v.length∧o.length=u.length∧okW o∧c < 2∧o.drop (j+k+3)=u.drop (j+k+3)∧wv o+4294967296 ^ (j+i)*c=wv o1+4294967296 ^ j*wv (v.take i)) (fun ⟨_,i,_⟩=>v.length - i) (o1,0,0) ⟨Nat.zero_le _,hlo1,hok1,by omega,hd1,by simp [wv]⟩ (aE ⟨.refl _,.refl _,.refl _,.refl _,.refl _,.refl _,.refl _,.refl _,.refl _,.refl _,.refl _,trivial⟩ ⟨rfl,rfl,trivial⟩) ?_
    clear hbo hS hd he hc ho hlo hi ho1 hd1 hok1 hlo1
    rintro ⟨o,i,c⟩ ⟨hi,hlo,ho,hc,hd,hS2⟩
    refine ae hP<|ab (bh rfl rfl)<|ag<|ao ?_
    refine ay rfl (fun hb10=>?_) (fun hb10=>?_)
    ·have hb10_:=dT0 hb10
     have hlt:i < v.length:=by omega
     have hvi:=okv.getD i
     have hoi:=ho.getD (j+i)
     have hc2:(o.getD (j+i) 0+v.getD i 0+c) / 4294967296 < 2:=(Nat.div_lt_iff_lt_mul (by omega)).2 (by omega)
     refine au<|ao<|aC<|ae hP<|ak rfl<|c7 ?_
     refine cO hT rfl rfl rfl ?_
     refine aj rfl<|aj rfl<|ag<|aw hP<|ab (az (rfl:_=AV.vec _))<|ak rfl<|ak rfl<|ab (bN rfl rfl (c:=((j+i:Nat):Int)) (by rw [iW0 _ (by omega)];omega)) ?_
     refine ab (az (rfl:_=AV.vec _))<|ak rfl<|ak rfl<|ab (bN rfl rfl (c:=((j+i:Nat):Int)) (by rw [iW0 _ (by omega)];omega)) ?_
     refine du ?_
     refine ab (dF hT rfl rfl rfl rfl (by first | omega | (simp;omega)) rfl) ?_
     refine ak rfl<|ak rfl<|ab (ah (E6 _ _ _ (ho.getD _) (okv.getD _) (by omega))) ?_
     refine ab (az (rfl:_=AV.t _))<|ab (aD rfl (v:=.c _) rfl)<|ab (aD rfl (v:=.c _) rfl)<|du ?_
     refine dC ai (cG hT rfl rfl rfl rfl rfl (by first | omega | (simp;omega)) rfl) ?_
     refine aj rfl<|ag<|aw hP<|bA rfl rfl ?_
     refine ak rfl<|ag ?_
     have hr:=za (v:=v) (i:=i) (by omega) rfl hS2
     exact ⟨(o.set (j+i) ((o.getD (j+i) 0+v.getD i 0+c) % 4294967296),i+1,(o.getD (j+i) 0+v.getD i 0+c) / 4294967296),⟨by omega,by simpa using hlo,ho.set (Nat.mod_lt _ (by omega)),hc2,by rw [List.drop_set_of_lt (by omega)];exact hd,hr⟩,by show v.length - (i+1) < v.length - i;omega,(aE ⟨.refl _,.refl _,.refl _,.refl _,.refl _,.refl _,.refl _,.refl _,.refl _,.refl _,.refl _,trivial⟩ ⟨rfl,rfl,trivial⟩)⟩
    have hb10_:=dF0 hb10
    have hie:i=v.length:=by omega
    subst hie
    rw [List.take_length,hn1] at hS2
    have hbk:=dg.back (o:=o.set (j+k+2) ((o.getD (j+k+2) 0+c) % 4294967296)) (o1:=o) (c:=c) (ho.set (Nat.mod_lt _ (by omega))) (by simpa using hlo) (by rw [List.drop_set_of_lt (by omega)];exact hd) hgq hml1 (by rw [show j+k+2=j+(k+2) by omega];exact hS2) ho hc rfl hlo
    refine aW<|aw hP<|ab (az (rfl:_=AV.vec _))<|ak rfl<|ak rfl<|ab (bN rfl rfl (c:=((j+k+2:Nat):Int)) (by rw [iW0 _ (by omega)];omega)) ?_
    refine du ?_
    refine ab (dF hT rfl rfl rfl rfl (by first | omega | (simp;omega)) rfl) ?_
    refine ak rfl<|ab (bN rfl rfl (c:=(((o.getD (j+k+2) 0+c) % 4294967296:Nat):Int)) (by rw [IntKind.wrap_u32];omega)) ?_
    refine du ?_
    refine dC ai (cG hT rfl rfl rfl rfl rfl (by first | omega | (simp;omega)) rfl) ?_
    refine ag ?_
    exact ⟨_,⟨by simpa using hlo,ho.set (Nat.mod_lt _ (by omega)),hbk⟩,(aE ⟨.refl _,.refl _,.refl _,.refl _,.refl _,.refl _,aK (by omega),trivial⟩ ⟨rfl,rfl,trivial⟩)⟩
   have hb9_:=dF0 hb9
   have hbo:¬ o.getD (j+k+2) 0 < c+e:=by
    intro h
    rw [if_pos h] at *;omega
   rw [if_neg hbo,Nat.mul_zero,Nat.add_zero] at hml1
   have hgq:=dg.good hg1 hml1
   refine au ?_
   exact ⟨o1,⟨hlo1,hok1,hgq ▸ hml1⟩,(aE ⟨.refl _,.refl _,.refl _,.refl _,.refl _,.refl _,aK (by omega),trivial⟩ ⟨rfl,rfl,trivial⟩)⟩
  rintro u1 ⟨hl1,hok1,hfin⟩
  refine aw hP<|ab (az (rfl:_=AV.vec _))<|ak rfl<|ak rfl<|ab (bn hT rfl rfl rfl rfl (kN dg.q_lt)) ?_
  refine du ?_
  refine dC ai (cG hT rfl rfl rfl rfl rfl (by first | omega | (simp;omega)) rfl) ?_
  refine ag<|aw hP<|ak rfl<|ab (bE rfl rfl (by first | exact iW0 _ (by omega) | rfl)) ?_
  refine aj rfl<|ag ?_
  have hdn:=dg.done hok1 hl1 hfin
  exact ⟨(u1,q.set j (dK v u j),j),⟨by omega,hok1,by simpa using hlq,hqok.set dg.q_lt,by simp;omega,hdn,AF (by omega) hM hfin⟩,by show j < j+1;omega,(aE ⟨.refl _,.refl _,.refl _,.refl _,.refl _,.refl _,trivial⟩ ⟨rfl,rfl,trivial⟩)⟩
 have hb3_:=dF0 hb3
 have hie:i=0:=by omega
 subst hie
 rw [List.drop_zero] at hlow hM
 rw [Nat.pow_zero,Nat.one_mul] at hM
 have hE:a / b=wv q∧a % b=wv u / 2 ^ s:=HP (m:=a) (b:=b) (s:=s) (q:=wv q) (r:=wv u) (hwv ▸ hM) (hwv ▸ hlow)
 have hlt2:wv u < 4294967296 ^ (k+2):=Nat.lt_trans hlow (by have:=fp okv;rwa [hn1] at this)
 have htk:wv (u.take (k+2))=wv u:=by
  have e:=eO u (k+2) (by omega)
  rcases Nat.eq_zero_or_pos (wv (u.drop (k+2))) with h | h
  ·rw [h,Nat.mul_zero] at e;omega
  have:=Nat.le_mul_of_pos_right (4294967296 ^ (k+2)) h
  omega
 have hshl:(wl (wv (u.take (k+2)))).length≤1099511627776:=by
  have:=fY (htk.symm ▸ hlt2:wv (u.take (k+2)) < 4294967296 ^ (k+2))
  omega
 refine aW<|cY (t:=12) rfl rfl ?_
 refine cY (t:=11) rfl rfl ?_
 refine ae hP<|ak rfl<|ab (ah (fk _ hqok)) ?_
 refine ak rfl<|ak rfl<|ab (jD hT rfl rfl rfl rfl rfl rfl (by omega)) ?_
 refine ab (ah (fk _ (hok.take _))) ?_
 refine ak rfl<|ab (ah (G8 (wl (wv (u.take (k+2)))) s (bG _) hshl hs32)) ?_
 refine aj rfl<|aj rfl<|ag<|am<|E11 rfl rfl rfl ?_
 exact aF (by rw [bH,htk,hE.1,hE.2])
end
section
open Go Go.AM
theorem CC (m:Nat) :
  aH Tryz.prog 254 [.p (.c (nt m))] (Z (bo m)):=by
 refine aM Tryz.func254 rfl rfl rfl rfl ?_
 refine jy (t:=0) rfl rfl (fun hlen=>?_)
 have hb32:∀ x:Nat,x < 4294967296→bo x≤32:=fun x h=>gH (k:=32) h
 refine ae hP<|aj rfl<|ag<|ao<|ae hP<|ak rfl<|ab (aX hT rfl rfl rfl rfl)<|ab (bj rfl rfl)<|ag ?_
 refine ay rfl (fun hb1=>?_) (fun hb1=>?_)
 ·have hb1_:=bT hb1
  refine ae hP<|aj rfl<|ag<|am<|E1 rfl rfl ?_
  have h0:wl m=[]:=by
   rcases h:wl m with _ | ⟨x,r⟩
   ·rfl
   rw [h] at hb1_;simp at hb1_;omega
  have:m=0:=by rw [← bH m,h0];rfl
  exact aK (by rw [this];rfl)
 have hb1_:=bF hb1
 refine au<|ae hP<|ak rfl<|ab (aX hT rfl rfl rfl rfl)<|ab (bE rfl rfl (by first | exact iW0 _ (by omega) | rfl)) ?_
 refine ab (bQ rfl rfl (by first | exact iW0 _ (by omega) | rfl)) ?_
 refine ak rfl<|ak rfl<|ab (aX hT rfl rfl rfl rfl)<|ab (bE rfl rfl (by first | exact iW0 _ (by omega) | rfl)) ?_
 refine c7 ?_
 refine cO hT rfl rfl rfl ?_
 refine ab (ah (EJ _ ((bG m).getD _))) ?_
 refine ab (bN rfl rfl (iW0 _ (by have:=hb32 _ ((bG m).getD (((wl m).length:Int) - 1).toNat);omega))) ?_
 refine aj rfl<|ag<|am<|E1 rfl rfl ?_
 obtain ⟨k,hk⟩:∃ k,(wl m).length=k+1:=⟨(wl m).length - 1,by omega⟩
 have hkk:(((wl m).length:Int) - 1).toNat=k:=by omega
 exact aK (by rw [hkk,vp hk];omega)
end
section
open Go Go.AM
theorem jO (neg:Bool) (ws:List Nat) (h:okW ws) :
  aH Tryz.prog 63 [B neg,.p (.c (W ws))] (I (sg neg (wv ws))):=by
 refine aM Tryz.func63 rfl rfl rfl rfl ?_
 refine ae hP<|aq ai (aB hT rfl rfl)<|ag<|ae hP<|ak rfl<|ab (ah (fk _ h)) ?_
 refine aj rfl<|ag<|ao<|ae hP<|ak rfl<|ab (aX hT rfl rfl rfl rfl)<|ab (bj rfl rfl)<|ag ?_
 refine ay rfl (fun hb1=>?_) (fun hb1=>?_)
 ·have hb1_:=bT hb1
  refine ae hP<|ab (aR hT rfl rfl rfl (es:=[_,_]) rfl)<|aG hT rfl<|ag<|am<|E2 hT rfl rfl rfl rfl rfl rfl rfl ?_
  have h0:wv ws=0:=nC (by omega)
  rw [h0,wt]
  exact .refl _
 have hb1_:=bF hb1
 refine au<|ae hP<|ak rfl<|ak rfl<|ab (aR hT rfl rfl rfl (es:=[_,_]) rfl)<|aG hT rfl<|ag<|am<|E2 hT rfl rfl rfl rfl rfl rfl rfl ?_
 have h0:0 < wv ws:=by
  rcases Nat.eq_zero_or_pos (wv ws) with e | e
  ·rw [e] at hb1_;exact absurd rfl hb1_
  exact e
 exact aF (by show _=AV.p (.a [zn _,zm _]);rw [DC h0,DD])
theorem nX (x:Int) :
  aH Tryz.prog 62 [I x] (I x.natAbs):=by
 refine aM Tryz.func62 rfl rfl rfl rfl ?_
 refine ae hP<|aq ai (aL rfl rfl)<|aq ai (aB hT rfl rfl)<|ag<|ae hP<|aI hT rfl<|bi hT rfl rfl rfl rfl ?_
 refine ab (ah (jO _ (wl x.natAbs) (bG _))) ?_
 refine aG hT rfl<|ag<|am<|E2 hT rfl rfl rfl rfl rfl rfl rfl ?_
 exact Sub.I (A7 x)
theorem kg (x:Int) :
  aH Tryz.prog 39 [I x] (I (-x)):=by
 refine aM Tryz.func39 rfl rfl rfl rfl ?_
 refine ae hP<|aq ai (aL rfl rfl)<|aq ai (aB hT rfl rfl)<|ag<|ae hP<|aI hT rfl<|bi hT rfl rfl rfl rfl ?_
 refine ab (bw rfl)<|aI hT rfl<|bi hT rfl rfl rfl rfl ?_
 refine ab (ah (jO _ (wl x.natAbs) (bG _))) ?_
 refine aG hT rfl<|ag<|am<|E2 hT rfl rfl rfl rfl rfl rfl rfl ?_
 exact Sub.I (z8 x)
theorem eo (x y:Int) (hx:L 45 x) (hy:L 45 y) :
  aH Tryz.prog 38 [I x,I y] (I (x+y)):=by
 refine aM Tryz.func38 rfl rfl rfl rfl ?_
 refine ae hP<|aq ai (aL rfl rfl)<|aq ai (aL rfl rfl)<|aq ai (aB hT rfl rfl)<|ag<|ae hP<|aI hT rfl<|bi hT rfl rfl rfl rfl ?_
 refine aI hT rfl<|bi hT rfl rfl rfl rfl ?_
 refine aj rfl<|aj rfl<|ag<|ao<|aC<|ae hP<|aI hT rfl<|bi hT rfl rfl rfl rfl ?_
 refine aI hT rfl<|bi hT rfl rfl rfl rfl ?_
 refine ab (uo hT rfl rfl rfl rfl)<|aj rfl<|ag ?_
 refine ay rfl (fun hb1=>?_) (fun hb1=>?_)
 ·refine ae hP<|aI hT rfl<|bi hT rfl rfl rfl rfl ?_
  refine ak rfl<|ak rfl<|ab (ah (Hb (wl x.natAbs) (wl y.natAbs) (bG _) (bG _) (sz hx) (sz hy))) ?_
  refine ab (ah (jO _ _ (bG _))) ?_
  refine aG hT rfl<|ag<|am<|E2 hT rfl rfl rfl rfl rfl rfl rfl ?_
  exact Sub.I (by rw [bH];exact vz (by assumption))
 refine ae hP<|ak rfl<|ak rfl<|ab (ah (qM x.natAbs y.natAbs)) ?_
 refine ab (bh rfl rfl)<|aj rfl<|ag ?_
 refine ay rfl (fun hb2=>?_) (fun hb2=>?_)
 ·have hb2_:=dT0 hb2
  have hc:=K7 (m:=x.natAbs) (n:=y.natAbs) (by assumption)
  refine ae hP<|aI hT rfl<|bi hT rfl rfl rfl rfl ?_
  refine ak rfl<|ak rfl<|ab (ah (wX (wl y.natAbs) (wl x.natAbs) (bG _) (bG _) (sz hy) (fM (by omega)) (by rw [bH,bH];omega))) ?_
  refine ab (ah (jO _ _ (bG _))) ?_
  refine aG hT rfl<|ag<|am<|E2 hT rfl rfl rfl rfl rfl rfl rfl ?_
  exact Sub.I (by rw [bH];exact A4 (by assumption) hc)
 have hb2_:=dF0 hb2
 have hc:=K8 (m:=x.natAbs) (n:=y.natAbs) (by assumption)
 refine au<|ae hP<|aI hT rfl<|bi hT rfl rfl rfl rfl ?_
 refine ak rfl<|ak rfl<|ab (ah (wX (wl x.natAbs) (wl y.natAbs) (bG _) (bG _) (sz hx) (fM hc) (by rw [bH,bH];exact hc))) ?_
 refine ab (ah (jO _ _ (bG _))) ?_
 refine aG hT rfl<|ag<|am<|E2 hT rfl rfl rfl rfl rfl rfl rfl ?_
 exact Sub.I (by rw [bH];exact A5 (by assumption) hc)
theorem ke (x y:Int) (hx:L 45 x) (hy:L 45 y) :
  aH Tryz.prog 108 [I x,I y] (I (x - y)):=by
 refine aM Tryz.func108 rfl rfl rfl rfl ?_
 refine ae hP<|aq ai (aL rfl rfl)<|aq ai (aL rfl rfl)<|aq ai (aB hT rfl rfl)<|ag<|ae hP<|av hT rfl<|av hT rfl<|ab (ah (kg y)) ?_
 refine ab (ah (eo x (-y) hx hy.neg)) ?_
 refine aG hT rfl<|ag<|am<|E2 hT rfl rfl rfl rfl rfl rfl rfl ?_
 exact Sub.I (by omega)
theorem dW (x y:Int) (hx:L 45 x) (hy:L 45 y) :
  aH Tryz.prog 16 [I x,I y] (I (x*y)):=by
 refine aM Tryz.func16 rfl rfl rfl rfl ?_
 refine ae hP<|aq ai (aL rfl rfl)<|aq ai (aL rfl rfl)<|aq ai (aB hT rfl rfl)<|ag<|ae hP<|aI hT rfl<|bi hT rfl rfl rfl rfl ?_
 refine aI hT rfl<|bi hT rfl rfl rfl rfl ?_
 refine ab (jK hT rfl rfl rfl rfl)<|aI hT rfl<|bi hT rfl rfl rfl rfl ?_
 refine aI hT rfl<|bi hT rfl rfl rfl rfl ?_
 refine ab (ah (G9 (wl x.natAbs) (wl y.natAbs) (bG _) (bG _) (sz hx) (sz hy))) ?_
 refine ab (ah (jO _ _ (bG _))) ?_
 refine aG hT rfl<|ag<|am<|E2 hT rfl rfl rfl rfl rfl rfl rfl ?_
 exact Sub.I (by rw [bH];exact Aa x y)
end
section
open Go Go.AM
theorem dy (x:Int) :
  aH Tryz.prog 58 [I x] (Z (sgn x)):=by
 refine aM Tryz.func58 rfl rfl rfl rfl ?_
 refine ae hP<|aq ai (aL rfl rfl)<|aj rfl<|ag<|ao<|aC<|ae hP<|aI hT rfl<|bi hT rfl rfl rfl rfl ?_
 refine ab (aX hT rfl rfl rfl rfl)<|ab (bj rfl rfl)<|aj rfl<|ag ?_
 refine ay rfl (fun hb1=>?_) (fun hb1=>?_)
 ·have hb1_:=bT hb1
  refine ae hP<|aj rfl<|ag<|am<|E1 rfl rfl ?_
  have h0:=wl_len_zero.1 hb1_
  exact aK (by rw [h0];rfl)
 have hb1_:=bF hb1
 refine ae hP<|aI hT rfl<|bi hT rfl rfl rfl rfl ?_
 refine aj rfl<|ag ?_
 refine ay rfl (fun hb2=>?_) (fun hb2=>?_)
 ·refine ae hP<|aj rfl<|ag<|am<|E1 rfl rfl ?_
  exact aK (kd hb2).symm
 refine au<|ae hP<|aj rfl<|ag<|am<|E1 rfl rfl ?_
 have h0:x≠0:=fun e=>hb1_ (wl_len_zero.2 e)
 exact aK (qt h0 hb2).symm
theorem dO (x y:Int) :
  aH Tryz.prog 14 [I x,I y] (Z (bB x y)):=by
 refine aM Tryz.func14 rfl rfl rfl rfl ?_
 refine ae hP<|aq ai (aL rfl rfl)<|aq ai (aL rfl rfl)<|aj rfl<|ag<|ao<|ae hP<|aI hT rfl<|bi hT rfl rfl rfl rfl ?_
 refine aI hT rfl<|bi hT rfl rfl rfl rfl ?_
 refine ab (jK hT rfl rfl rfl rfl)<|ag ?_
 refine ay rfl (fun hb1=>?_) (fun hb1=>?_)
 ·refine ae hP<|av hT rfl<|ab (ah (dy _)) ?_
  refine av hT rfl<|ab (ah (dy _)) ?_
  refine ab (ah (oD _ _)) ?_
  refine aj rfl<|ag<|am<|E1 rfl rfl ?_
  exact aK (Dn hb1)
 refine au<|ae hP<|aI hT rfl<|bi hT rfl rfl rfl rfl ?_
 refine aI hT rfl<|bi hT rfl rfl rfl rfl ?_
 refine ab (ah (qM x.natAbs y.natAbs)) ?_
 refine av hT rfl<|ab (ah (dy _)) ?_
 refine ab (bg hT rfl rfl rfl (es:=[_,_]) rfl rfl rfl)<|ab (ah (J3 _ _)) ?_
 refine ab (bQ rfl rfl (Dm hb1)) ?_
 refine aj rfl<|ag<|am<|E1 rfl rfl ?_
 exact .refl _
theorem uI (x:Int) :
  aH Tryz.prog 242 [I x] (Z (bo x.natAbs)):=by
 refine aM Tryz.func242 rfl rfl rfl rfl ?_
 refine ae hP<|aq ai (aL rfl rfl)<|aj rfl<|ag<|ae hP<|aI hT rfl<|bi hT rfl rfl rfl rfl ?_
 refine ab (ah (CC x.natAbs)) ?_
 refine aj rfl<|ag<|am<|E1 rfl rfl ?_
 exact .refl _
theorem mZ (x:Int) (hx:L 45 x) :
  aH Tryz.prog 100 [I x] (B true):=by
 have hlen:=sz hx
 refine aM Tryz.func100 rfl rfl rfl rfl ?_
 refine ae hP<|aq ai (aL rfl rfl)<|aj rfl<|ag<|ao<|ae hP<|aI hT rfl<|bi hT rfl rfl rfl rfl ?_
 refine ab (aX hT rfl rfl rfl rfl)<|ab (bj rfl rfl)<|ag ?_
 refine ay rfl (fun hb1=>?_) (fun hb1=>?_)
 ·have hb1_:=bT hb1
  refine ae hP<|aI hT rfl<|bi hT rfl rfl rfl rfl ?_
  refine ab (bw rfl)<|aj rfl<|ag<|am<|E1 rfl rfl ?_
  have h0:=wl_len_zero.1 hb1_
  exact aF (by rw [h0];rfl)
 have hb1_:=bF hb1
 refine au<|ae hP<|aI hT rfl<|bi hT rfl rfl rfl rfl ?_
 refine aI hT rfl<|bi hT rfl rfl rfl rfl ?_
 refine ab (aX hT rfl rfl rfl rfl)<|ab (bE rfl rfl (by first | exact iW0 _ (by omega) | rfl)) ?_
 refine c7 ?_
 refine cO hT rfl rfl rfl ?_
 refine ab (bq rfl rfl)<|aj rfl<|ag<|am<|E1 rfl rfl ?_
 have h1:(wl x.natAbs).length≠0:=fun e=>hb1_ (by rw [e];rfl)
 have h2:(((wl x.natAbs).length:Int) - 1).toNat=(wl x.natAbs).length - 1:=by omega
 rw [h2]
 have h3:=pq (k:=x.natAbs) (n:=(wl x.natAbs).length - 1) (by omega)
 exact aF (by rw [show ((((wl x.natAbs).getD ((wl x.natAbs).length - 1) 0:Nat):Int) != 0)=true from bne_iff_ne.2 (by omega)])
theorem eS (z:Int) (hz:bu z) :
  aH Tryz.prog 136 [.p (.c (.v (.int .i64 z)))] (I z):=by
 have hz1:z.natAbs < 18446744073709551616:=by unfold bu at hz;omega
 refine aM Tryz.func136 rfl rfl rfl rfl ?_
 refine ae hP<|aq ai (aB hT rfl rfl)<|ag<|ae hP<|ak rfl<|ak rfl<|ab (dV rfl rfl)<|ab (pS rfl rfl)<|ab (bn hT rfl rfl rfl rfl (c:=((z.natAbs:Nat):Int)) (Fe hz)) ?_
 refine aj rfl<|ag<|ae hP<|ak rfl<|ab (bh rfl rfl)<|ak rfl<|ab (bn hT rfl rfl rfl rfl (eP _)) ?_
 refine ak rfl<|ab (dw (j:=32) rfl rfl (by decide)) ?_
 refine ab (bn hT rfl rfl rfl rfl (c:=((z.natAbs / 2 ^ 32:Nat):Int)) (by simp only [IntKind.wrap_u32];omega)) ?_
 refine ab (bg hT rfl rfl rfl (es:=[_,_]) rfl rfl rfl)<|ab (ah (jO _ [z.natAbs % 4294967296,z.natAbs / 2 ^ 32] (qJ (by omega)))) ?_
 refine aG hT rfl<|ag<|am<|E2 hT rfl rfl rfl rfl rfl rfl rfl ?_
 exact Sub.I (by rw [tg];exact yr)
theorem qT (neg:Bool) (m:Nat):aH Tryz.prog 63 [B neg,.p (.c (nt m))] (I (sg neg m)):=by
 have h:=jO neg (wl m) (bG m)
 rwa [bH] at h
theorem dZ (x y:Int) (hx:L 44 x) (hy:L 44 y) (h0:y≠0) :
  aH Tryz.prog 113 [I x,I y] (.t [PI (x / y),PI (x % y),PE 0]):=by
 have hq:L 44 (sg (!(decide (x < 0) == decide (y < 0))) (x.natAbs / y.natAbs)):=L.of_le hx (by rw [mN];exact Nat.div_le_self _ _)
 have hr:L 44 (sg (decide (x < 0)) (x.natAbs % y.natAbs)):=L.of_le hx (by rw [mN];exact Nat.mod_le _ _)
 refine aM Tryz.func113 rfl rfl rfl rfl ?_
 refine ae hP<|aq ai (aL rfl rfl)<|aq ai (aL rfl rfl)<|aq ai (aB hT rfl rfl)<|aq ai (aB hT rfl rfl)<|aj rfl<|ag<|ao<|ae hP<|aI hT rfl<|bi hT rfl rfl rfl rfl ?_
 refine ab (aX hT rfl rfl rfl rfl)<|ab (bj rfl rfl)<|ag ?_
 refine ay rfl (fun hb1=>?_) (fun hb1=>?_)
 ·have hb1_:=bT hb1
  exact absurd (wl_len_zero.1 hb1_) h0
 have hb1_:=bF hb1
 refine au<|ae hP<|aI hT rfl<|bi hT rfl rfl rfl rfl ?_
 refine aI hT rfl<|bi hT rfl rfl rfl rfl ?_
 refine ab (ah (Ha x.natAbs y.natAbs (sz (hx.mono (by decide))) (by omega))) ?_
 refine ab (az (rfl:_=AV.t _))<|ab (aD rfl (v:=.c _) rfl)<|ab (aD rfl (v:=.c _) rfl)<|aj rfl<|aj rfl<|ag<|ae hP<|aI hT rfl<|bi hT rfl rfl rfl rfl ?_
 refine aI hT rfl<|bi hT rfl rfl rfl rfl ?_
 refine ab (jK hT rfl rfl rfl rfl)<|ak rfl<|ab (ah (qT _ _)) ?_
 refine aI hT rfl<|bi hT rfl rfl rfl rfl ?_
 refine ak rfl<|ab (ah (qT _ _)) ?_
 refine aq ai (aB hT rfl rfl)<|aq ai (aB hT rfl rfl)<|aG hT rfl<|aG hT rfl<|ag<|ao<|ae hP<|aI hT rfl<|bi hT rfl rfl rfl rfl ?_
 refine ag ?_
 refine ay rfl (fun hb2=>?_) (fun hb2=>?_)
 ·have e1:=(kb h0 (dT0 hb2)).1
  have e2:=(kb h0 (dT0 hb2)).2
  refine ae hP<|av hT rfl<|av hT rfl<|ab (ah (nX _)) ?_
  refine ab (ah (eo _ _ (hr.mono (by decide)) (hy.abs.mono (by decide)))) ?_
  refine aG hT rfl<|ag<|aw hP<|av hT rfl<|av hT rfl<|ab (ah (dy _)) ?_
  refine ab (ah (eS (sgn y) (by unfold sgn;split <;> (try split) <;> decide))) ?_
  refine ab (ah (ke _ _ (hq.mono (by decide)) ((E8 y).mono (by decide)))) ?_
  refine aG hT rfl<|ag<|ae hP<|av hT rfl<|av hT rfl<|aG hT rfl<|aG hT rfl<|aj rfl<|ag<|am ?_
  refine cK rfl (.inr rfl) (aP hT rfl rfl rfl rfl (cs:=[_,_]) rfl rfl) (aP hT rfl rfl rfl rfl (cs:=[_,_]) rfl rfl) (bK rfl) ?_ bt
  exact aF (by rw [e1,e2])
 have e1:=(ka h0 (dF0 hb2)).1
 have e2:=(ka h0 (dF0 hb2)).2
 refine au<|ae hP<|av hT rfl<|av hT rfl<|aG hT rfl<|aG hT rfl<|aj rfl<|ag<|am ?_
 refine cK rfl (.inr rfl) (aP hT rfl rfl rfl rfl (cs:=[_,_]) rfl rfl) (aP hT rfl rfl rfl rfl (cs:=[_,_]) rfl rfl) (bK rfl) ?_ bt
 exact aF (by rw [e1,e2])
theorem Hz (x y:Int) (hx:L 44 x) (hy:L 44 y) (h0:y≠0) :
  aH Tryz.prog 61 [I x,I y] (I (x % y)):=by
 refine aM Tryz.func61 rfl rfl rfl rfl ?_
 refine ae hP<|aq ai (aL rfl rfl)<|aq ai (aL rfl rfl)<|aq ai (aB hT rfl rfl)<|ag<|ae hP<|av hT rfl<|av hT rfl<|ab (ah (dZ x y hx hy h0)) ?_
 refine ab (az (rfl:_=AV.t _))<|ab (aD rfl (v:=.a _) rfl)<|ab (aD rfl (v:=.a _) rfl)<|ab (aD rfl (v:=.c _) rfl)<|aq ai (aB hT rfl rfl)<|aq ai (aB hT rfl rfl)<|aG hT rfl<|aG hT rfl<|aj rfl<|ag<|ae hP<|av hT rfl<|aG hT rfl<|ag<|am<|E2 hT rfl rfl rfl rfl rfl rfl rfl ?_
 exact .refl _
theorem nW (x y:Int) (hx:L 44 x) (hy:L 44 y) :
  aH Tryz.prog 15 [I x,I y] (I (Int.gcd x y)):=by
 refine aM Tryz.func15 rfl rfl rfl rfl ?_
 refine ae hP<|aq ai (aL rfl rfl)<|aq ai (aL rfl rfl)<|aq ai (aB hT rfl rfl)<|ag<|ao<|aC<|bl (ι:=Int × Int) (fun p=>stL [(2,.loc 2 0),(3,.loc 3 0),(4,.loc 4 0)] [(2,⟨false,1,29,[zn (p.1),zm (p.1)]⟩),(3,⟨false,1,29,[zn (p.2),zm (p.2)]⟩),(4,⟨false,1,29,[zn (0),zm (0)]⟩)]) (fun p=>L 44 p.1∧L 44 p.2∧Int.gcd p.1 p.2=Int.gcd x y) (fun p=>p.2.natAbs) (x,y) ⟨hx,hy,rfl⟩ (aE ⟨.refl _,.refl _,.refl _,trivial⟩ ⟨rfl,rfl,rfl,trivial⟩) ?_
 rintro ⟨a,b⟩ ⟨ha,hb,hg⟩
 refine ao<|ae hP<|aI hT rfl<|bi hT rfl rfl rfl rfl ?_
 refine ab (aX hT rfl rfl rfl rfl)<|ab (bJ rfl rfl)<|ag ?_
 refine ay rfl (fun hb1=>?_) (fun hb1=>?_)
 ·have hb1_:=dT0 hb1
  have h0:b≠0:=fun e=>by
   have e2:0 < ((wl b.natAbs).length:Int):=hb1_
   rw [e] at e2;exact absurd e2 (by decide)
  refine au<|aC<|aw hP<|av hT rfl<|av hT rfl<|av hT rfl<|ab (ah (Hz a b ha hb h0)) ?_
  refine aG hT rfl<|aG hT rfl<|ag ?_
  refine ⟨(b,a % b),⟨hb,(ha.emod hb).mono (by decide),?_⟩,?_,aE ⟨.refl _,.refl _,.refl _,trivial⟩ ⟨rfl,rfl,rfl,trivial⟩⟩
  ·rw [← hg];exact uN a b
  have h1:=Int.emod_nonneg a h0
  have h2:=Int.emod_lt a h0
  show (a % b).natAbs < b.natAbs
  omega
 have hb1_:=dF0 hb1
 refine aW<|ae hP<|av hT rfl<|ab (ah (nX _)) ?_
 refine aG hT rfl<|ag<|am<|E2 hT rfl rfl rfl rfl rfl rfl rfl ?_
 have h0:b=0:=by
  have e2:¬ 0 < ((wl b.natAbs).length:Int):=hb1_
  have:((wl b.natAbs).length:Int)=0:=by omega
  exact wl_len_zero.1 this
 exact Sub.I (by rw [← hg,h0];simp)
theorem yI (x:Int) (hx:L 44 x) :
  aH Tryz.prog 243 [I x,Z 1] (I x):=by
 refine aM Tryz.func243 rfl rfl rfl rfl ?_
 refine ae hP<|aq ai (aL rfl rfl)<|aq ai (aB hT rfl rfl)<|ag<|ae hP<|ab (ah (eS 1 (by decide))) ?_
 refine aq ai (aB hT rfl rfl)<|aG hT rfl<|ag<|ao<|aC<|ee 2 ?_
 refine ao<|ae hP<|ak rfl<|ab (bJ rfl rfl)<|ag<|aU rfl (by decide) ?_
 refine au<|ao<|aC<|ao<|ae hP<|ak rfl<|ab (bM rfl rfl (by first | decide | omega) (by first | exact Int.tmod_eq_emod_of_nonneg (by omega) | rfl)) ?_
 refine ab (bj rfl rfl)<|ag<|aU rfl rfl<|aw hP<|av hT rfl<|av hT rfl<|ab (ah (dW 1 x (L.mono (n:=0) (by decide) (by decide)) (hx.mono (by decide)))) ?_
 refine aG hT rfl<|ag<|ae hP<|ak rfl<|ab (bJ rfl rfl)<|ag<|aQ rfl rfl<|au<|aw hP<|ak rfl<|ab (cZ rfl rfl (by first | decide | omega) (by first | exact iW0 _ (by omega) | rfl)) ?_
 refine aj rfl<|ag<|ao<|ae hP<|ak rfl<|ab (bJ rfl rfl)<|ag<|aQ rfl (by decide) ?_
 refine aW<|ae hP<|av hT rfl<|aG hT rfl<|ag<|am<|E2 hT rfl rfl rfl rfl rfl rfl rfl ?_
 exact Sub.I (by rw [Int.one_mul])
end
section
open Go Go.AM
theorem Ap (x:Int) (hx:L 40 x) :
  aH Tryz.prog 212 [I x,Z 2] (.t [PI (rootV x),PE (j0 x)]):=by
 have hbl:=AT hx
 refine aM Tryz.func212 rfl rfl rfl rfl ?_
 refine ae hP<|aq ai (aL rfl rfl)<|aq ai (aB hT rfl rfl)<|aj rfl<|ag<|ae hP<|av hT rfl<|ab (ah (uI x)) ?_
 refine aj rfl<|ag<|ao<|aC<|ae hP<|aI hT rfl<|bi hT rfl rfl rfl rfl ?_
 refine ak rfl ?_
 refine aY (t:=16) rfl (fun hg1=>?_) (fun hg1=>?_)
 ·have hx0:x < 0:=dT0 hg1
  refine aZ hg1 ?_
  refine aZ hg1 ?_
  refine ab (aO rfl hg1 (rfl:_=AV.p (.c _)))<|aj rfl<|ag<|aU rfl rfl<|ae hP<|ab (aR hT rfl rfl rfl (es:=[_,_]) rfl)<|aG hT rfl<|aj rfl<|ag<|am ?_
  refine cp rfl (.inr rfl) (aP hT rfl rfl rfl rfl (cs:=[_,_]) rfl rfl) (bK rfl) ?_ bt
  exact aF (by rw [(gU hx0).1,(gU hx0).2])
 have hx0:¬ x < 0:=dF0 hg1
 refine aA hg1 (az (rfl:_=AV.p (.c _))) ?_
 refine aA hg1 (bh rfl rfl) ?_
 refine ab (aN rfl hg1 (rfl:_=AV.p (.c _)))<|aj rfl<|ag<|aQ rfl rfl<|ae hP<|ak rfl<|ab (bj rfl rfl)<|ak rfl ?_
 refine aY (t:=24) rfl (fun hg2=>?_) (fun hg2=>?_)
 ·have hg2_:=bT hg2
  refine aZ hg2 ?_
  refine aZ hg2 ?_
  refine ab (aO rfl hg2 (rfl:_=AV.p (.c _)))<|aj rfl<|ag<|aU rfl rfl<|ae hP<|av hT rfl<|aG hT rfl<|aj rfl<|ag<|am ?_
  refine cp rfl (.inr rfl) (aP hT rfl rfl rfl rfl (cs:=[_,_]) rfl rfl) (bK rfl) ?_ bt
  have e:=zC hg2_
  exact aF (by rw [e];rfl)
 have hg2_:=bF hg2
 refine aA hg2 (az (rfl:_=AV.p (.c _))) ?_
 refine aA hg2 (bj rfl rfl) ?_
 refine ab (aN rfl hg2 (rfl:_=AV.p (.c _)))<|aj rfl<|ag<|aQ rfl rfl<|ae hP<|ak rfl<|ak rfl<|ab (dp rfl rfl)<|aj rfl<|ag ?_
 refine ay rfl (fun hb3=>?_) (fun hb3=>?_)
 ·have hb3_:=dT0 hb3
  refine ae hP<|ab (ah (eS _ (by decide))) ?_
  refine aG hT rfl<|aj rfl<|ag<|am ?_
  refine cp rfl (.inr rfl) (aP hT rfl rfl rfl rfl (cs:=[_,_]) rfl rfl) (bK rfl) ?_ bt
  exact aF (by rw [xW hx0 hg2_ hb3_,gV hx0])
 have hb3_:=dF0 hb3
 have hx1:0 < x:=by
  rcases Int.lt_trichotomy x 0 with e | e | e
  ·exact absurd e hx0
  ·rw [e] at hg2_;exact absurd rfl hg2_
  exact e
 refine au<|ae hP<|ab (bg hT rfl rfl rfl (es:=[_]) rfl rfl rfl)<|ak rfl<|ak rfl<|bA rfl rfl ?_
 refine ab (bE rfl rfl (by first | exact iW0 _ (by omega) | rfl)) ?_
 refine ak rfl<|ab (cZ rfl rfl (by decide) (NE _ hbl)) ?_
 refine ab (ah (qK [1] ((bo x.natAbs+1) / 2) wS (by decide) (by omega))) ?_
 refine ab (ah (qT _ _)) ?_
 refine aq ai (aB hT rfl rfl)<|aG hT rfl<|ag<|aC<|bl (ι:=Int) (fun s=>stL [(1,Z 2),(2,.loc 2 0),(4,.loc 4 0),(7,.loc 7 0)] [(2,⟨false,1,29,[zn (x),zm (x)]⟩),(4,⟨false,1,29,[zn (0),zm (0)]⟩),(7,⟨false,1,29,[zn (s),zm (s)]⟩)]) (fun s=>0 < s∧rootV x≤s∧s≤2*x) (fun s=>s.toNat) (2 ^ ((bo x.natAbs+1) / 2):Nat) ?_ (aE ⟨.refl _,.refl _,.refl _,.refl _,trivial⟩ ⟨rfl,rfl,?_,trivial⟩) ?_
 ·exact pA hx1
 ·exact congrArg (fun z=>some (⟨false,1,29,[zn z,zm z]⟩:Blk)) (Jj _)
 intro s hs
 have ix:LB x 40:=⟨hx⟩
 have is:LB s 41:=⟨L.of_le (b:=2*x) (lz (by rfl)) (by omega)⟩
 refine aC<|ae hP<|av hT rfl<|av hT rfl<|ak rfl<|ab (bE rfl rfl (by first | exact iW0 _ (by omega) | rfl)) ?_
 refine ab (ah (yI s lz)) ?_
 refine ab (ah (dZ x s lz lz (by omega))) ?_
 refine ab (az (rfl:_=AV.t _))<|ab (aD rfl (v:=.a _) rfl)<|ab (aD rfl (v:=.a _) rfl)<|ab (aD rfl (v:=.c _) rfl)<|aq ai (aB hT rfl rfl)<|aq ai (aB hT rfl rfl)<|aG hT rfl<|aG hT rfl<|aj rfl<|ag<|ae hP<|av hT rfl<|ak rfl<|ab (bE rfl rfl (by first | exact iW0 _ (by omega) | rfl)) ?_
 refine ab (ah (eS _ (by decide))) ?_
 refine ab (ah (dW _ _ lz lz)) ?_
 refine av hT rfl<|ab (ah (eo _ _ lz lz)) ?_
 refine ak rfl<|ab (ah (eS _ (by decide))) ?_
 refine ab (ah (dZ _ 2 lz lz (by decide))) ?_
 refine ab (az (rfl:_=AV.t _))<|ab (aD rfl (v:=.a _) rfl)<|ab (aD rfl (v:=.a _) rfl)<|ab (aD rfl (v:=.c _) rfl)<|aG hT rfl<|ag<|ao<|ae hP<|av hT rfl<|av hT rfl<|ab (ah (dO _ _)) ?_
 refine ab (dp rfl rfl)<|ag ?_
 refine ay rfl (fun hb4=>?_) (fun hb4=>?_)
 ·have hb4_:=dT0 hb4
  have hge:=k9 hb4_
  refine ae hP<|av hT rfl<|aG hT rfl<|aj rfl<|ag<|am ?_
  refine cp rfl (.inr rfl) (aP hT rfl rfl rfl rfl (cs:=[_,_]) rfl rfl) (bK rfl) ?_ bt
  have e:=rB hx1 hs.1 hs.2.1 hge
  exact aF (by rw [e,gV hx0])
 have hb4_:=dF0 hb4
 have hge:=jV hb4_
 refine au<|aw hP<|av hT rfl<|aG hT rfl<|ag ?_
 refine ⟨(s*1+x / s) / 2,⟨(kI hx1 hs.1).2,(kI hx1 hs.1).1,Int.le_trans (Int.le_of_lt hge) hs.2.2⟩,?_,aE ⟨.refl _,.refl _,.refl _,.refl _,trivial⟩ ⟨rfl,rfl,rfl,trivial⟩⟩
 have h3:=(kI hx1 hs.1).2
 show ((s*1+x / s) / 2).toNat < s.toNat
 omega
theorem CU (x:Int) (hx:L 40 x) :
  aH Tryz.prog 178 [I x] (.t [PI (rootV x),PI (if x < 0 then 0 else x - rootV x*rootV x),PE (j0 x)]):=by
 have ix:LB x 40:=⟨hx⟩
 refine aM Tryz.func178 rfl rfl rfl rfl ?_
 refine ae hP<|aq ai (aL rfl rfl)<|aq ai (aB hT rfl rfl)<|aq ai (aB hT rfl rfl)<|aj rfl<|ag<|ae hP<|av hT rfl<|ab (ah (Ap x hx)) ?_
 refine ab (az (rfl:_=AV.t _))<|ab (aD rfl (v:=.a _) rfl)<|ab (aD rfl (v:=.c _) rfl)<|aq ai (aB hT rfl rfl)<|aG hT rfl<|aj rfl<|ag<|ao<|ae hP<|ak rfl<|ab (bq rfl rfl)<|ag ?_
 refine ay rfl (fun hb1=>?_) (fun hb1=>?_)
 ·have hb1_:=b8 hb1
  refine ae hP<|ab (aR hT rfl rfl rfl (es:=[_,_]) rfl)<|ab (aR hT rfl rfl rfl (es:=[_,_]) rfl)<|ak rfl<|aG hT rfl<|aG hT rfl<|aj rfl<|ag<|am ?_
  refine cK rfl (.inr rfl) (aP hT rfl rfl rfl rfl (cs:=[_,_]) rfl rfl) (aP hT rfl rfl rfl rfl (cs:=[_,_]) rfl rfl) (bK rfl) ?_ bt
  have h0:x < 0:=by
   rcases Int.lt_or_le x 0 with h | h
   ·exact h
   exact absurd (gV (by omega)) hb1_
  exact aF (by rw [(gU h0).1,if_pos h0])
 have hb1_:=bU hb1
 refine au<|ae hP<|av hT rfl<|av hT rfl<|av hT rfl<|av hT rfl<|ab (ah (dW _ _ lz lz)) ?_
 refine ab (ah (ke _ _ lz lz)) ?_
 refine aG hT rfl<|aG hT rfl<|aj rfl<|ag<|am ?_
 refine cK rfl (.inr rfl) (aP hT rfl rfl rfl rfl (cs:=[_,_]) rfl rfl) (aP hT rfl rfl rfl rfl (cs:=[_,_]) rfl rfl) (bK rfl) ?_ bt
 have h0:¬ x < 0:=fun h=>by rw [(gU h).2] at hb1_;cases hb1_
 exact aF (by rw [if_neg h0,gV h0])
end
section
open Go Go.AM
theorem eQ (z:Int) (hz:bu z) :
  aH Tryz.prog 110 [.p (.c (.v (.int .i64 z)))] (I z):=by
 refine aM Tryz.func110 rfl rfl rfl rfl ?_
 refine ae hP<|aq ai (aB hT rfl rfl)<|ag<|ae hP<|ak rfl<|ab (ah (eS z hz)) ?_
 refine aG hT rfl<|ag<|am<|E2 hT rfl rfl rfl rfl rfl rfl rfl ?_
 exact .refl _
theorem dm (x y:Int) (hx:L 40 x) (hy:L 40 y) :
  aH Tryz.prog 109 [.p (.c (.sl 2 [zn x,zm x,zn y,zm y]))] (I (x*y)):=by
 have ix:LB x 40:=⟨hx⟩
 have iy:LB y 40:=⟨hy⟩
 refine aM Tryz.func109 rfl rfl rfl rfl ?_
 refine ae hP<|aq ai (aB hT rfl rfl)<|ag<|ae hP<|ab (ah (eQ _ (by first | assumption | decide))) ?_
 refine aq ai (aB hT rfl rfl)<|aG hT rfl<|ag<|ao<|ae hP<|ak rfl<|ab (aX hT rfl rfl rfl rfl)<|ak rfl<|ag<|aC<|ee 3 ?_
 refine ae hP<|ab (bh rfl rfl)<|ag<|ao<|aU rfl (by decide) ?_
 refine au<|ao<|aC<|ae hP<|c7 ?_
 refine ab (bf hT rfl rfl rfl (cs:=[_,_]) rfl rfl)<|aq ai (aB hT rfl rfl)<|aG hT rfl<|ag<|aw hP<|av hT rfl<|av hT rfl<|ab (ah (dW _ _ lz lz)) ?_
 refine aG hT rfl<|ag<|aw hP<|bA rfl rfl ?_
 refine ak rfl<|ag<|ae hP<|ab (bh rfl rfl)<|ag<|ao<|aU rfl (by decide) ?_
 refine au<|ao<|aC<|ae hP<|c7 ?_
 refine ab (bf hT rfl rfl rfl (cs:=[_,_]) rfl rfl)<|aq ai (aB hT rfl rfl)<|aG hT rfl<|ag<|aw hP<|av hT rfl<|av hT rfl<|ab (ah (dW _ _ lz lz)) ?_
 refine aG hT rfl<|ag<|aw hP<|bA rfl rfl ?_
 refine ak rfl<|ag<|ae hP<|ab (bh rfl rfl)<|ag<|ao<|aQ rfl (by decide) ?_
 refine aW<|ae hP<|av hT rfl<|aG hT rfl<|ag<|am<|E2 hT rfl rfl rfl rfl rfl rfl rfl ?_
 exact Sub.I (by rw [Int.one_mul])
theorem gy (x y z:Int) (hx:L 40 x) (hy:L 40 y) (hz:L 40 z) :
  aH Tryz.prog 109 [.p (.c (.sl 3 [zn x,zm x,zn y,zm y,zn z,zm z]))] (I (x*y*z)):=by
 have ix:LB x 40:=⟨hx⟩
 have iy:LB y 40:=⟨hy⟩
 have iz:LB z 40:=⟨hz⟩
 refine aM Tryz.func109 rfl rfl rfl rfl ?_
 refine ae hP<|aq ai (aB hT rfl rfl)<|ag<|ae hP<|ab (ah (eQ _ (by first | assumption | decide))) ?_
 refine aq ai (aB hT rfl rfl)<|aG hT rfl<|ag<|ao<|ae hP<|ak rfl<|ab (aX hT rfl rfl rfl rfl)<|ak rfl<|ag<|aC<|ee 4 ?_
 refine ae hP<|ab (bh rfl rfl)<|ag<|ao<|aU rfl (by decide) ?_
 refine au<|ao<|aC<|ae hP<|c7 ?_
 refine ab (bf hT rfl rfl rfl (cs:=[_,_]) rfl rfl)<|aq ai (aB hT rfl rfl)<|aG hT rfl<|ag<|aw hP<|av hT rfl<|av hT rfl<|ab (ah (dW _ _ lz lz)) ?_
 refine aG hT rfl<|ag<|aw hP<|bA rfl rfl ?_
 refine ak rfl<|ag<|ae hP<|ab (bh rfl rfl)<|ag<|ao<|aU rfl (by decide) ?_
 refine au<|ao<|aC<|ae hP<|c7 ?_
 refine ab (bf hT rfl rfl rfl (cs:=[_,_]) rfl rfl)<|aq ai (aB hT rfl rfl)<|aG hT rfl<|ag<|aw hP<|av hT rfl<|av hT rfl<|ab (ah (dW _ _ lz lz)) ?_
 refine aG hT rfl<|ag<|aw hP<|bA rfl rfl ?_
 refine ak rfl<|ag<|ae hP<|ab (bh rfl rfl)<|ag<|ao<|aU rfl (by decide) ?_
 refine au<|ao<|aC<|ae hP<|c7 ?_
 refine ab (bf hT rfl rfl rfl (cs:=[_,_]) rfl rfl)<|aq ai (aB hT rfl rfl)<|aG hT rfl<|ag<|aw hP<|av hT rfl<|av hT rfl<|ab (ah (dW _ _ lz lz)) ?_
 refine aG hT rfl<|ag<|aw hP<|bA rfl rfl ?_
 refine ak rfl<|ag<|ae hP<|ab (bh rfl rfl)<|ag<|ao<|aQ rfl (by decide) ?_
 refine aW<|ae hP<|av hT rfl<|aG hT rfl<|ag<|am<|E2 hT rfl rfl rfl rfl rfl rfl rfl ?_
 exact Sub.I (by rw [Int.one_mul])
theorem pN (x:Int) (hx:L 40 x) :
  aH Tryz.prog 126 [I x] (B (fl x)):=by
 have ix:LB x 40:=⟨hx⟩
 refine aM Tryz.func126 rfl rfl rfl rfl ?_
 refine ae hP<|aq ai (aL rfl rfl)<|aj rfl<|ag<|ae hP<|av hT rfl<|ab (ah (CU _ lz)) ?_
 refine ab (az (rfl:_=AV.t _))<|ab (aD rfl (v:=.a _) rfl)<|ab (aD rfl (v:=.a _) rfl)<|ab (aD rfl (v:=.c _) rfl)<|aq ai (aB hT rfl rfl)<|aq ai (aB hT rfl rfl)<|aG hT rfl<|aG hT rfl<|aj rfl<|ag<|ae hP<|ak rfl<|ab (bj rfl rfl)<|ak rfl ?_
 refine aY (t:=14) rfl (fun hg1=>?_) (fun hg1=>?_)
 ·have hg1_:=bT hg1
  refine aA hg1 (aJ hT rfl rfl rfl rfl (cs:=[_,_]) rfl rfl) ?_
  refine aA hg1 (ah (dy _)) ?_
  refine aA hg1 (bj rfl rfl) ?_
  refine ab (aO rfl hg1 (rfl:_=AV.p (.c _)))<|aj rfl<|ag<|am<|E1 rfl rfl ?_
  exact bd (uF hg1)
 have hg1_:=bF hg1
 iterate 3 refine aZ hg1 ?_
 refine ab (aN rfl hg1 (rfl:_=AV.p (.c _)))<|aj rfl<|ag<|am<|E1 rfl rfl ?_
 exact bd (Hy hg1)
theorem gh (a b c:Int) (ha:L 36 a) (hb:L 36 b) (hc:L 36 c) :
  aH Tryz.prog 40 [FA a b c] (I (dsc a b c)):=by
 have ia:LB a 36:=⟨ha⟩
 have ib:LB b 36:=⟨hb⟩
 have ic:LB c 36:=⟨hc⟩
 refine aM Tryz.func40 rfl rfl rfl rfl ?_
 refine ae hP<|aq ai (aL rfl rfl)<|aq ai (aB hT rfl rfl)<|ag<|ae hP<|aI hT rfl<|av hT rfl<|aI hT rfl<|av hT rfl<|ab (bg hT rfl rfl rfl (es:=[_,_,_,_]) rfl rfl rfl)<|ab (ah (dm _ _ lz lz)) ?_
 refine ab (ah (eQ _ (by first | assumption | decide))) ?_
 refine aI hT rfl<|av hT rfl<|aI hT rfl<|av hT rfl<|ab (bg hT rfl rfl rfl (es:=[_,_,_,_,_,_]) rfl rfl rfl)<|ab (ah (gy _ _ _ lz lz lz)) ?_
 refine ab (ah (ke _ _ lz lz)) ?_
 refine aG hT rfl<|ag<|am<|E2 hT rfl rfl rfl rfl rfl rfl rfl ?_
 exact .refl _
theorem nP (a b c:Int) (ha:L 34 a) (hb:L 34 b) (hc:L 34 c) :
  aH Tryz.prog 111 [FA a b c] (Z (ck a b c)):=by
 have ia:LB a 34:=⟨ha⟩
 have ib:LB b 34:=⟨hb⟩
 have ic:LB c 34:=⟨hc⟩
 have cDs:=gh a b c lz lz lz
 have ids:LB (dsc a b c) 40:=⟨lz⟩
 generalize hδ:dsc a b c=δ at cDs ids
 refine aM Tryz.func111 rfl rfl rfl rfl ?_
 refine ae hP<|aq ai (aL rfl rfl)<|aj rfl<|ag<|ao<|ae hP<|aI hT rfl<|av hT rfl<|aI hT rfl<|av hT rfl<|aI hT rfl<|av hT rfl<|ab (dA hT rfl rfl rfl (es:=[_,_,_,_,_,_]) rfl)<|ak rfl<|ag<|aC<|ee 4 ?_
 refine ae hP<|ab (bh rfl rfl)<|ag<|ao<|aU rfl (by decide) ?_
 refine au<|ao<|aC<|ae hP<|ab (jS hT rfl rfl rfl rfl rfl rfl (by decide) (es:=[_,_]) rfl rfl) ?_
 refine aq ai (aB hT rfl rfl)<|aG hT rfl<|ag<|ae hP<|av hT rfl<|ab (ah (mZ _ lz)) ?_
 refine ab (bw rfl)<|ag<|aQ rfl rfl<|au<|aw hP<|bA rfl rfl ?_
 refine ak rfl<|ag<|ae hP<|ab (bh rfl rfl)<|ag<|ao<|aU rfl (by decide) ?_
 refine au<|ao<|aC<|ae hP<|ab (jS hT rfl rfl rfl rfl rfl rfl (by decide) (es:=[_,_]) rfl rfl) ?_
 refine aq ai (aB hT rfl rfl)<|aG hT rfl<|ag<|ae hP<|av hT rfl<|ab (ah (mZ _ lz)) ?_
 refine ab (bw rfl)<|ag<|aQ rfl rfl<|au<|aw hP<|bA rfl rfl ?_
 refine ak rfl<|ag<|ae hP<|ab (bh rfl rfl)<|ag<|ao<|aU rfl (by decide) ?_
 refine au<|ao<|aC<|ae hP<|ab (jS hT rfl rfl rfl rfl rfl rfl (by decide) (es:=[_,_]) rfl rfl) ?_
 refine aq ai (aB hT rfl rfl)<|aG hT rfl<|ag<|ae hP<|av hT rfl<|ab (ah (mZ _ lz)) ?_
 refine ab (bw rfl)<|ag<|aQ rfl rfl<|au<|aw hP<|bA rfl rfl ?_
 refine ak rfl<|ag<|ae hP<|ab (bh rfl rfl)<|ag<|ao<|aQ rfl (by decide) ?_
 refine aW<|dz (t:=stL [(1,.loc 1 0)] [(1,⟨false,1,46,FL a b c⟩)]) (aE ⟨.refl _,trivial⟩ ⟨rfl,trivial⟩) ?_
 refine ae hP<|br hT rfl rfl rfl rfl rfl rfl<|ab (ah cDs) ?_
 refine aq ai (aB hT rfl rfl)<|aG hT rfl<|ag<|ao<|aC<|ae hP<|av hT rfl<|ab (ah (pN _ lz)) ?_
 refine aj rfl<|ag ?_
 refine ay rfl (fun hb1=>?_) (fun hb1=>?_)
 ·refine ae hP<|aj rfl<|ag<|am<|E1 rfl rfl ?_
  exact aK (EV (by rw [hδ];exact hb1))
 refine ae hP<|av hT rfl<|ab (ah (dy _)) ?_
 refine ab (bh rfl rfl)<|ak rfl ?_
 refine aY (t:=29) rfl (fun hg2=>?_) (fun hg2=>?_)
 ·have hg2_:=dT0 hg2
  refine aA hg2 (aT hT rfl rfl rfl rfl rfl rfl) ?_
  refine aA hg2 (aJ hT rfl rfl rfl rfl (cs:=[_,_]) rfl rfl) ?_
  refine aA hg2 (ah (dy _)) ?_
  refine aA hg2 (ej rfl rfl) ?_
  refine ab (aO rfl hg2 (rfl:_=AV.p (.c _)))<|aj rfl<|ag ?_
  refine ay rfl (fun hb3=>?_) (fun hb3=>?_)
  ·have hb3_:=dT0 hb3
   refine ae hP<|aj rfl<|ag<|am<|E1 rfl rfl ?_
   exact aK (AQ (by rw [hδ];exact hb1) (by rw [hδ];exact hg2_) hb3_)
  have hb3_:=dF0 hb3
  refine au<|ae hP<|aj rfl<|ag<|am<|E1 rfl rfl ?_
  exact aK (EW (by rw [hδ];exact hb1) (by rw [hδ];exact hg2_) hb3_)
 have hg2_:=dF0 hg2
 iterate 4 refine aZ hg2 ?_
 refine ab (aN rfl hg2 (rfl:_=AV.p (.c _)))<|aj rfl<|ag<|aQ rfl rfl<|au<|ae hP<|aj rfl<|ag<|am<|E1 rfl rfl ?_
 exact aK (AP (by rw [hδ];exact hb1) (by rw [hδ];exact hg2_))
theorem kW (a b c:Int) (ha:L 44 a) (hb:L 44 b) (hc:L 44 c) :
  aH Tryz.prog 53 [FA a b c] (B (prim a b c)):=by
 have ia:LB a 44:=⟨ha⟩
 have ib:LB b 44:=⟨hb⟩
 have ic:LB c 44:=⟨hc⟩
 have ig:=Bc hb hc
 refine aM Tryz.func53 rfl rfl rfl rfl ?_
 refine ae hP<|aq ai (aL rfl rfl)<|aj rfl<|ag<|ae hP<|aI hT rfl<|av hT rfl<|aI hT rfl<|av hT rfl<|aI hT rfl<|av hT rfl<|ab (ah (nW _ _ lz lz)) ?_
 refine ab (ah (nW _ _ lz lz)) ?_
 refine ab (ah (eQ _ (by first | assumption | decide))) ?_
 refine ab (ah (dO _ _)) ?_
 refine ab (bj rfl rfl)<|aj rfl<|ag<|am<|E1 rfl rfl ?_
 exact bd (Cg _ _ _)
theorem qD (a b c x y:Int) (ha:L 36 a) (hb:L 36 b) (hc:L 36 c) (hx:L 36 x) (hy:L 36 y) :
  aH Tryz.prog 44 [FA a b c,I x,I y] (I (vl a b c x y)):=by
 have ia:LB a 36:=⟨ha⟩
 have ib:LB b 36:=⟨hb⟩
 have ic:LB c 36:=⟨hc⟩
 have ix:LB x 36:=⟨hx⟩
 have iy:LB y 36:=⟨hy⟩
 refine aM Tryz.func44 rfl rfl rfl rfl ?_
 refine ae hP<|aq ai (aL rfl rfl)<|aq ai (aL rfl rfl)<|aq ai (aL rfl rfl)<|aq ai (aB hT rfl rfl)<|ag<|ae hP<|aI hT rfl<|av hT rfl<|av hT rfl<|av hT rfl<|ab (bg hT rfl rfl rfl (es:=[_,_,_,_,_,_]) rfl rfl rfl)<|ab (ah (gy _ _ _ lz lz lz)) ?_
 refine aI hT rfl<|av hT rfl<|av hT rfl<|av hT rfl<|ab (bg hT rfl rfl rfl (es:=[_,_,_,_,_,_]) rfl rfl rfl)<|ab (ah (gy _ _ _ lz lz lz)) ?_
 refine ab (ah (eo _ _ lz lz)) ?_
 refine aI hT rfl<|av hT rfl<|av hT rfl<|av hT rfl<|ab (bg hT rfl rfl rfl (es:=[_,_,_,_,_,_]) rfl rfl rfl)<|ab (ah (gy _ _ _ lz lz lz)) ?_
 refine ab (ah (eo _ _ lz lz)) ?_
 refine aG hT rfl<|ag<|am<|E2 hT rfl rfl rfl rfl rfl rfl rfl ?_
 exact .refl _
theorem GJ (a b c p q r s:Int) (ha:L 34 a) (hb:L 34 b) (hc:L 34 c) (hp:L 34 p) (hq:L 34 q) (hr:L 34 r) (hs:L 34 s) :
  aH Tryz.prog 46 [FA a b c,MA p q r s] (FA (vl a b c p r) (apB a b c p q r s) (vl a b c q s)):=by
 have ia:LB a 34:=⟨ha⟩
 have ib:LB b 34:=⟨hb⟩
 have ic:LB c 34:=⟨hc⟩
 have ip:LB p 34:=⟨hp⟩
 have iq:LB q 34:=⟨hq⟩
 have ir:LB r 34:=⟨hr⟩
 have is:LB s 34:=⟨hs⟩
 refine aM Tryz.func46 rfl rfl rfl rfl ?_
 refine ae hP<|aq ai (aL rfl rfl)<|aq ai (aL rfl rfl)<|aq ai (aB hT rfl rfl)<|ag<|ae hP<|aI hT rfl<|av hT rfl<|aI hT rfl<|av hT rfl<|ab (bg hT rfl rfl rfl (es:=[_,_,_,_]) rfl rfl rfl)<|ab (ah (dm _ _ lz lz)) ?_
 refine aI hT rfl<|av hT rfl<|aI hT rfl<|av hT rfl<|ab (bg hT rfl rfl rfl (es:=[_,_,_,_]) rfl rfl rfl)<|ab (ah (dm _ _ lz lz)) ?_
 refine ab (ah (eo _ _ lz lz)) ?_
 refine aq ai (aB hT rfl rfl)<|aG hT rfl<|ag<|ae hP<|aI hT rfl<|av hT rfl<|aI hT rfl<|av hT rfl<|aI hT rfl<|av hT rfl<|ab (bg hT rfl rfl rfl (es:=[_,_,_,_,_,_]) rfl rfl rfl)<|ab (ah (gy _ _ _ lz lz lz)) ?_
 refine aI hT rfl<|av hT rfl<|aI hT rfl<|av hT rfl<|aI hT rfl<|av hT rfl<|ab (bg hT rfl rfl rfl (es:=[_,_,_,_,_,_]) rfl rfl rfl)<|ab (ah (gy _ _ _ lz lz lz)) ?_
 refine ab (ah (eo _ _ lz lz)) ?_
 refine aq ai (aB hT rfl rfl)<|aG hT rfl<|ag<|ae hP<|br hT rfl rfl rfl rfl rfl rfl<|aI hT rfl<|av hT rfl<|aI hT rfl<|av hT rfl<|ab (ah (qD _ _ _ _ _ lz lz lz lz lz)) ?_
 refine ab (ah (eQ _ (by first | assumption | decide))) ?_
 refine av hT rfl<|ab (bg hT rfl rfl rfl (es:=[_,_,_,_]) rfl rfl rfl)<|ab (ah (dm _ _ lz lz)) ?_
 refine aI hT rfl<|av hT rfl<|av hT rfl<|ab (bg hT rfl rfl rfl (es:=[_,_,_,_]) rfl rfl rfl)<|ab (ah (dm _ _ lz lz)) ?_
 refine ab (ah (eo _ _ lz lz)) ?_
 refine br hT rfl rfl rfl rfl rfl rfl<|aI hT rfl<|av hT rfl<|aI hT rfl<|av hT rfl<|ab (ah (qD _ _ _ _ _ lz lz lz lz lz)) ?_
 refine ab (aR hT rfl rfl rfl (es:=[_,_,_,_,_,_]) rfl)<|aG hT rfl<|ag<|am ?_
 refine bI rfl (.inr rfl) (aP hT rfl rfl rfl rfl (cs:=[_,_,_,_,_,_]) rfl rfl) ?_ bt
 exact .refl _
theorem zR (p q r s:Int) :
  aH Tryz.prog 209 [MA p q r s] (MA p q r s):=by
 refine aM Tryz.func209 rfl rfl rfl rfl ?_
 refine ae hP<|aq ai (aL rfl rfl)<|aq ai (aB hT rfl rfl)<|ag<|ae hP<|aI hT rfl<|av hT rfl<|aI hT rfl<|av hT rfl<|ab (dA hT rfl rfl rfl (es:=[_,_,_,_]) rfl)<|aI hT rfl<|av hT rfl<|aI hT rfl<|av hT rfl<|ab (dA hT rfl rfl rfl (es:=[_,_,_,_]) rfl)<|ab (dA hT rfl rfl rfl (es:=[_,_,_,_,_,_,_,_]) rfl)<|aG hT rfl<|ag<|am ?_
 refine bI rfl (.inr rfl) (aP hT rfl rfl rfl rfl (cs:=[_,_,_,_,_,_,_,_]) rfl rfl) ?_ bt
 exact .refl _
theorem wH (p q r s t u v w:Int) (hp:L 38 p) (hq:L 38 q) (hr:L 38 r) (hs:L 38 s) (ht:L 38 t) (hu:L 38 u) (hv:L 38 v) (hw:L 38 w) :
  aH Tryz.prog 172 [MA p q r s,MA t u v w] (MA (p*t+q*v) (p*u+q*w) (r*t+s*v) (r*u+s*w)):=by
 have ip:LB p 38:=⟨hp⟩
 have iq:LB q 38:=⟨hq⟩
 have ir:LB r 38:=⟨hr⟩
 have is:LB s 38:=⟨hs⟩
 have it:LB t 38:=⟨ht⟩
 have iu:LB u 38:=⟨hu⟩
 have iv:LB v 38:=⟨hv⟩
 have iw:LB w 38:=⟨hw⟩
 refine aM Tryz.func172 rfl rfl rfl rfl ?_
 refine ae hP<|aq ai (aL rfl rfl)<|aq ai (aL rfl rfl)<|aq ai (aB hT rfl rfl)<|ag<|ae hP<|ab (aJ hT rfl rfl rfl rfl (cs:=[_,_,_,_,_,_,_,_]) rfl rfl)<|ab (ah (zR _ _ _ _)) ?_
 refine ab (aJ hT rfl rfl rfl rfl (cs:=[_,_,_,_,_,_,_,_]) rfl rfl)<|ab (ah (zR _ _ _ _)) ?_
 refine aq ai (aB hT rfl rfl)<|aq ai (aB hT rfl rfl)<|aG hT rfl<|aG hT rfl<|ag<|ae hP<|aq ai (aB hT rfl rfl)<|ag<|ao<|ae hP<|ak rfl<|ag<|aC<|ee 3 ?_
 refine ae hP<|ab (bh rfl rfl)<|ag<|ao<|aU rfl (by decide) ?_
 refine au<|ao<|aC<|ae hP<|ak rfl<|aj rfl<|ag<|ae hP<|ak rfl<|ag<|aC<|ee 3 ?_
 refine ae hP<|ab (bh rfl rfl)<|ag<|ao<|aU rfl (by decide) ?_
 refine au<|ao<|aC<|ae hP<|ak rfl<|aj rfl<|ag<|aw hP<|ak rfl<|ak rfl<|ak rfl<|ab (aV hT rfl rfl rfl rfl rfl (by first | decide | omega)) ?_
 refine ab (aV hT rfl rfl rfl rfl rfl (by first | decide | omega)) ?_
 refine av hT rfl<|ak rfl<|ab (aV hT rfl rfl rfl rfl rfl (by first | decide | omega)) ?_
 refine ab (aV hT rfl rfl rfl rfl rfl (by first | decide | omega)) ?_
 refine av hT rfl<|ab (bg hT rfl rfl rfl (es:=[_,_,_,_]) rfl rfl rfl)<|ab (ah (dm _ _ lz lz)) ?_
 refine ak rfl<|ab (aV hT rfl rfl rfl rfl rfl (by first | decide | omega)) ?_
 refine ab (aV hT rfl rfl rfl rfl rfl (by first | decide | omega)) ?_
 refine av hT rfl<|ak rfl<|ab (aV hT rfl rfl rfl rfl rfl (by first | decide | omega)) ?_
 refine ab (aV hT rfl rfl rfl rfl rfl (by first | decide | omega)) ?_
 refine av hT rfl<|ab (bg hT rfl rfl rfl (es:=[_,_,_,_]) rfl rfl rfl)<|ab (ah (dm _ _ lz lz)) ?_
 refine ab (ah (eo _ _ lz lz)) ?_
 refine ab (aV hT rfl rfl rfl rfl rfl (by first | decide | omega)) ?_
 refine ab (aV hT rfl rfl rfl rfl rfl (by first | decide | omega)) ?_
 refine aG hT rfl<|ag<|aw hP<|bA rfl rfl ?_
 refine ak rfl<|ag<|ae hP<|ab (bh rfl rfl)<|ag<|ao<|aU rfl (by decide) ?_
 refine au<|ao<|aC<|ae hP<|ak rfl<|aj rfl<|ag<|aw hP<|ak rfl<|ak rfl<|ak rfl<|ab (aV hT rfl rfl rfl rfl rfl (by first | decide | omega)) ?_
 refine ab (aV hT rfl rfl rfl rfl rfl (by first | decide | omega)) ?_
 refine av hT rfl<|ak rfl<|ab (aV hT rfl rfl rfl rfl rfl (by first | decide | omega)) ?_
 refine ab (aV hT rfl rfl rfl rfl rfl (by first | decide | omega)) ?_
 refine av hT rfl<|ab (bg hT rfl rfl rfl (es:=[_,_,_,_]) rfl rfl rfl)<|ab (ah (dm _ _ lz lz)) ?_
 refine ak rfl<|ab (aV hT rfl rfl rfl rfl rfl (by first | decide | omega)) ?_
 refine ab (aV hT rfl rfl rfl rfl rfl (by first | decide | omega)) ?_
 refine av hT rfl<|ak rfl<|ab (aV hT rfl rfl rfl rfl rfl (by first | decide | omega)) ?_
 refine ab (aV hT rfl rfl rfl rfl rfl (by first | decide | omega)) ?_
 refine av hT rfl<|ab (bg hT rfl rfl rfl (es:=[_,_,_,_]) rfl rfl rfl)<|ab (ah (dm _ _ lz lz)) ?_
 refine ab (ah (eo _ _ lz lz)) ?_
 refine ab (aV hT rfl rfl rfl rfl rfl (by first | decide | omega)) ?_
 refine ab (aV hT rfl rfl rfl rfl rfl (by first | decide | omega)) ?_
 refine aG hT rfl<|ag<|aw hP<|bA rfl rfl ?_
 refine ak rfl<|ag<|ae hP<|ab (bh rfl rfl)<|ag<|ao<|aQ rfl (by decide) ?_
 refine aW<|aw hP<|bA rfl rfl ?_
 refine ak rfl<|ag<|ae hP<|ab (bh rfl rfl)<|ag<|ao<|aU rfl (by decide) ?_
 refine au<|ao<|aC<|ae hP<|ak rfl<|aj rfl<|ag<|ae hP<|ak rfl<|ag<|aC<|ee 3 ?_
 refine ae hP<|ab (bh rfl rfl)<|ag<|ao<|aU rfl (by decide) ?_
 refine au<|ao<|aC<|ae hP<|ak rfl<|aj rfl<|ag<|aw hP<|ak rfl<|ak rfl<|ak rfl<|ab (aV hT rfl rfl rfl rfl rfl (by first | decide | omega)) ?_
 refine ab (aV hT rfl rfl rfl rfl rfl (by first | decide | omega)) ?_
 refine av hT rfl<|ak rfl<|ab (aV hT rfl rfl rfl rfl rfl (by first | decide | omega)) ?_
 refine ab (aV hT rfl rfl rfl rfl rfl (by first | decide | omega)) ?_
 refine av hT rfl<|ab (bg hT rfl rfl rfl (es:=[_,_,_,_]) rfl rfl rfl)<|ab (ah (dm _ _ lz lz)) ?_
 refine ak rfl<|ab (aV hT rfl rfl rfl rfl rfl (by first | decide | omega)) ?_
 refine ab (aV hT rfl rfl rfl rfl rfl (by first | decide | omega)) ?_
 refine av hT rfl<|ak rfl<|ab (aV hT rfl rfl rfl rfl rfl (by first | decide | omega)) ?_
 refine ab (aV hT rfl rfl rfl rfl rfl (by first | decide | omega)) ?_
 refine av hT rfl<|ab (bg hT rfl rfl rfl (es:=[_,_,_,_]) rfl rfl rfl)<|ab (ah (dm _ _ lz lz)) ?_
 refine ab (ah (eo _ _ lz lz)) ?_
 refine ab (aV hT rfl rfl rfl rfl rfl (by first | decide | omega)) ?_
 refine ab (aV hT rfl rfl rfl rfl rfl (by first | decide | omega)) ?_
 refine aG hT rfl<|ag<|aw hP<|bA rfl rfl ?_
 refine ak rfl<|ag<|ae hP<|ab (bh rfl rfl)<|ag<|ao<|aU rfl (by decide) ?_
 refine au<|ao<|aC<|ae hP<|ak rfl<|aj rfl<|ag<|aw hP<|ak rfl<|ak rfl<|ak rfl<|ab (aV hT rfl rfl rfl rfl rfl (by first | decide | omega)) ?_
 refine ab (aV hT rfl rfl rfl rfl rfl (by first | decide | omega)) ?_
 refine av hT rfl<|ak rfl<|ab (aV hT rfl rfl rfl rfl rfl (by first | decide | omega)) ?_
 refine ab (aV hT rfl rfl rfl rfl rfl (by first | decide | omega)) ?_
 refine av hT rfl<|ab (bg hT rfl rfl rfl (es:=[_,_,_,_]) rfl rfl rfl)<|ab (ah (dm _ _ lz lz)) ?_
 refine ak rfl<|ab (aV hT rfl rfl rfl rfl rfl (by first | decide | omega)) ?_
 refine ab (aV hT rfl rfl rfl rfl rfl (by first | decide | omega)) ?_
 refine av hT rfl<|ak rfl<|ab (aV hT rfl rfl rfl rfl rfl (by first | decide | omega)) ?_
 refine ab (aV hT rfl rfl rfl rfl rfl (by first | decide | omega)) ?_
 refine av hT rfl<|ab (bg hT rfl rfl rfl (es:=[_,_,_,_]) rfl rfl rfl)<|ab (ah (dm _ _ lz lz)) ?_
 refine ab (ah (eo _ _ lz lz)) ?_
 refine ab (aV hT rfl rfl rfl rfl rfl (by first | decide | omega)) ?_
 refine ab (aV hT rfl rfl rfl rfl rfl (by first | decide | omega)) ?_
 refine aG hT rfl<|ag<|aw hP<|bA rfl rfl ?_
 refine ak rfl<|ag<|ae hP<|ab (bh rfl rfl)<|ag<|ao<|aQ rfl (by decide) ?_
 refine aW<|aw hP<|bA rfl rfl ?_
 refine ak rfl<|ag<|ae hP<|ab (bh rfl rfl)<|ag<|ao<|aQ rfl (by decide) ?_
 refine aW<|ae hP<|ab (aV hT rfl rfl rfl rfl rfl (by first | decide | omega)) ?_
 refine ab (aV hT rfl rfl rfl rfl rfl (by first | decide | omega)) ?_
 refine av hT rfl<|ab (aV hT rfl rfl rfl rfl rfl (by first | decide | omega)) ?_
 refine ab (aV hT rfl rfl rfl rfl rfl (by first | decide | omega)) ?_
 refine av hT rfl<|ab (aV hT rfl rfl rfl rfl rfl (by first | decide | omega)) ?_
 refine ab (aV hT rfl rfl rfl rfl rfl (by first | decide | omega)) ?_
 refine av hT rfl<|ab (aV hT rfl rfl rfl rfl rfl (by first | decide | omega)) ?_
 refine ab (aV hT rfl rfl rfl rfl rfl (by first | decide | omega)) ?_
 refine av hT rfl<|ab (aR hT rfl rfl rfl (es:=[_,_,_,_,_,_,_,_]) rfl)<|aG hT rfl<|ag<|am ?_
 refine bI rfl (.inr rfl) (aP hT rfl rfl rfl rfl (cs:=[_,_,_,_,_,_,_,_]) rfl rfl) ?_ bt
 exact .refl _
theorem rJ (a b c:Int) (ha:L 34 a) (hb:L 34 b) (hc:L 34 c) :
  aH Tryz.prog 112 [FA a b c] (B (rdd a b c)):=by
 have ia:LB a 34:=⟨ha⟩
 have ib:LB b 34:=⟨hb⟩
 have ic:LB c 34:=⟨hc⟩
 refine aM Tryz.func112 rfl rfl rfl rfl ?_
 refine ae hP<|aq ai (aL rfl rfl)<|aj rfl<|ag<|ao<|ae hP<|br hT rfl rfl rfl rfl rfl rfl<|ab (ah (nP _ _ _ lz lz lz)) ?_
 refine ab (bq rfl rfl)<|ak rfl ?_
 refine aY (t:=8) rfl (fun hg1=>?_) (fun hg1=>?_)
 ·have hg1_:=b8 hg1
  iterate 4 refine aZ hg1 ?_
  refine ab (aO rfl hg1 (rfl:_=AV.p (.c _)))<|ag<|aU rfl rfl<|ae hP<|aj rfl<|ag<|am<|E1 rfl rfl ?_
  exact bd (L9 hg1_)
 have hg1_:=bU hg1
 refine aA hg1 (aJ hT rfl rfl rfl rfl (cs:=[_,_,_,_,_,_]) rfl rfl) ?_
 refine aA hg1 (ah (gh _ _ _ lz lz lz)) ?_
 refine aA hg1 (ah (dy _)) ?_
 refine aA hg1 (bJ rfl rfl) ?_
 refine ab (aN rfl hg1 (rfl:_=AV.p (.c _)))<|ag ?_
 refine ay rfl (fun hb2=>?_) (fun hb2=>?_)
 ·have hb2_:=dT0 hb2
  refine ae hP<|aj rfl<|ag<|am<|E1 rfl rfl ?_
  exact bd (L7 hb2_)
 have hb2_:=dF0 hb2
 refine au<|ae hP<|aI hT rfl<|av hT rfl<|ab (ah (nX _)) ?_
 refine aI hT rfl<|av hT rfl<|ab (ah (dO _ _)) ?_
 refine aI hT rfl<|av hT rfl<|aI hT rfl<|av hT rfl<|ab (ah (dO _ _)) ?_
 refine aj rfl<|aj rfl<|ag<|ae hP<|ak rfl<|ab (ej rfl rfl)<|ak rfl ?_
 refine aY (t:=27) rfl (fun hg3=>?_) (fun hg3=>?_)
 ·have hg3_:=dT0 hg3
  refine aA hg3 (az (rfl:_=AV.p (.c _))) ?_
  refine aA hg3 (ej rfl rfl) ?_
  refine ab (aO rfl hg3 (rfl:_=AV.p (.c _)))<|ak rfl ?_
  refine aY (t:=31) rfl (fun hg4=>?_) (fun hg4=>?_)
  ·have hg4_:=dT0 hg4
   refine aA hg4 (az (rfl:_=AV.p (.c _))) ?_
   refine aA hg4 (bh rfl rfl) ?_
   refine aA hg4 (az (rfl:_=AV.p (.c _))) ?_
   refine aY (t:=34) rfl (fun hg5=>?_) (fun hg5=>?_)
   ·have hg5_:=dT0 hg5
    refine aA hg5 (az (rfl:_=AV.p (.c _))) ?_
    refine aA hg5 (bh rfl rfl) ?_
    refine aA hg4 (aO rfl hg5 (rfl:_=AV.p (.c _))) ?_
    refine aA hg4 (az (rfl:_=AV.p (.c _))) ?_
    refine aY (t:=38) rfl (fun hg6=>?_) (fun hg6=>?_)
    ·have hg6_:=dT0 hg6
     iterate 4 refine aZ hg6 ?_
     refine aA hg4 (aO rfl hg6 (rfl:_=AV.p (.c _))) ?_
     refine ab (aO rfl hg4 (rfl:_=AV.p (.c _)))<|aj rfl<|ag<|am<|E1 rfl rfl ?_
     exact bd (L6 hg1_ hb2_ hg5_ hg6_)
    have hg6_:=dF0 hg6
    refine aA hg6 (aT hT rfl rfl rfl rfl rfl rfl) ?_
    refine aA hg6 (aJ hT rfl rfl rfl rfl (cs:=[_,_]) rfl rfl) ?_
    refine aA hg6 (ah (dy _)) ?_
    refine aA hg6 (dp rfl rfl) ?_
    refine aA hg4 (aN rfl hg6 (rfl:_=AV.p (.c _))) ?_
    refine ab (aO rfl hg4 (rfl:_=AV.p (.c _)))<|aj rfl<|ag<|am<|E1 rfl rfl ?_
    exact bd (Ep hg1_ hb2_ hg3_ hg4_ (fun h=>hg6_ h.2))
   have hg5_:=dF0 hg5
   refine aZ hg5 ?_
   refine aZ hg5 ?_
   refine aA hg4 (aN rfl hg5 (rfl:_=AV.p (.c _))) ?_
   refine aA hg4 (az (rfl:_=AV.p (.c _))) ?_
   refine aA rfl (aT hT rfl rfl rfl rfl rfl rfl) ?_
   refine aA rfl (aJ hT rfl rfl rfl rfl (cs:=[_,_]) rfl rfl) ?_
   refine aA rfl (ah (dy _)) ?_
   refine aA rfl (dp rfl rfl) ?_
   refine aA hg4 (aN rfl rfl (rfl:_=AV.p (.c _))) ?_
   refine ab (aO rfl hg4 (rfl:_=AV.p (.c _)))<|aj rfl<|ag<|am<|E1 rfl rfl ?_
   exact bd (Ep hg1_ hb2_ hg3_ hg4_ (fun h=>hg5_ h.1))
  have hg4_:=dF0 hg4
  iterate 3 refine aZ hg4 ?_
  refine ff ?_
  refine ff ?_
  refine aZ hg4 ?_
  refine aZ hg4 ?_
  iterate 4 refine ff ?_
  refine aZ hg4 ?_
  refine ab (aN rfl hg4 (rfl:_=AV.p (.c _)))<|aj rfl<|ag<|am<|E1 rfl rfl ?_
  exact bd (L5 hg4_)
 have hg3_:=dF0 hg3
 refine aZ hg3 ?_
 refine aZ hg3 ?_
 refine ab (aN rfl hg3 (rfl:_=AV.p (.c _)))<|ak rfl<|aZ rfl ?_
 refine aZ rfl ?_
 refine aZ rfl ?_
 refine ff ?_
 refine ff ?_
 refine aZ rfl ?_
 refine aZ rfl ?_
 iterate 4 refine ff ?_
 refine aZ rfl ?_
 refine ab (aN rfl rfl (rfl:_=AV.p (.c _)))<|aj rfl<|ag<|am<|E1 rfl rfl ?_
 exact bd (L4 hg3_)
end
end Go.Proofs.YthaiejfjnllglaaGreatDoor

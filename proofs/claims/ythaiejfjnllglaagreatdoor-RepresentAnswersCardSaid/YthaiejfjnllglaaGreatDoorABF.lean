import Derived.Test.YthaiejfjnllglaaGreatDoorABA
import Derived.Test.YthaiejfjnllglaaGreatDoorABB
import Derived.Test.YthaiejfjnllglaaGreatDoorProg
import Derived.KernelRfl
set_option maxRecDepth 100000
set_option maxHeartbeats 2000000
namespace Go.Proofs.YthaiejfjnllglaaGreatDoor
section
open Go Go.AM
def ty2:TyI:=⟨.int .i64,1,8,[.v (.int .i64 0)]⟩
theorem Iz:TyOK Tryz.prog 2 ty2:=TyOK.mk' (z:=.int .i64 0) (by kernel_rfl) Tryz.underlying2 rfl rfl ⟨z_v _ rfl,trivial⟩
def ty3:TyI:=⟨.int .i64,1,8,[.v (.int .i64 0)]⟩
theorem It:TyOK Tryz.prog 3 ty3:=TyOK.mk' (z:=.int .i64 0) (by kernel_rfl) Tryz.underlying3 rfl rfl ⟨z_v _ rfl,trivial⟩
def ty4:TyI:=⟨.bool,1,1,[.v (.bool false)]⟩
theorem Il:TyOK Tryz.prog 4 ty4:=TyOK.mk' (z:=.bool false) (by kernel_rfl) Tryz.underlying4 trivial rfl ⟨z_v _ rfl,trivial⟩
def ty5:TyI:=⟨.int .u8,1,1,[.v (.int .u8 0)]⟩
theorem Ie:TyOK Tryz.prog 5 ty5:=TyOK.mk' (z:=.int .u8 0) (by kernel_rfl) Tryz.underlying5 rfl rfl ⟨z_v _ rfl,trivial⟩
def ty9:TyI:=⟨.str,1,16,[.v (.string ⟨#[]⟩)]⟩
theorem H1:TyOK Tryz.prog 9 ty9:=TyOK.mk' (z:=.string ⟨#[]⟩) (by kernel_rfl) Tryz.underlying9 trivial rfl ⟨z_v _ rfl,trivial⟩
def IL:TyI:=⟨.int .u64,1,8,[.v (.int .u64 0)]⟩
theorem Fv:TyOK Tryz.prog 12 IL:=TyOK.mk' (z:=.int .u64 0) (by kernel_rfl) Tryz.underlying12 rfl rfl ⟨z_v _ rfl,trivial⟩
def IK:TyI:=⟨.int .i32,1,4,[.v (.int .i32 0)]⟩
theorem Fu:TyOK Tryz.prog 21 IK:=TyOK.mk' (z:=.int .i32 0) (by kernel_rfl) Tryz.underlying21 rfl rfl ⟨z_v _ rfl,trivial⟩
def IJ:TyI:=⟨.int .u16,1,2,[.v (.int .u16 0)]⟩
theorem Ft:TyOK Tryz.prog 22 IJ:=TyOK.mk' (z:=.int .u16 0) (by kernel_rfl) Tryz.underlying22 rfl rfl ⟨z_v _ rfl,trivial⟩
def II:TyI:=⟨.ar 4 22,4,8,[.v (.int .u16 0),.v (.int .u16 0),.v (.int .u16 0),.v (.int .u16 0)]⟩
theorem Fs:TyOK Tryz.prog 23 II:=TyOK.mk' (z:=.agg #[.int .u16 0,.int .u16 0,.int .u16 0,.int .u16 0]) (by kernel_rfl) Tryz.underlying23 ⟨rfl,rfl⟩ rfl ⟨z_v _ rfl,z_v _ rfl,z_v _ rfl,z_v _ rfl,trivial⟩
def IH:TyI:=⟨.ar 4 5,4,4,[.v (.int .u8 0),.v (.int .u8 0),.v (.int .u8 0),.v (.int .u8 0)]⟩
theorem Fq:TyOK Tryz.prog 24 IH:=TyOK.mk' (z:=.agg #[.int .u8 0,.int .u8 0,.int .u8 0,.int .u8 0]) (by kernel_rfl) Tryz.underlying24 ⟨rfl,rfl⟩ rfl ⟨z_v _ rfl,z_v _ rfl,z_v _ rfl,z_v _ rfl,trivial⟩
def IG:TyI:=⟨.st [(0,22),(1,23),(5,24)],9,14,[.v (.int .u16 0),.v (.int .u16 0),.v (.int .u16 0),.v (.int .u16 0),.v (.int .u16 0),.v (.int .u8 0),.v (.int .u8 0),.v (.int .u8 0),.v (.int .u8 0)]⟩
theorem Fp:TyOK Tryz.prog 25 IG:=TyOK.mk' (z:=.agg #[.int .u16 0,.int .u16 0,.int .u16 0,.int .u16 0,.int .u16 0,.int .u8 0,.int .u8 0,.int .u8 0,.int .u8 0]) (by kernel_rfl) Tryz.underlying25 rfl rfl ⟨z_v _ rfl,z_v _ rfl,z_v _ rfl,z_v _ rfl,z_v _ rfl,z_v _ rfl,z_v _ rfl,z_v _ rfl,z_v _ rfl,trivial⟩
def IF:TyI:=⟨.st [(0,22),(1,23),(5,24)],9,14,[.v (.int .u16 0),.v (.int .u16 0),.v (.int .u16 0),.v (.int .u16 0),.v (.int .u16 0),.v (.int .u8 0),.v (.int .u8 0),.v (.int .u8 0),.v (.int .u8 0)]⟩
theorem Fk:TyOK Tryz.prog 26 IF:=TyOK.mk' (z:=.agg #[.int .u16 0,.int .u16 0,.int .u16 0,.int .u16 0,.int .u16 0,.int .u8 0,.int .u8 0,.int .u8 0,.int .u8 0]) (by kernel_rfl) Tryz.underlying26 rfl rfl ⟨z_v _ rfl,z_v _ rfl,z_v _ rfl,z_v _ rfl,z_v _ rfl,z_v _ rfl,z_v _ rfl,z_v _ rfl,z_v _ rfl,trivial⟩
def IE:TyI:=⟨.sl 105,1,24,[.sl 0 []]⟩
theorem Fj:TyOK Tryz.prog 27 IE:=TyOK.mk' (z:=.slice none 0 0) (by kernel_rfl) Tryz.underlying27 rfl rfl ⟨cf,trivial⟩
def ID:TyI:=⟨.st [(0,4),(1,27)],2,32,[.v (.bool false),.sl 0 []]⟩
theorem Fi:TyOK Tryz.prog 28 ID:=TyOK.mk' (z:=.agg #[.bool false,.slice none 0 0]) (by kernel_rfl) Tryz.underlying28 rfl rfl ⟨z_v _ rfl,cf,trivial⟩
def IA:TyI:=⟨.st [(0,4),(1,27)],2,32,[zn 0,zm 0]⟩
theorem Fh:TyOK Tryz.prog 29 IA:=TyOK.mk' (z:=.agg #[.bool false,.slice none 0 0]) (by kernel_rfl) Tryz.underlying29 rfl rfl ⟨b8,b9,trivial⟩
def Iy:TyI:=⟨.sl 46,1,24,[.sl 0 []]⟩
theorem Fg:TyOK Tryz.prog 32 Iy:=TyOK.mk' (z:=.slice none 0 0) (by kernel_rfl) Tryz.underlying32 rfl rfl ⟨cf,trivial⟩
def Iw:TyI:=⟨.int .i64,1,8,[.v (.int .i64 0)]⟩
theorem Ff:TyOK Tryz.prog 33 Iw:=TyOK.mk' (z:=.int .i64 0) (by kernel_rfl) Tryz.underlying33 rfl rfl ⟨z_v _ rfl,trivial⟩
def Iu:TyI:=⟨.sl 29,1,24,[.sl 0 []]⟩
theorem Fe:TyOK Tryz.prog 36 Iu:=TyOK.mk' (z:=.slice none 0 0) (by kernel_rfl) Tryz.underlying36 rfl rfl ⟨cf,trivial⟩
def Is:TyI:=⟨.st [(0,3),(1,29),(3,29),(5,29),(7,36),(8,32)],9,152,[.v (.int .i64 0),zn 0,zm 0,zn 0,zm 0,zn 0,zm 0,.sl 0 [],.sl 0 []]⟩
theorem Fc:TyOK Tryz.prog 41 Is:=TyOK.mk' (z:=.agg #[.int .i64 0,.bool false,.slice none 0 0,.bool false,.slice none 0 0,.bool false,.slice none 0 0,.slice none 0 0,.slice none 0 0]) (by kernel_rfl) Tryz.underlying41 rfl rfl ⟨z_v _ rfl,b8,b9,b8,b9,b8,b9,cf,cf,trivial⟩
def Ir:TyI:=⟨.st [(0,3),(1,29),(3,29),(5,29),(7,36),(8,32)],9,152,[.v (.int .i64 0),zn 0,zm 0,zn 0,zm 0,zn 0,zm 0,.sl 0 [],.sl 0 []]⟩
theorem Fb:TyOK Tryz.prog 42 Ir:=TyOK.mk' (z:=.agg #[.int .i64 0,.bool false,.slice none 0 0,.bool false,.slice none 0 0,.bool false,.slice none 0 0,.slice none 0 0,.slice none 0 0]) (by kernel_rfl) Tryz.underlying42 rfl rfl ⟨z_v _ rfl,b8,b9,b8,b9,b8,b9,cf,cf,trivial⟩
def Iq:TyI:=⟨.st [(0,29),(2,29),(4,29)],6,96,[zn 0,zm 0,zn 0,zm 0,zn 0,zm 0]⟩
theorem Fa:TyOK Tryz.prog 45 Iq:=TyOK.mk' (z:=.agg #[.bool false,.slice none 0 0,.bool false,.slice none 0 0,.bool false,.slice none 0 0]) (by kernel_rfl) Tryz.underlying45 rfl rfl ⟨b8,b9,b8,b9,b8,b9,trivial⟩
def Ip:TyI:=⟨.st [(0,29),(2,29),(4,29)],6,96,[zn 0,zm 0,zn 0,zm 0,zn 0,zm 0]⟩
theorem E9:TyOK Tryz.prog 46 Ip:=TyOK.mk' (z:=.agg #[.bool false,.slice none 0 0,.bool false,.slice none 0 0,.bool false,.slice none 0 0]) (by kernel_rfl) Tryz.underlying46 rfl rfl ⟨b8,b9,b8,b9,b8,b9,trivial⟩
def Im:TyI:=⟨.sl 3,1,24,[.sl 0 []]⟩
theorem E8:TyOK Tryz.prog 48 Im:=TyOK.mk' (z:=.slice none 0 0) (by kernel_rfl) Tryz.underlying48 rfl rfl ⟨cf,trivial⟩
def Ik:TyI:=⟨.st [(0,4),(1,27)],2,32,[.v (.bool false),.sl 0 []]⟩
theorem E7:TyOK Tryz.prog 53 Ik:=TyOK.mk' (z:=.agg #[.bool false,.slice none 0 0]) (by kernel_rfl) Tryz.underlying53 rfl rfl ⟨z_v _ rfl,cf,trivial⟩
def Ij:TyI:=⟨.st [(0,4),(1,27)],2,32,[.v (.bool false),.sl 0 []]⟩
theorem E6:TyOK Tryz.prog 54 Ij:=TyOK.mk' (z:=.agg #[.bool false,.slice none 0 0]) (by kernel_rfl) Tryz.underlying54 rfl rfl ⟨z_v _ rfl,cf,trivial⟩
def Ii:TyI:=⟨.ar 3 54,6,96,[.v (.bool false),.sl 0 [],.v (.bool false),.sl 0 [],.v (.bool false),.sl 0 []]⟩
theorem E5:TyOK Tryz.prog 55 Ii:=TyOK.mk' (z:=.agg #[.bool false,.slice none 0 0,.bool false,.slice none 0 0,.bool false,.slice none 0 0]) (by kernel_rfl) Tryz.underlying55 ⟨rfl,rfl⟩ rfl ⟨z_v _ rfl,cf,z_v _ rfl,cf,z_v _ rfl,cf,trivial⟩
def Ih:TyI:=⟨.ar 4 54,8,128,[.v (.bool false),.sl 0 [],.v (.bool false),.sl 0 [],.v (.bool false),.sl 0 [],.v (.bool false),.sl 0 []]⟩
theorem E0:TyOK Tryz.prog 56 Ih:=TyOK.mk' (z:=.agg #[.bool false,.slice none 0 0,.bool false,.slice none 0 0,.bool false,.slice none 0 0,.bool false,.slice none 0 0]) (by kernel_rfl) Tryz.underlying56 ⟨rfl,rfl⟩ rfl ⟨z_v _ rfl,cf,z_v _ rfl,cf,z_v _ rfl,cf,z_v _ rfl,cf,trivial⟩
def Ig:TyI:=⟨.st [(0,55),(6,56)],14,224,[.v (.bool false),.sl 0 [],.v (.bool false),.sl 0 [],.v (.bool false),.sl 0 [],.v (.bool false),.sl 0 [],.v (.bool false),.sl 0 [],.v (.bool false),.sl 0 [],.v (.bool false),.sl 0 []]⟩
theorem EZ:TyOK Tryz.prog 57 Ig:=TyOK.mk' (z:=.agg #[.bool false,.slice none 0 0,.bool false,.slice none 0 0,.bool false,.slice none 0 0,.bool false,.slice none 0 0,.bool false,.slice none 0 0,.bool false,.slice none 0 0,.bool false,.slice none 0 0]) (by kernel_rfl) Tryz.underlying57 rfl rfl ⟨z_v _ rfl,cf,z_v _ rfl,cf,z_v _ rfl,cf,z_v _ rfl,cf,z_v _ rfl,cf,z_v _ rfl,cf,z_v _ rfl,cf,trivial⟩
def If:TyI:=⟨.st [(0,55),(6,56)],14,224,[.v (.bool false),.sl 0 [],.v (.bool false),.sl 0 [],.v (.bool false),.sl 0 [],.v (.bool false),.sl 0 [],.v (.bool false),.sl 0 [],.v (.bool false),.sl 0 [],.v (.bool false),.sl 0 []]⟩
theorem EY:TyOK Tryz.prog 58 If:=TyOK.mk' (z:=.agg #[.bool false,.slice none 0 0,.bool false,.slice none 0 0,.bool false,.slice none 0 0,.bool false,.slice none 0 0,.bool false,.slice none 0 0,.bool false,.slice none 0 0,.bool false,.slice none 0 0]) (by kernel_rfl) Tryz.underlying58 rfl rfl ⟨z_v _ rfl,cf,z_v _ rfl,cf,z_v _ rfl,cf,z_v _ rfl,cf,z_v _ rfl,cf,z_v _ rfl,cf,z_v _ rfl,cf,trivial⟩
def Ic:TyI:=⟨.st [(0,36),(1,33)],2,32,[.sl 0 [],.v (.int .i64 0)]⟩
theorem EX:TyOK Tryz.prog 62 Ic:=TyOK.mk' (z:=.agg #[.slice none 0 0,.int .i64 0]) (by kernel_rfl) Tryz.underlying62 rfl rfl ⟨cf,z_v _ rfl,trivial⟩
def Ib:TyI:=⟨.st [(0,36),(1,33)],2,32,[.sl 0 [],.v (.int .i64 0)]⟩
theorem EW:TyOK Tryz.prog 63 Ib:=TyOK.mk' (z:=.agg #[.slice none 0 0,.int .i64 0]) (by kernel_rfl) Tryz.underlying63 rfl rfl ⟨cf,z_v _ rfl,trivial⟩
def Ia:TyI:=⟨.sl 93,1,24,[.sl 0 []]⟩
theorem EV:TyOK Tryz.prog 65 Ia:=TyOK.mk' (z:=.slice none 0 0) (by kernel_rfl) Tryz.underlying65 rfl rfl ⟨cf,trivial⟩
def H9:TyI:=⟨.st [(0,42),(9,33)],10,160,[.v (.int .i64 0),zn 0,zm 0,zn 0,zm 0,zn 0,zm 0,.sl 0 [],.sl 0 [],.v (.int .i64 0)]⟩
theorem EU:TyOK Tryz.prog 71 H9:=TyOK.mk' (z:=.agg #[.int .i64 0,.bool false,.slice none 0 0,.bool false,.slice none 0 0,.bool false,.slice none 0 0,.slice none 0 0,.slice none 0 0,.int .i64 0]) (by kernel_rfl) Tryz.underlying71 rfl rfl ⟨z_v _ rfl,b8,b9,b8,b9,b8,b9,cf,cf,z_v _ rfl,trivial⟩
def H8:TyI:=⟨.st [(0,42),(9,33)],10,160,[.v (.int .i64 0),zn 0,zm 0,zn 0,zm 0,zn 0,zm 0,.sl 0 [],.sl 0 [],.v (.int .i64 0)]⟩
theorem ET:TyOK Tryz.prog 72 H8:=TyOK.mk' (z:=.agg #[.int .i64 0,.bool false,.slice none 0 0,.bool false,.slice none 0 0,.bool false,.slice none 0 0,.slice none 0 0,.slice none 0 0,.int .i64 0]) (by kernel_rfl) Tryz.underlying72 rfl rfl ⟨z_v _ rfl,b8,b9,b8,b9,b8,b9,cf,cf,z_v _ rfl,trivial⟩
def H7:TyI:=⟨.st [(0,42),(9,33)],10,160,[.v (.int .i64 0),zn 0,zm 0,zn 0,zm 0,zn 0,zm 0,.sl 0 [],.sl 0 [],.v (.int .i64 0)]⟩
theorem ES:TyOK Tryz.prog 74 H7:=TyOK.mk' (z:=.agg #[.int .i64 0,.bool false,.slice none 0 0,.bool false,.slice none 0 0,.bool false,.slice none 0 0,.slice none 0 0,.slice none 0 0,.int .i64 0]) (by kernel_rfl) Tryz.underlying74 rfl rfl ⟨z_v _ rfl,b8,b9,b8,b9,b8,b9,cf,cf,z_v _ rfl,trivial⟩
def H6:TyI:=⟨.sl 42,1,24,[.sl 0 []]⟩
theorem ER:TyOK Tryz.prog 84 H6:=TyOK.mk' (z:=.slice none 0 0) (by kernel_rfl) Tryz.underlying84 rfl rfl ⟨cf,trivial⟩
def H5:TyI:=⟨.st [(0,29),(2,29),(4,29),(6,29)],8,128,[zn 0,zm 0,zn 0,zm 0,zn 0,zm 0,zn 0,zm 0]⟩
theorem EQ:TyOK Tryz.prog 86 H5:=TyOK.mk' (z:=.agg #[.bool false,.slice none 0 0,.bool false,.slice none 0 0,.bool false,.slice none 0 0,.bool false,.slice none 0 0]) (by kernel_rfl) Tryz.underlying86 rfl rfl ⟨b8,b9,b8,b9,b8,b9,b8,b9,trivial⟩
def H4:TyI:=⟨.st [(0,29),(2,29),(4,29),(6,29)],8,128,[zn 0,zm 0,zn 0,zm 0,zn 0,zm 0,zn 0,zm 0]⟩
theorem EP:TyOK Tryz.prog 87 H4:=TyOK.mk' (z:=.agg #[.bool false,.slice none 0 0,.bool false,.slice none 0 0,.bool false,.slice none 0 0,.bool false,.slice none 0 0]) (by kernel_rfl) Tryz.underlying87 rfl rfl ⟨b8,b9,b8,b9,b8,b9,b8,b9,trivial⟩
def A5:TyI:=⟨.ar 2 29,4,64,[zn 0,zm 0,zn 0,zm 0]⟩
theorem EO:TyOK Tryz.prog 93 A5:=TyOK.mk' (z:=.agg #[.bool false,.slice none 0 0,.bool false,.slice none 0 0]) (by kernel_rfl) Tryz.underlying93 ⟨rfl,rfl⟩ rfl ⟨b8,b9,b8,b9,trivial⟩
def H3:TyI:=⟨.ar 2 5,2,2,[.v (.int .u8 0),.v (.int .u8 0)]⟩
theorem EN:TyOK Tryz.prog 96 H3:=TyOK.mk' (z:=.agg #[.int .u8 0,.int .u8 0]) (by kernel_rfl) Tryz.underlying96 ⟨rfl,rfl⟩ rfl ⟨z_v _ rfl,z_v _ rfl,trivial⟩
def DN:TyI:=⟨.int .u64,1,8,[.v (.int .u64 0)]⟩
theorem Bz:TyOK Tryz.prog 103 DN:=TyOK.mk' (z:=.int .u64 0) (by kernel_rfl) Tryz.underlying103 rfl rfl ⟨z_v _ rfl,trivial⟩
def DM:TyI:=⟨.int .u32,1,4,[.v (.int .u32 0)]⟩
theorem By:TyOK Tryz.prog 105 DM:=TyOK.mk' (z:=.int .u32 0) (by kernel_rfl) Tryz.underlying105 rfl rfl ⟨z_v _ rfl,trivial⟩
def DL:TyI:=⟨.int .u64,1,8,[.v (.int .u64 0)]⟩
theorem Bx:TyOK Tryz.prog 106 DL:=TyOK.mk' (z:=.int .u64 0) (by kernel_rfl) Tryz.underlying106 rfl rfl ⟨z_v _ rfl,trivial⟩
def DJ:TyI:=⟨.sl 105,1,24,[.sl 0 []]⟩
theorem Bv:TyOK Tryz.prog 114 DJ:=TyOK.mk' (z:=.slice none 0 0) (by kernel_rfl) Tryz.underlying114 rfl rfl ⟨cf,trivial⟩
def DI:TyI:=⟨.sl 142,1,24,[.sl 0 []]⟩
theorem Bu:TyOK Tryz.prog 138 DI:=TyOK.mk' (z:=.slice none 0 0) (by kernel_rfl) Tryz.underlying138 rfl rfl ⟨cf,trivial⟩
def DG:TyI:=⟨.st [(0,3),(1,140)],2,16,[.v (.int .i64 0),.v (.nilFunc)]⟩
theorem Bs:TyOK Tryz.prog 141 DG:=TyOK.mk' (z:=.agg #[.int .i64 0,.nilFunc]) (by kernel_rfl) Tryz.underlying141 rfl rfl ⟨z_v _ rfl,z_v _ rfl,trivial⟩
def DF:TyI:=⟨.st [(0,3),(1,140)],2,16,[.v (.int .i64 0),.v (.nilFunc)]⟩
theorem Br:TyOK Tryz.prog 142 DF:=TyOK.mk' (z:=.agg #[.int .i64 0,.nilFunc]) (by kernel_rfl) Tryz.underlying142 rfl rfl ⟨z_v _ rfl,z_v _ rfl,trivial⟩
def DE:TyI:=⟨.pt 163,1,8,[.v (.pointer none)]⟩
theorem Bq:TyOK Tryz.prog 161 DE:=TyOK.mk' (z:=.pointer none) (by kernel_rfl) Tryz.underlying161 rfl rfl ⟨z_v _ rfl,trivial⟩
def DD:TyI:=⟨.st [(0,46),(6,87)],14,224,[zn 0,zm 0,zn 0,zm 0,zn 0,zm 0,zn 0,zm 0,zn 0,zm 0,zn 0,zm 0,zn 0,zm 0]⟩
theorem Bp:TyOK Tryz.prog 162 DD:=TyOK.mk' (z:=.agg #[.bool false,.slice none 0 0,.bool false,.slice none 0 0,.bool false,.slice none 0 0,.bool false,.slice none 0 0,.bool false,.slice none 0 0,.bool false,.slice none 0 0,.bool false,.slice none 0 0]) (by kernel_rfl) Tryz.underlying162 rfl rfl ⟨b8,b9,b8,b9,b8,b9,b8,b9,b8,b9,b8,b9,b8,b9,trivial⟩
def DC:TyI:=⟨.st [(0,46),(6,87)],14,224,[zn 0,zm 0,zn 0,zm 0,zn 0,zm 0,zn 0,zm 0,zn 0,zm 0,zn 0,zm 0,zn 0,zm 0]⟩
theorem Bo:TyOK Tryz.prog 163 DC:=TyOK.mk' (z:=.agg #[.bool false,.slice none 0 0,.bool false,.slice none 0 0,.bool false,.slice none 0 0,.bool false,.slice none 0 0,.bool false,.slice none 0 0,.bool false,.slice none 0 0,.bool false,.slice none 0 0]) (by kernel_rfl) Tryz.underlying163 rfl rfl ⟨b8,b9,b8,b9,b8,b9,b8,b9,b8,b9,b8,b9,b8,b9,trivial⟩
def DB:TyI:=⟨.st [(0,2),(1,2),(2,2)],3,24,[.v (.int .i64 0),.v (.int .i64 0),.v (.int .i64 0)]⟩
theorem Bn:TyOK Tryz.prog 175 DB:=TyOK.mk' (z:=.agg #[.int .i64 0,.int .i64 0,.int .i64 0]) (by kernel_rfl) Tryz.underlying175 rfl rfl ⟨z_v _ rfl,z_v _ rfl,z_v _ rfl,trivial⟩
def DA:TyI:=⟨.st [(0,2),(1,2),(2,2)],3,24,[.v (.int .i64 0),.v (.int .i64 0),.v (.int .i64 0)]⟩
theorem Bm:TyOK Tryz.prog 176 DA:=TyOK.mk' (z:=.agg #[.int .i64 0,.int .i64 0,.int .i64 0]) (by kernel_rfl) Tryz.underlying176 rfl rfl ⟨z_v _ rfl,z_v _ rfl,z_v _ rfl,trivial⟩
def Dx:TyI:=⟨.sl 192,1,24,[.sl 0 []]⟩
theorem Bj:TyOK Tryz.prog 190 Dx:=TyOK.mk' (z:=.slice none 0 0) (by kernel_rfl) Tryz.underlying190 rfl rfl ⟨cf,trivial⟩
def Dw:TyI:=⟨.ar 2 3,2,16,[.v (.int .i64 0),.v (.int .i64 0)]⟩
theorem Bi:TyOK Tryz.prog 192 Dw:=TyOK.mk' (z:=.agg #[.int .i64 0,.int .i64 0]) (by kernel_rfl) Tryz.underlying192 ⟨rfl,rfl⟩ rfl ⟨z_v _ rfl,z_v _ rfl,trivial⟩
def Du:TyI:=⟨.ar 3 29,6,96,[zn 0,zm 0,zn 0,zm 0,zn 0,zm 0]⟩
theorem Bh:TyOK Tryz.prog 206 Du:=TyOK.mk' (z:=.agg #[.bool false,.slice none 0 0,.bool false,.slice none 0 0,.bool false,.slice none 0 0]) (by kernel_rfl) Tryz.underlying206 ⟨rfl,rfl⟩ rfl ⟨b8,b9,b8,b9,b8,b9,trivial⟩
def Dt:TyI:=⟨.sl 2,1,24,[.sl 0 []]⟩
theorem Bg:TyOK Tryz.prog 219 Dt:=TyOK.mk' (z:=.slice none 0 0) (by kernel_rfl) Tryz.underlying219 rfl rfl ⟨cf,trivial⟩
def Ds:TyI:=⟨.ar 2 93,8,128,[zn 0,zm 0,zn 0,zm 0,zn 0,zm 0,zn 0,zm 0]⟩
theorem Bf:TyOK Tryz.prog 233 Ds:=TyOK.mk' (z:=.agg #[.bool false,.slice none 0 0,.bool false,.slice none 0 0,.bool false,.slice none 0 0,.bool false,.slice none 0 0]) (by kernel_rfl) Tryz.underlying233 ⟨rfl,rfl⟩ rfl ⟨b8,b9,b8,b9,b8,b9,b8,b9,trivial⟩
def Dr:TyI:=⟨.st [(0,27),(1,27)],2,48,[.sl 0 [],.sl 0 []]⟩
theorem Be:TyOK Tryz.prog 235 Dr:=TyOK.mk' (z:=.agg #[.slice none 0 0,.slice none 0 0]) (by kernel_rfl) Tryz.underlying235 rfl rfl ⟨cf,cf,trivial⟩
def Dq:TyI:=⟨.st [(0,27),(1,27)],2,48,[.sl 0 [],.sl 0 []]⟩
theorem Bd:TyOK Tryz.prog 236 Dq:=TyOK.mk' (z:=.agg #[.slice none 0 0,.slice none 0 0]) (by kernel_rfl) Tryz.underlying236 rfl rfl ⟨cf,cf,trivial⟩
def Dp:TyI:=⟨.ar 8 3,8,64,[.v (.int .i64 0),.v (.int .i64 0),.v (.int .i64 0),.v (.int .i64 0),.v (.int .i64 0),.v (.int .i64 0),.v (.int .i64 0),.v (.int .i64 0)]⟩
theorem Bc:TyOK Tryz.prog 244 Dp:=TyOK.mk' (z:=.agg #[.int .i64 0,.int .i64 0,.int .i64 0,.int .i64 0,.int .i64 0,.int .i64 0,.int .i64 0,.int .i64 0]) (by kernel_rfl) Tryz.underlying244 ⟨rfl,rfl⟩ rfl ⟨z_v _ rfl,z_v _ rfl,z_v _ rfl,z_v _ rfl,z_v _ rfl,z_v _ rfl,z_v _ rfl,z_v _ rfl,trivial⟩
def Do:TyI:=⟨.int .i64,1,8,[.v (.int .i64 0)]⟩
theorem Bb:TyOK Tryz.prog 249 Do:=TyOK.mk' (z:=.int .i64 0) (by kernel_rfl) Tryz.underlying249 rfl rfl ⟨z_v _ rfl,trivial⟩
def Dn:TyI:=⟨.int .u64,1,8,[.v (.int .u64 0)]⟩
theorem Ba:TyOK Tryz.prog 262 Dn:=TyOK.mk' (z:=.int .u64 0) (by kernel_rfl) Tryz.underlying262 rfl rfl ⟨z_v _ rfl,trivial⟩
def Dm:TyI:=⟨.pt 3,1,8,[.v (.pointer none)]⟩
theorem A9:TyOK Tryz.prog 266 Dm:=TyOK.mk' (z:=.pointer none) (by kernel_rfl) Tryz.underlying266 rfl rfl ⟨z_v _ rfl,trivial⟩
def Dl:TyI:=⟨.pt 262,1,8,[.v (.pointer none)]⟩
theorem A8:TyOK Tryz.prog 273 Dl:=TyOK.mk' (z:=.pointer none) (by kernel_rfl) Tryz.underlying273 rfl rfl ⟨z_v _ rfl,trivial⟩
def Dk:TyI:=⟨.pt 5,1,8,[.v (.pointer none)]⟩
theorem A7:TyOK Tryz.prog 286 Dk:=TyOK.mk' (z:=.pointer none) (by kernel_rfl) Tryz.underlying286 rfl rfl ⟨z_v _ rfl,trivial⟩
def Dj:TyI:=⟨.st [(0,9)],1,16,[.v (.string ⟨#[]⟩)]⟩
theorem A6:TyOK Tryz.prog 291 Dj:=TyOK.mk' (z:=.agg #[.string ⟨#[]⟩]) (by kernel_rfl) Tryz.underlying291 rfl rfl ⟨z_v _ rfl,trivial⟩
def DK:TyI:=⟨.ot,1,8,[.v (.nilFunc)]⟩
theorem Bw:TyOK Tryz.prog 108 DK:=TyOK.mk' (z:=.nilFunc) (by kernel_rfl) Tryz.underlying108 trivial rfl ⟨z_v _ rfl,trivial⟩
def DH:TyI:=⟨.ot,1,8,[.v (.nilFunc)]⟩
theorem Bt:TyOK Tryz.prog 140 DH:=TyOK.mk' (z:=.nilFunc) (by kernel_rfl) Tryz.underlying140 trivial rfl ⟨z_v _ rfl,trivial⟩
def Dz:TyI:=⟨.ot,1,8,[.v (.nilFunc)]⟩
theorem Bl:TyOK Tryz.prog 183 Dz:=TyOK.mk' (z:=.nilFunc) (by kernel_rfl) Tryz.underlying183 trivial rfl ⟨z_v _ rfl,trivial⟩
def Dy:TyI:=⟨.ot,1,8,[.v (.nilFunc)]⟩
theorem Bk:TyOK Tryz.prog 187 Dy:=TyOK.mk' (z:=.nilFunc) (by kernel_rfl) Tryz.underlying187 trivial rfl ⟨z_v _ rfl,trivial⟩
def tt:TT:=sL [(2,ty2),(3,ty3),(4,ty4),(5,ty5),(9,ty9),(12,IL),(21,IK),(22,IJ),(23,II),(24,IH),(25,IG),(26,IF),(27,IE),(28,ID),(29,IA),(32,Iy),(33,Iw),(36,Iu),(41,Is),(42,Ir),(45,Iq),(46,Ip),(48,Im),(53,Ik),(54,Ij),(55,Ii),(56,Ih),(57,Ig),(58,If),(62,Ic),(63,Ib),(65,Ia),(71,H9),(72,H8),(74,H7),(84,H6),(86,H5),(87,H4),(93,A5),(96,H3),(103,DN),(105,DM),(106,DL),(114,DJ),(138,DI),(141,DG),(142,DF),(161,DE),(162,DD),(163,DC),(175,DB),(176,DA),(190,Dx),(192,Dw),(206,Du),(219,Dt),(233,Ds),(235,Dr),(236,Dq),(244,Dp),(249,Do),(262,Dn),(266,Dm),(273,Dl),(286,Dk),(291,Dj),(108,DK),(140,DH),(183,Dz),(187,Dy)]
theorem hT:dW Tryz.prog tt:=AllT.ok ⟨Iz,It,Il,Ie,H1,Fv,Fu,Ft,Fs,Fq,Fp,Fk,Fj,Fi,Fh,Fg,Ff,Fe,Fc,Fb,Fa,E9,E8,E7,E6,E5,E0,EZ,EY,EX,EW,EV,EU,ET,ES,ER,EQ,EP,EO,EN,Bz,By,Bx,Bv,Bu,Bs,Br,Bq,Bp,Bo,Bn,Bm,Bj,Bi,Bh,Bg,Bf,Be,Bd,Bc,Bb,Ba,A9,A8,A7,A6,Bw,Bt,Bl,Bk,trivial⟩
theorem hP:Tryz.prog.follows .mixedOrders=true:=by kernel_rfl
end
section
open Go Go.AM
theorem fg (ws:List Nat) (hok:okW ws) :
  aJ Tryz.prog 130 [.p (.c (W ws))] (.p (.c (nt (wv ws)))):=by
 refine aO Tryz.func130 rfl rfl rfl rfl ?_
 refine jw (t:=0) rfl rfl (fun hlen=>?_)
 refine ae hP<|aj rfl<|ag<|ao<|aA<|bg (ι:=List Nat) (fun l=>stL [(0,.p (.c (W l)))] []) (fun l=>okW l∧wv l=wv ws∧l.length≤140737488355328) (fun l=>l.length) ws ⟨hok,rfl,hlen⟩ (aD ⟨.refl _,trivial⟩ trivial) ?_
 rintro l ⟨hl,hv,hn⟩
 refine ao<|ae hP<|ak rfl<|ab (aU hT rfl rfl rfl rfl)<|ab (bK rfl rfl)<|ak rfl ?_
 refine aW (t:=6) rfl (fun hg1=>?_) (fun hg1=>?_)
 ·have hg1_:=dT0 hg1
  refine ay hg1 (aB (rfl:_=AV.p (.c _))) ?_
  refine ay hg1 (aB (rfl:_=AV.p (.c _))) ?_
  refine ay hg1 (aU hT rfl rfl rfl rfl) ?_
  refine ay hg1 (bD rfl rfl (by first | exact iW0 _ (by omega) | rfl)) ?_
  refine ay hg1 (by first | exact en hT rfl rfl rfl rfl rfl rfl (by omega) | exact b6 hT rfl rfl rfl rfl rfl rfl (by omega) (by first | exact gB (by omega) | simp)) ?_
  refine ay hg1 (bI hT rfl rfl rfl (by first | rfl | exact kN (by omega))) ?_
  refine ay hg1 (bh rfl rfl) ?_
  refine ab (aN rfl hg1 (rfl:_=AV.p (.c _)))<|ag ?_
  refine az rfl (fun hb2=>?_) (fun hb2=>?_)
  ·have hb2_:=bT hb2
   refine au<|aA<|aw hP<|ak rfl<|ak rfl<|ab (aU hT rfl rfl rfl rfl)<|ab (bD rfl rfl (by first | exact iW0 _ (by omega) | rfl)) ?_
   refine ab (kU hT rfl rfl rfl rfl rfl rfl (by omega)) ?_
   refine aj rfl<|ag ?_
   have e:((l.length:Int) - 1).toNat=l.length - 1:=by omega
   refine ⟨l.take (l.length - 1),⟨hl.take _,?_,?_⟩,?_,aD ⟨aH ?_,trivial⟩ trivial⟩
   ·rw [sQ (by omega) (by rw [← e];omega),hv]
   ·rw [List.length_take];omega
   ·rw [List.length_take];omega
   show AV.p (.c (W (l.take ((l.length:Int) - 1).toNat)))=_
   rw [e]
  have hb2_:=bF hb2
  refine aZ<|ae hP<|ak rfl<|aj rfl<|ag<|am<|E1 rfl rfl ?_
  have e:((l.length:Int) - 1).toNat=l.length - 1:=by omega
  refine aH ?_
  rw [← hv,sE hl (.inr (by rw [← e];omega))]
 have hg1_:=dF0 hg1
 iterate 7 refine aX hg1 ?_
 refine ab (aK rfl hg1 (rfl:_=AV.p (.c _)))<|ag<|aQ rfl rfl<|aZ<|ae hP<|ak rfl<|aj rfl<|ag<|am<|E1 rfl rfl ?_
 refine aH ?_
 rw [← hv,sE hl (.inl (by omega))]
end
section
open Go Go.AM
theorem r7 (a:Int) :
  aJ Tryz.prog 128 [Z a] (B false):=by
 refine aO Tryz.func128 rfl rfl rfl rfl ?_
 refine ae hP<|aj rfl<|ag<|ae hP<|ak rfl<|ak rfl<|ab (bq rfl rfl)<|aj rfl<|ag<|am<|E1 rfl rfl ?_
 exact aH (by simp)
theorem r6 (a:Int) :
  aJ Tryz.prog 181 [.p (.c (.v (.int .u32 a)))] (B false):=by
 refine aO Tryz.func181 rfl rfl rfl rfl ?_
 refine ae hP<|aj rfl<|ag<|ae hP<|ak rfl<|ak rfl<|ab (bq rfl rfl)<|aj rfl<|ag<|am<|E1 rfl rfl ?_
 exact aH (by simp)
theorem oz (a b:Int) :
  aJ Tryz.prog 57 [.p (.c (.v (.int .i64 a))),.p (.c (.v (.int .i64 b)))] (Z (bA a b)):=by
 refine aO Tryz.func57 rfl rfl rfl rfl ?_
 refine ae hP<|aj rfl<|ag<|ae hP<|ak rfl<|ab (ah (r7 _)) ?_
 refine aj rfl<|ag<|ae hP<|ak rfl<|ab (ah (r7 _)) ?_
 refine aj rfl<|ag<|ao<|ae hP<|ak rfl<|ag<|aQ rfl rfl<|au<|ao<|ae hP<|ak rfl<|ag<|aQ rfl rfl<|au<|ao<|ae hP<|ak rfl<|ak rfl<|ab (bi rfl rfl)<|ag ?_
 refine az rfl (fun hb1=>?_) (fun hb1=>?_)
 ·have hb1_:=dT0 hb1
  refine ae hP<|aj rfl<|ag<|am<|E1 rfl rfl ?_
  exact aH (by unfold bA;rw [if_pos (by omega)])
 have hb1_:=dF0 hb1
 refine au<|ao<|ae hP<|ak rfl<|ak rfl<|ab (bK rfl rfl)<|ag ?_
 refine az rfl (fun hb2=>?_) (fun hb2=>?_)
 ·have hb2_:=dT0 hb2
  refine ae hP<|aj rfl<|ag<|am<|E1 rfl rfl ?_
  exact aH (by unfold bA;rw [if_neg (by omega),if_pos (by omega)])
 have hb2_:=dF0 hb2
 refine au<|ae hP<|aj rfl<|ag<|am<|E1 rfl rfl ?_
 exact aH (by unfold bA;rw [if_neg (by omega),if_neg (by omega)])
theorem vE (a b:Int) :
  aJ Tryz.prog 129 [.p (.c (.v (.int .u32 a))),.p (.c (.v (.int .u32 b)))] (Z (bA a b)):=by
 refine aO Tryz.func129 rfl rfl rfl rfl ?_
 refine ae hP<|aj rfl<|ag<|ae hP<|ak rfl<|ab (ah (r6 _)) ?_
 refine aj rfl<|ag<|ae hP<|ak rfl<|ab (ah (r6 _)) ?_
 refine aj rfl<|ag<|ao<|ae hP<|ak rfl<|ag<|aQ rfl rfl<|au<|ao<|ae hP<|ak rfl<|ag<|aQ rfl rfl<|au<|ao<|ae hP<|ak rfl<|ak rfl<|ab (bi rfl rfl)<|ag ?_
 refine az rfl (fun hb1=>?_) (fun hb1=>?_)
 ·have hb1_:=dT0 hb1
  refine ae hP<|aj rfl<|ag<|am<|E1 rfl rfl ?_
  exact aH (by unfold bA;rw [if_pos (by omega)])
 have hb1_:=dF0 hb1
 refine au<|ao<|ae hP<|ak rfl<|ak rfl<|ab (bK rfl rfl)<|ag ?_
 refine az rfl (fun hb2=>?_) (fun hb2=>?_)
 ·have hb2_:=dT0 hb2
  refine ae hP<|aj rfl<|ag<|am<|E1 rfl rfl ?_
  exact aH (by unfold bA;rw [if_neg (by omega),if_pos (by omega)])
 have hb2_:=dF0 hb2
 refine au<|ae hP<|aj rfl<|ag<|am<|E1 rfl rfl ?_
 exact aH (by unfold bA;rw [if_neg (by omega),if_neg (by omega)])
theorem JJ (a b:Int) :
  aJ Tryz.prog 60 [.p (.c (.sl 2 [.v (.int .i64 a),.v (.int .i64 b)]))] (Z (if a=0 then b else a)):=by
 refine aO Tryz.func60 rfl rfl rfl rfl ?_
 refine ae hP<|aj rfl<|ag<|ae hP<|aj rfl<|ag<|ao<|ae hP<|ak rfl<|ab (aU hT rfl rfl rfl rfl)<|ak rfl<|ag<|aA<|dT 3 ?_
 refine ae hP<|ab (bi rfl rfl)<|ag<|ao<|aV rfl (by decide) ?_
 refine au<|ao<|aA<|ae hP<|cK ?_
 refine cH hT rfl rfl rfl ?_
 refine aj rfl<|ag<|ae hP<|ak rfl<|ak rfl<|ab (bq rfl rfl)<|ag ?_
 refine az rfl (fun hb1=>?_) (fun hb1=>?_)
 ·have hb1_:=bY hb1
  refine ae hP<|ak rfl<|aj rfl<|ag<|am<|E1 rfl rfl ?_
  exact aH (by rw [if_neg hb1_])
 have hb1_:=bS hb1
 refine au<|aw hP<|bv rfl rfl ?_
 refine ak rfl<|ag<|ae hP<|ab (bi rfl rfl)<|ag<|ao<|aV rfl (by decide) ?_
 refine au<|ao<|aA<|ae hP<|cK ?_
 refine cH hT rfl rfl rfl ?_
 refine aj rfl<|ag<|ae hP<|ak rfl<|ak rfl<|ab (bq rfl rfl)<|ag ?_
 refine az rfl (fun hb2=>?_) (fun hb2=>?_)
 ·have hb2_:=bY hb2
  refine ae hP<|ak rfl<|aj rfl<|ag<|am<|E1 rfl rfl ?_
  exact aH (by rw [if_pos hb1_])
 have hb2_:=bS hb2
 refine au<|aw hP<|bv rfl rfl ?_
 refine ak rfl<|ag<|ae hP<|ab (bi rfl rfl)<|ag<|ao<|aQ rfl (by decide) ?_
 refine aZ<|ae hP<|ak rfl<|aj rfl<|ag<|am<|E1 rfl rfl ?_
 exact aH (by rw [if_pos hb1_,hb2_])
theorem EE (x y c:Nat) (hx:x < 4294967296) (hy:y < 4294967296) (hc:c < 4294967296) :
  aJ Tryz.prog 169 [.p (.c (w32 x)),.p (.c (w32 y)),.p (.c (w32 c))] (.t [.c (w32 ((x+y+c) % 4294967296)),.c (w32 ((x+y+c) / 4294967296))]):=by
 refine aO Tryz.func169 rfl rfl rfl rfl ?_
 refine ae hP<|aj rfl<|aj rfl<|ag<|ae hP<|ak rfl<|ab (bl hT rfl rfl rfl rfl (by first | exact IntWalk.u64_in _ (by omega) | rfl)) ?_
 refine ak rfl<|ab (bl hT rfl rfl rfl rfl (by first | exact IntWalk.u64_in _ (by omega) | rfl)) ?_
 refine ab (bL rfl rfl (c:=((x+y:Nat):Int)) (by rw [IntWalk.u64_in _ (by omega)];omega)) ?_
 refine ak rfl<|ab (bl hT rfl rfl rfl rfl (by first | exact IntWalk.u64_in _ (by omega) | rfl)) ?_
 refine ab (bL rfl rfl (c:=((x+y+c:Nat):Int)) (by rw [IntWalk.u64_in _ (by omega)];omega)) ?_
 refine aj rfl<|ag<|ae hP<|ak rfl<|ab (bl hT rfl rfl rfl rfl (c:=(((x+y+c) % 4294967296:Nat):Int)) (by rw [IntKind.wrap_u32];omega)) ?_
 refine aj rfl<|ag<|ae hP<|ak rfl<|ab (dh (j:=32) rfl rfl (by first | decide | omega)) ?_
 refine ab (bl hT rfl rfl rfl rfl (c:=(((x+y+c) / 4294967296:Nat):Int)) (by rw [IntWalk.u32_in _ (by omega)])) ?_
 refine aj rfl<|ag<|am<|E11 rfl rfl rfl ?_
 exact .refl _
theorem xk (x y c:Nat) (hx:x < 4294967296) (hy:y < 4294967296) (hc:c < 2) :
  aJ Tryz.prog 170 [.p (.c (w32 x)),.p (.c (w32 y)),.p (.c (w32 c))] (.t [.c (w32 ((x+8589934592 - y - c) % 4294967296)),.c (w32 (if x < y+c then 1 else 0))]):=by
 have hxy:(x ^^^ y) < 4294967296:=Nat.xor_lt_two_pow (n:=32) hx hy
 have hd:(x+8589934592 - y - c) % 4294967296 < 4294967296:=Nat.mod_lt _ (by omega)
 have h1:((4294967295 - x) &&& y) < 4294967296:=Nat.lt_of_le_of_lt Nat.and_le_right hy
 have h2:((4294967295 - (x ^^^ y)) &&& ((x+8589934592 - y - c) % 4294967296)) < 4294967296:=Nat.lt_of_le_of_lt Nat.and_le_right hd
 refine aO Tryz.func170 rfl rfl rfl rfl ?_
 refine ae hP<|aj rfl<|aj rfl<|ag<|ae hP<|ak rfl<|ak rfl<|ab (bD rfl rfl rfl)<|ak rfl<|ab (bD rfl rfl (c:=(((x+8589934592 - y - c) % 4294967296:Nat):Int)) (by simp only [IntKind.wrap_u32];omega)) ?_
 refine aj rfl<|ag<|ae hP<|ak rfl<|ab (rN rfl (by first | assumption | omega)) ?_
 refine ak rfl<|ab (qA rfl rfl rfl (by first | exact iP (by omega) | exact fZ (by omega)) (by first | exact iP (by omega) | exact fZ (by omega))) ?_
 refine ak rfl<|ak rfl<|ab (Gy rfl rfl rfl (by first | exact iP (by omega) | exact fZ (by omega)) (by first | exact iP (by omega) | exact fZ (by omega))) ?_
 refine ab (rN rfl (by first | assumption | omega)) ?_
 refine ak rfl<|ab (qA rfl rfl rfl (by first | exact iP (by omega) | exact fZ (by omega)) (by first | exact iP (by omega) | exact fZ (by omega))) ?_
 refine ab (mQ rfl rfl rfl (by first | exact iP (by omega) | exact fZ (by omega)) (by first | exact iP (by omega) | exact fZ (by omega))) ?_
 refine ab (dh (j:=31) rfl rfl (by first | decide | omega)) ?_
 refine aj rfl<|ag<|am<|E11 rfl rfl rfl ?_
 exact aH (by rw [yD x y c hx hy hc];rfl)
theorem GU:∀ m,m < 256→(⟨#[0,1,2,2,3,3,3,3,4,4,4,4,4,4,4,4,5,5,5,5,5,5,5,5,5,5,5,5,5,5,5,5,6,6,6,6,6,6,6,6,6,6,6,6,6,6,6,6,6,6,6,6,6,6,6,6,6,6,6,6,6,6,6,6,7,7,7,7,7,7,7,7,7,7,7,7,7,7,7,7,7,7,7,7,7,7,7,7,7,7,7,7,7,7,7,7,7,7,7,7,7,7,7,7,7,7,7,7,7,7,7,7,7,7,7,7,7,7,7,7,7,7,7,7,7,7,7,7,8,8,8,8,8,8,8,8,8,8,8,8,8,8,8,8,8,8,8,8,8,8,8,8,8,8,8,8,8,8,8,8,8,8,8,8,8,8,8,8,8,8,8,8,8,8,8,8,8,8,8,8,8,8,8,8,8,8,8,8,8,8,8,8,8,8,8,8,8,8,8,8,8,8,8,8,8,8,8,8,8,8,8,8,8,8,8,8,8,8,8,8,8,8,8,8,8,8,8,8,8,8,8,8,8,8,8,8,8,8,8,8,8,8,8,8,8,8,8,8,8,8,8,8,8,8,8,8]⟩:ByteArray)[m]?=some (UInt8.ofNat (bn m)):=by decide +kernel
theorem MG:∀ m,m < 256→(UInt8.ofNat (bn m)).toNat=bn m:=by decide +kernel
theorem nS {dst:Option Nat} {ty:TypeId} {pos:String} {af:Array Edge} {gd:Option (Nat × Bool)} {d:Nat} {ρ:Operand→AV} {own:Own} {x y:Operand} {m:Nat}
  (hx:ρ x=.p (.c (.v (.string ⟨#[0,1,2,2,3,3,3,3,4,4,4,4,4,4,4,4,5,5,5,5,5,5,5,5,5,5,5,5,5,5,5,5,6,6,6,6,6,6,6,6,6,6,6,6,6,6,6,6,6,6,6,6,6,6,6,6,6,6,6,6,6,6,6,6,7,7,7,7,7,7,7,7,7,7,7,7,7,7,7,7,7,7,7,7,7,7,7,7,7,7,7,7,7,7,7,7,7,7,7,7,7,7,7,7,7,7,7,7,7,7,7,7,7,7,7,7,7,7,7,7,7,7,7,7,7,7,7,7,8,8,8,8,8,8,8,8,8,8,8,8,8,8,8,8,8,8,8,8,8,8,8,8,8,8,8,8,8,8,8,8,8,8,8,8,8,8,8,8,8,8,8,8,8,8,8,8,8,8,8,8,8,8,8,8,8,8,8,8,8,8,8,8,8,8,8,8,8,8,8,8,8,8,8,8,8,8,8,8,8,8,8,8,8,8,8,8,8,8,8,8,8,8,8,8,8,8,8,8,8,8,8,8,8,8,8,8,8,8,8,8,8,8,8,8,8,8,8,8,8,8,8,8,8,8,8,8]⟩)))) (hy:ρ y=.p (.c (.v (.int .u8 m)))) (hm:m < 256):Eff Tryz.prog ⟨dst,.index 9 x y,ty,pos,af,gd⟩ d ρ own (.p (.c (.v (.int .u8 (bn m:Nat))))) [] none []:=by
 have h:=tY (P:=Tryz.prog) (dst:=dst) (ty:=ty) (pos:=pos) (af:=af) (gd:=gd) (d:=d) (own:=own) hT (T:=9) rfl rfl hx hy (by omega) (by rw [Int.toNat_natCast];exact GU m hm)
 rw [MG m hm] at h
 exact h
theorem Ei (x:Nat) (hx:x < 4294967296) :
  aJ Tryz.prog 233 [.p (.c (w32 x))] (Z (bn x)):=by
 refine aO Tryz.func233 rfl rfl rfl rfl ?_
 refine ae hP<|aj rfl<|ag<|ao<|ae hP<|ak rfl<|ab (dm rfl rfl)<|ag ?_
 refine az rfl (fun hb1=>?_) (fun hb1=>?_)
 ·have hb1_:=dT0 hb1
  refine ae hP<|ak rfl<|ab (dh (j:=16) rfl rfl (by first | decide | omega)) ?_
  refine aj rfl<|ag<|aw hP<|aj rfl<|ag<|ao<|ae hP<|ak rfl<|ab (dm rfl rfl)<|ag ?_
  refine az rfl (fun hb2=>?_) (fun hb2=>?_)
  ·have hb2_:=dT0 hb2
   refine ae hP<|ak rfl<|ab (dh (j:=8) rfl rfl (by first | decide | omega)) ?_
   refine aj rfl<|ag<|aw hP<|ak rfl<|bv rfl rfl ?_
   refine aj rfl<|ag<|ae hP<|ak rfl<|ak rfl<|ab (bl hT rfl rfl rfl rfl (IntWalk.u8_in _ (by omega))) ?_
   refine ab (nS rfl rfl (by omega)) ?_
   refine ab (bl hT rfl rfl rfl rfl (iW0 _ (by first | (have h8:=bR (m:=x / 2 ^ 16 / 2 ^ 8) (by omega);omega) | (have h8:=bR (m:=x / 2 ^ 16) (by omega);omega) | (have h8:=bR (m:=x / 2 ^ 8) (by omega);omega) | (have h8:=bR (m:=x) (by omega);omega)))) ?_
   refine ab (bL rfl rfl (iW0 _ (by first | (have h8:=bR (m:=x / 2 ^ 16 / 2 ^ 8) (by omega);omega) | (have h8:=bR (m:=x / 2 ^ 16) (by omega);omega) | (have h8:=bR (m:=x / 2 ^ 8) (by omega);omega) | (have h8:=bR (m:=x) (by omega);omega)))) ?_
   refine aj rfl<|ag<|am<|E1 rfl rfl ?_
   have e:bn x=16+(8+bn (x / 2 ^ 16 / 2 ^ 8)):=by rw [ju (k:=16) (by omega),ju (n:=x / 2 ^ 16) (k:=8) (by omega)]
   exact aM (by omega)
  have hb2_:=dF0 hb2
  refine au<|ae hP<|ak rfl<|ak rfl<|ab (bl hT rfl rfl rfl rfl (IntWalk.u8_in _ (by omega))) ?_
  refine ab (nS rfl rfl (by omega)) ?_
  refine ab (bl hT rfl rfl rfl rfl (iW0 _ (by first | (have h8:=bR (m:=x / 2 ^ 16 / 2 ^ 8) (by omega);omega) | (have h8:=bR (m:=x / 2 ^ 16) (by omega);omega) | (have h8:=bR (m:=x / 2 ^ 8) (by omega);omega) | (have h8:=bR (m:=x) (by omega);omega)))) ?_
  refine ab (bL rfl rfl (iW0 _ (by first | (have h8:=bR (m:=x / 2 ^ 16 / 2 ^ 8) (by omega);omega) | (have h8:=bR (m:=x / 2 ^ 16) (by omega);omega) | (have h8:=bR (m:=x / 2 ^ 8) (by omega);omega) | (have h8:=bR (m:=x) (by omega);omega)))) ?_
  refine aj rfl<|ag<|am<|E1 rfl rfl ?_
  have e:bn x=16+bn (x / 2 ^ 16):=by rw [ju (k:=16) (by omega)]
  exact aM (by omega)
 have hb1_:=dF0 hb1
 refine au<|ao<|ae hP<|ak rfl<|ab (dm rfl rfl)<|ag ?_
 refine az rfl (fun hb3=>?_) (fun hb3=>?_)
 ·have hb3_:=dT0 hb3
  refine ae hP<|ak rfl<|ab (dh (j:=8) rfl rfl (by first | decide | omega)) ?_
  refine aj rfl<|ag<|aw hP<|ak rfl<|bv rfl rfl ?_
  refine aj rfl<|ag<|ae hP<|ak rfl<|ak rfl<|ab (bl hT rfl rfl rfl rfl (IntWalk.u8_in _ (by omega))) ?_
  refine ab (nS rfl rfl (by omega)) ?_
  refine ab (bl hT rfl rfl rfl rfl (iW0 _ (by first | (have h8:=bR (m:=x / 2 ^ 16 / 2 ^ 8) (by omega);omega) | (have h8:=bR (m:=x / 2 ^ 16) (by omega);omega) | (have h8:=bR (m:=x / 2 ^ 8) (by omega);omega) | (have h8:=bR (m:=x) (by omega);omega)))) ?_
  refine ab (bL rfl rfl (iW0 _ (by first | (have h8:=bR (m:=x / 2 ^ 16 / 2 ^ 8) (by omega);omega) | (have h8:=bR (m:=x / 2 ^ 16) (by omega);omega) | (have h8:=bR (m:=x / 2 ^ 8) (by omega);omega) | (have h8:=bR (m:=x) (by omega);omega)))) ?_
  refine aj rfl<|ag<|am<|E1 rfl rfl ?_
  have e:bn x=8+bn (x / 2 ^ 8):=by rw [ju (k:=8) (by omega)]
  exact aM (by omega)
 have hb3_:=dF0 hb3
 refine au<|ae hP<|ak rfl<|ak rfl<|ab (bl hT rfl rfl rfl rfl (IntWalk.u8_in _ (by omega))) ?_
 refine ab (nS rfl rfl (by omega)) ?_
 refine ab (bl hT rfl rfl rfl rfl (iW0 _ (by first | (have h8:=bR (m:=x / 2 ^ 16 / 2 ^ 8) (by omega);omega) | (have h8:=bR (m:=x / 2 ^ 16) (by omega);omega) | (have h8:=bR (m:=x / 2 ^ 8) (by omega);omega) | (have h8:=bR (m:=x) (by omega);omega)))) ?_
 refine ab (bL rfl rfl (iW0 _ (by first | (have h8:=bR (m:=x / 2 ^ 16 / 2 ^ 8) (by omega);omega) | (have h8:=bR (m:=x / 2 ^ 16) (by omega);omega) | (have h8:=bR (m:=x / 2 ^ 8) (by omega);omega) | (have h8:=bR (m:=x) (by omega);omega)))) ?_
 refine aj rfl<|ag<|am<|E1 rfl rfl ?_
 exact aM (by omega)
theorem Ns (x:Nat) (hx:x < 4294967296) :
  aJ Tryz.prog 206 [.p (.c (w32 x))] (Z (32 - (bn x:Nat))):=by
 have hb:=gx (k:=32) hx
 refine aO Tryz.func206 rfl rfl rfl rfl ?_
 refine ae hP<|aj rfl<|ag<|ae hP<|ak rfl<|ab (ah (Ei _ (by assumption))) ?_
 refine ab (bD rfl rfl (by first | exact iW0 _ (by omega) | rfl)) ?_
 refine aj rfl<|ag<|am<|E1 rfl rfl ?_
 exact .refl _
theorem Mz (hi lo y:Nat) (hy:y < 4294967296) (hh:hi < y) (hl:lo < 4294967296) :
  aJ Tryz.prog 238 [.p (.c (w32 hi)),.p (.c (w32 lo)),.p (.c (w32 y))] (.t [.c (w32 ((hi*4294967296+lo) / y)),.c (w32 ((hi*4294967296+lo) % y))]):=by
 have hq:(hi*4294967296+lo) / y < 4294967296:=(Nat.div_lt_iff_lt_mul (by omega)).2 (by have:(hi+1)*4294967296≤y*4294967296:=Nat.mul_le_mul_right _ hh;omega)
 have hr:(hi*4294967296+lo) % y < y:=Nat.mod_lt _ (by omega)
 refine aO Tryz.func238 rfl rfl rfl rfl ?_
 refine ae hP<|aj rfl<|aj rfl<|ag<|ao<|ae hP<|ak rfl<|ab (bq rfl rfl)<|ak rfl<|bB (bj rfl rfl (bne_iff_ne.2 (by omega))) (aB (rfl:_=AV.p (.c _))) ?_
 refine bB (bj rfl rfl (bne_iff_ne.2 (by omega))) (aB (rfl:_=AV.p (.c _))) ?_
 refine bB (bj rfl rfl (bne_iff_ne.2 (by omega))) (eX rfl rfl) ?_
 refine ab (aN rfl (bne_iff_ne.2 (by omega)) (rfl:_=AV.p (.c _))) ?_
 refine ag<|aQ rfl (decide_eq_false (by omega)) ?_
 refine au<|ae hP<|ak rfl<|ab (bl hT rfl rfl rfl rfl (IntWalk.u64_in _ (by omega))) ?_
 refine ab (gZ (j:=32) rfl rfl (by first | decide | omega) rfl) ?_
 refine ak rfl<|ab (bl hT rfl rfl rfl rfl (IntWalk.u64_in _ (by omega))) ?_
 refine ab (jX rfl rfl (nk (by omega) hl)) ?_
 refine aj rfl<|ag<|ae hP<|ak rfl<|ak rfl<|ab (bl hT rfl rfl rfl rfl (IntWalk.u64_in _ (by omega))) ?_
 refine ab (cO rfl rfl (by omega) (c:=(((hi*4294967296+lo) / y:Nat):Int)) (by rw [Int.tdiv_eq_ediv_of_nonneg (by omega),← Int.natCast_ediv,cZ (by omega)])) ?_
 refine ab (bl hT rfl rfl rfl rfl (kO (by omega))) ?_
 refine ak rfl<|ak rfl<|ab (bl hT rfl rfl rfl rfl (IntWalk.u64_in _ (by omega))) ?_
 refine ab (bJ rfl rfl (by omega) (c:=(((hi*4294967296+lo) % y:Nat):Int)) (by rw [Int.tmod_eq_emod_of_nonneg (by omega),← Int.natCast_emod])) ?_
 refine ab (bl hT rfl rfl rfl rfl (kO (by omega))) ?_
 refine aj rfl<|aj rfl<|ag<|am<|E11 rfl rfl rfl ?_
 exact .refl _
end
section
open Go Go.AM
theorem qD (m n:Nat) :
  aJ Tryz.prog 59 [.p (.c (nt m)),.p (.c (nt n))] (Z (bA m n)):=by
 refine aO Tryz.func59 rfl rfl rfl rfl ?_
 refine jw (t:=0) rfl rfl (fun hlen=>?_)
 refine jw (t:=1) rfl rfl (fun hlen2=>?_)
 refine ae hP<|aj rfl<|ag<|ao<|ae hP<|ak rfl<|ab (aU hT rfl rfl rfl rfl)<|ak rfl<|ab (aU hT rfl rfl rfl rfl)<|ab (ah (oz _ _)) ?_
 refine aj rfl<|ag<|ae hP<|ak rfl<|ab (bq rfl rfl)<|ag ?_
 refine az rfl (fun hb1=>?_) (fun hb1=>?_)
 ·have hb1_:=bY hb1
  refine ae hP<|ak rfl<|aj rfl<|ag<|am<|E1 rfl rfl ?_
  exact aM (Hx hb1_)
 have hb1_:=bS hb1
 refine au<|ao<|ae hP<|ak rfl<|ab (aU hT rfl rfl rfl rfl)<|ab (bD rfl rfl (by first | exact iW0 _ (by omega) | rfl)) ?_
 refine aj rfl<|ag<|aA ?_
 have hll:(wl m).length=(wl n).length:=by have:=kd hb1_;omega
 refine bg (ι:=Nat) (fun k=>stL [(0,.p (.c (nt m))),(1,.p (.c (nt n))),(6,Z ((k:Int) - 1))] []) (fun k=>k≤(wl m).length∧(wl m).drop k=(wl n).drop k) (fun k=>k) (wl m).length ⟨Nat.le_refl _,by rw [List.drop_length,hll,List.drop_length]⟩ (aD ⟨.refl _,.refl _,.refl _,trivial⟩ trivial) ?_
 rintro k ⟨hk,he⟩
 refine ao<|ae hP<|ak rfl<|ab (dm rfl rfl)<|ag ?_
 refine az rfl (fun hb2=>?_) (fun hb2=>?_)
 ·have hb2_:=dT0 hb2
  refine au<|ao<|aA<|ae hP<|ak rfl<|ak rfl<|ab (b6 hT rfl rfl rfl rfl rfl rfl (l:=(wl m).length) (xs:=(wl m).map w32) (by omega) (gB (by omega))) ?_
  refine cH hT rfl rfl rfl ?_
  refine ak rfl<|ak rfl<|ab (b6 hT rfl rfl rfl rfl rfl rfl (l:=(wl n).length) (xs:=(wl n).map w32) (by omega) (gB (by omega))) ?_
  refine cH hT rfl rfl rfl ?_
  refine ab (ah (vE _ _)) ?_
  refine aj rfl<|ag<|ae hP<|ak rfl<|ab (bq rfl rfl)<|ag ?_
  refine az rfl (fun hb3=>?_) (fun hb3=>?_)
  ·have hb3_:=bY hb3
   refine ae hP<|ak rfl<|aj rfl<|ag<|am<|E1 rfl rfl ?_
   have hkk:((k:Int) - 1).toNat=k - 1:=by omega
   rw [hkk] at hb3_ ⊢
   have h2:=uX (bG m) (bG n) hll (k:=k - 1) (by omega) (by rw [show k - 1+1=k by omega];exact he) hb3_
   rw [bH,bH] at h2
   exact aM h2
  have hb3_:=bS hb3
  refine au<|aw hP<|ak rfl<|ab (bD rfl rfl (by first | exact iW0 _ (by omega) | rfl)) ?_
  refine aj rfl<|ag ?_
  have hkk:((k:Int) - 1).toNat=k - 1:=by omega
  have he2:=kd hb3_
  rw [hkk] at he2
  refine ⟨k - 1,⟨by omega,?_⟩,by omega,aD ⟨.refl _,.refl _,aM (by omega),trivial⟩ trivial⟩
  have e1:=dV (ws:=wl m) (k:=k - 1) (by omega)
  have e2:=dV (ws:=wl n) (k:=k - 1) (by omega)
  rw [e1,e2,show k - 1+1=k by omega,he]
  congr 1
  omega
 have hb2_:=dF0 hb2
 refine aZ<|ae hP<|aj rfl<|ag<|am<|E1 rfl rfl ?_
 have hk0:k=0:=by omega
 rw [hk0,List.drop_zero,List.drop_zero] at he
 have:m=n:=by rw [← bH m,he,bH]
 exact aM (by rw [this,ik])
theorem GI (a b:List Nat) (ha:okW a) (hb:okW b) (hla:a.length≤1099511627776) (hlb:b.length≤1099511627776) :
  aJ Tryz.prog 106 [.p (.c (W a)),.p (.c (W b))] (.p (.c (nt (wv a+wv b)))):=by
 refine aO Tryz.func106 rfl rfl rfl rfl ?_
 refine ae hP<|aj rfl<|ag<|cy (ι:=List Nat × List Nat) (fun ⟨p,q⟩=>stL [(0,.p (.c (W p))),(1,.p (.c (W q)))] []) (fun ⟨p,q⟩=>okW p∧okW q∧q.length≤p.length∧p.length≤1099511627776∧wv p+wv q=wv a+wv b) ?_ ?_
 ·refine ae hP<|ak rfl<|ab (aU hT rfl rfl rfl rfl)<|ak rfl<|ab (aU hT rfl rfl rfl rfl)<|ab (bi rfl rfl)<|ag ?_
  refine az rfl (fun hb1=>?_) (fun hb1=>?_)
  ·have hb1_:=dT0 hb1
   refine aw hP<|ak rfl<|ak rfl<|aj rfl<|aj rfl<|ag ?_
   exact ⟨(b,a),⟨hb,ha,by omega,hlb,Nat.add_comm _ _⟩,aD ⟨.refl _,.refl _,trivial⟩ trivial⟩
  have hb1_:=dF0 hb1
  refine au ?_
  exact ⟨(a,b),⟨ha,hb,by omega,hla,rfl⟩,aD ⟨.refl _,.refl _,trivial⟩ trivial⟩
 clear hla hlb
 generalize hS:wv a+wv b=S
 clear ha hb
 rintro ⟨a,b⟩ ⟨ha,hb,hl,hla,hs⟩
 refine ae hP<|ak rfl<|ab (aU hT rfl rfl rfl rfl)<|bv rfl rfl ?_
 refine aq ai (eJ hT rfl rfl rfl rfl rfl rfl rfl rfl (by omega)) ?_
 refine ab (a7 (rfl:_=AV.vec _))<|ag<|ae hP<|ab (aB (rfl:_=AV.vec _))<|ak rfl<|RK.mut ai (mR hT rfl rfl rfl rfl rfl rfl rfl (by simp) (ws':=a ++ [0]) (by rw [BJ])) ?_
 refine ag<|ae hP<|aj rfl<|ag<|ao<|ae hP<|ab (aB (rfl:_=AV.vec _))<|ab (ff hT rfl rfl rfl rfl)<|ak rfl<|ag<|aA ?_
 have hA:okW (a ++ [0]):=ha.snoc (by omega)
 refine bg (ι:=List Nat × Nat) (fun ⟨l,c⟩=>stL [(1,.p (.c (W b))),(5,.vec 19),(6,.p (.c (w32 c))),(24,Z (((a ++ [0]).length:Nat):Int)),(25,Z ((l.length:Nat):Int))] [(19,WB 105 (l ++ (a ++ [0]).drop l.length))]) (fun ⟨l,c⟩=>l.length≤(a ++ [0]).length∧okW l∧c < 2∧wv l+4294967296 ^ l.length*c=wv ((a ++ [0]).take l.length)+wv (b.take l.length)) (fun ⟨l,_⟩=>(a ++ [0]).length - l.length) ([],0) ⟨Nat.zero_le _,okW.nil,by omega,by simp [wv]⟩ (aD ⟨.refl _,.refl _,.refl _,.refl _,.refl _,trivial⟩ ⟨rfl,trivial⟩) ?_
 rintro ⟨l,c⟩ ⟨hll,hol,hc,hv⟩
 have hmid:=qF hll
 have hAlen:(a ++ [0]).length=a.length+1:=by simp
 refine ae hP<|ab (bi rfl rfl)<|ag<|ao ?_
 refine az rfl (fun hb2=>?_) (fun hb2=>?_)
 ·have hb2_:=dT0 hb2
  have hlt:l.length < (a ++ [0]).length:=by omega
  refine au<|ao<|aA<|ae hP<|ak rfl<|aj rfl<|ag<|ae hP<|aj rfl<|ag<|cy (ι:=Unit) (fun _=>stL [(1,.p (.c (W b))),(5,.vec 19),(6,.p (.c (w32 c))),(24,Z (((a ++ [0]).length:Nat):Int)),(25,Z ((l.length:Nat):Int)),(7,Z ((l.length:Nat):Int)),(8,.p (.c (w32 (b.getD l.length 0))))] [(19,WB 105 (l ++ (a ++ [0]).drop l.length))]) (fun _=>True) ?_ ?_
  ·refine ae hP<|ak rfl<|ak rfl<|ab (aU hT rfl rfl rfl rfl)<|ab (bi rfl rfl)<|ag ?_
   refine az rfl (fun hb3=>?_) (fun hb3=>?_)
   ·have hb3_:=dT0 hb3
    refine aw hP<|ak rfl<|ak rfl<|cK ?_
    refine cH hT rfl rfl rfl ?_
    refine aj rfl<|ag ?_
    exact ⟨(),trivial,aD ⟨.refl _,.refl _,.refl _,.refl _,.refl _,.refl _,.refl _,trivial⟩ ⟨rfl,trivial⟩⟩
   have hb3_:=dF0 hb3
   refine au ?_
   exact ⟨(),trivial,aD ⟨.refl _,.refl _,.refl _,.refl _,.refl _,.refl _,aH (by rw [qO (by omega)];rfl),trivial⟩ ⟨rfl,trivial⟩⟩
  rintro _ -
  refine aw hP<|ab (aB (rfl:_=AV.vec _))<|ak rfl<|ab (aB (rfl:_=AV.vec _))<|ak rfl<|de ?_
  refine ab (dy hT rfl rfl rfl rfl (by first | omega | (simp;omega)) (qG hlt)) ?_
  refine ak rfl<|ak rfl<|ab (ah (EE _ _ _ (hA.getD _) (hb.getD _) (by omega))) ?_
  refine ab (aB (rfl:_=AV.t _))<|ab (aE rfl (v:=.c _) rfl)<|ab (aE rfl (v:=.c _) rfl)<|de ?_
  refine du ai (cw hT rfl rfl rfl rfl rfl (by first | omega | (simp;omega)) (qE hlt)) ?_
  refine aj rfl<|ag<|aw hP<|bv rfl rfl ?_
  refine ak rfl<|ag ?_
  have hs1:=hA.getD l.length
  have hs2:=hb.getD l.length
  have hr:=AL (A:=(a ++ [0])) (b:=b) (_r:=[]) hlt rfl hv _ rfl
  refine ⟨(l ++ [((a ++ [0]).getD l.length 0+b.getD l.length 0+c) % 4294967296],((a ++ [0]).getD l.length 0+b.getD l.length 0+c) / 4294967296),⟨by simp;omega,hol.snoc (Nat.mod_lt _ (by omega)),by omega,by simpa using hr⟩,by simp;omega,aD ⟨.refl _,.refl _,.refl _,.refl _,aM (by simp),trivial⟩ ⟨rfl,trivial⟩⟩
 have hb2_:=dF0 hb2
 have hge:l.length=(a ++ [0]).length:=by omega
 have hfin:=hol.app (hA.drop l.length)
 have hval:=AP hge hl ha hb hol hv
 refine aZ<|cJ (t:=5) rfl rfl ?_
 refine ae hP<|ak rfl<|ab (ah (fg _ hfin)) ?_
 refine aj rfl<|ag<|am<|E1 rfl rfl ?_
 exact aH (by rw [hval,hs])
end
section
open Go Go.AM
theorem wG (a b:List Nat) (ha:okW a) (hb:okW b) (hla:a.length≤1099511627776) (hab:b.length≤a.length) (hle:wv b≤wv a) :
  aJ Tryz.prog 107 [.p (.c (W a)),.p (.c (W b))] (.p (.c (nt (wv a - wv b)))):=by
 refine aO Tryz.func107 rfl rfl rfl rfl ?_
 have h0l:(0:Nat)≤a.length:=Nat.zero_le _
 refine ae hP<|aj rfl<|ag<|ae hP<|ak rfl<|ab (aU hT rfl rfl rfl rfl)<|aq ai (eJ hT rfl rfl rfl rfl rfl rfl rfl rfl (by omega)) ?_
 refine ab (a7 (rfl:_=AV.vec _))<|ag<|ae hP<|ab (aB (rfl:_=AV.vec _))<|ak rfl<|RK.mut ai (mR hT rfl rfl rfl rfl rfl rfl rfl (by simp) (ws':=a) (by rw [BL,List.append_nil])) ?_
 refine ag<|ae hP<|aj rfl<|ag<|ao<|ae hP<|ab (aB (rfl:_=AV.vec _))<|ab (ff hT rfl rfl rfl rfl)<|ak rfl<|ag<|aA<|bg (ι:=List Nat × Nat) (fun ⟨l,c⟩=>stL [(1,.p (.c (W b))),(5,.vec 11),(6,.p (.c (w32 c))),(16,Z ((a.length:Nat):Int)),(17,Z ((l.length:Nat):Int))] [(11,WB 105 (l ++ a.drop l.length))]) (fun ⟨l,c⟩=>l.length≤a.length∧okW l∧c < 2∧wv l+wv (b.take l.length)=wv (a.take l.length)+4294967296 ^ l.length*c) (fun ⟨l,_⟩=>a.length - l.length) ([],0) ⟨Nat.zero_le _,okW.nil,by omega,by simp [wv]⟩ (aD ⟨.refl _,.refl _,.refl _,.refl _,.refl _,trivial⟩ ⟨rfl,trivial⟩) ?_
 rintro ⟨l,c⟩ ⟨hll,hol,hc,hv⟩
 have hmid:=qF hll
 refine ae hP<|ab (bi rfl rfl)<|ag<|ao ?_
 refine az rfl (fun hb1=>?_) (fun hb1=>?_)
 ·have hb1_:=dT0 hb1
  have hlt:l.length < a.length:=by omega
  refine au<|ao<|aA<|ae hP<|ak rfl<|aj rfl<|ag<|ae hP<|aj rfl<|ag<|cy (ι:=Unit) (fun _=>stL [(1,.p (.c (W b))),(5,.vec 11),(6,.p (.c (w32 c))),(16,Z ((a.length:Nat):Int)),(17,Z ((l.length:Nat):Int)),(7,Z ((l.length:Nat):Int)),(8,.p (.c (w32 (b.getD l.length 0))))] [(11,WB 105 (l ++ a.drop l.length))]) (fun _=>True) ?_ ?_
  ·refine ae hP<|ak rfl<|ak rfl<|ab (aU hT rfl rfl rfl rfl)<|ab (bi rfl rfl)<|ag ?_
   refine az rfl (fun hb2=>?_) (fun hb2=>?_)
   ·have hb2_:=dT0 hb2
    refine aw hP<|ak rfl<|ak rfl<|cK ?_
    refine cH hT rfl rfl rfl ?_
    refine aj rfl<|ag ?_
    exact ⟨(),trivial,aD ⟨.refl _,.refl _,.refl _,.refl _,.refl _,.refl _,.refl _,trivial⟩ ⟨rfl,trivial⟩⟩
   have hb2_:=dF0 hb2
   refine au ?_
   exact ⟨(),trivial,aD ⟨.refl _,.refl _,.refl _,.refl _,.refl _,.refl _,aH (by rw [qO (by omega)];rfl),trivial⟩ ⟨rfl,trivial⟩⟩
  rintro _ -
  refine aw hP<|ab (aB (rfl:_=AV.vec _))<|ak rfl<|ab (aB (rfl:_=AV.vec _))<|ak rfl<|de ?_
  refine ab (dy hT rfl rfl rfl rfl (by first | omega | (simp;omega)) (qG hlt)) ?_
  refine ak rfl<|ak rfl<|ab (ah (xk _ _ _ (ha.getD _) (hb.getD _) hc)) ?_
  refine ab (aB (rfl:_=AV.t _))<|ab (aE rfl (v:=.c _) rfl)<|ab (aE rfl (v:=.c _) rfl)<|de ?_
  refine du ai (cw hT rfl rfl rfl rfl rfl (by first | omega | (simp;omega)) (qE hlt)) ?_
  refine aj rfl<|ag<|aw hP<|bv rfl rfl ?_
  refine ak rfl<|ag ?_
  have hr:=y4 rfl hc ha hb hv
  refine ⟨(l ++ [(a.getD l.length 0+8589934592 - b.getD l.length 0 - c) % 4294967296],if a.getD l.length 0 < b.getD l.length 0+c then 1 else 0),⟨by simp;omega,hol.snoc (Nat.mod_lt _ (by omega)),by split <;> omega,by simpa using hr⟩,by simp;omega,aD ⟨.refl _,.refl _,.refl _,.refl _,aM (by simp),trivial⟩ ⟨rfl,trivial⟩⟩
 have hb1_:=dF0 hb1
 have hge:l.length=a.length:=by omega
 have hfin:=hol.app (ha.drop l.length)
 have hval:=y5 hge hab hle hol hv
 refine aZ<|cJ (t:=5) rfl rfl ?_
 refine ae hP<|ak rfl<|ab (ah (fg _ hfin)) ?_
 refine aj rfl<|ag<|am<|E1 rfl rfl ?_
 exact aH (by rw [hval])
theorem GG (a b:List Nat) (ha:okW a) (hb:okW b) (hla:a.length≤1099511627776) (hlb:b.length≤1099511627776) :
  aJ Tryz.prog 64 [.p (.c (W a)),.p (.c (W b))] (.p (.c (nt (wv a*wv b)))):=by
 refine aO Tryz.func64 rfl rfl rfl rfl ?_
 refine ae hP<|aj rfl<|ag<|ae hP<|ak rfl<|ab (aU hT rfl rfl rfl rfl)<|ak rfl<|ab (aU hT rfl rfl rfl rfl)<|bv rfl rfl ?_
 refine aq ai (eJ hT rfl rfl rfl rfl rfl rfl rfl rfl (by omega)) ?_
 refine ab (a7 (rfl:_=AV.vec _))<|ag<|ao<|ae hP<|ak rfl<|ab (aU hT rfl rfl rfl rfl)<|ak rfl<|ag<|aA<|bg (ι:=List Nat × Nat) (fun ⟨o,i⟩=>stL [(1,.p (.c (W b))),(5,.vec 17),(18,.p (.c (W a))),(19,Z ((a.length:Nat):Int)),(20,Z (i:Int))] [(17,WB 105 o)]) (fun ⟨o,i⟩=>i≤a.length∧o.length=a.length+b.length∧okW o∧wv o=wv (a.take i)*wv b∧∀ j,i+b.length≤j→o.getD j 0=0) (fun ⟨_,i⟩=>a.length - i) (List.replicate ((a.length:Int)+(b.length:Int)).toNat 0,0) ⟨Nat.zero_le _,by simp;omega,okW.rep _,by rw [lc];simp [wv],fun j _=>mb _ _⟩ (aD ⟨.refl _,.refl _,.refl _,.refl _,.refl _,trivial⟩ ⟨rfl,trivial⟩) ?_
 rintro ⟨o,i⟩ ⟨hi,hlo,ho,hv,hz⟩
 refine ae hP<|ab (bi rfl rfl)<|ag<|ao ?_
 refine az rfl (fun hb1=>?_) (fun hb1=>?_)
 ·have hb1_:=dT0 hb1
  have hlt0:i < a.length:=by omega
  refine au<|ao<|aA<|ae hP<|ak rfl<|cK ?_
  refine cH hT rfl rfl rfl ?_
  refine aj rfl<|aj rfl<|ag<|ae hP<|aj rfl<|ag<|ao<|ae hP<|ak rfl<|ab (aU hT rfl rfl rfl rfl)<|ak rfl<|ag<|aA ?_
  obtain ⟨o0,ho0⟩:∃ o0,o0=o:=⟨_,rfl⟩
  have hv0:=hv
  rw [← ho0] at hv
  refine bg (ι:=List Nat × Nat × Nat) (fun ⟨o,k,c⟩=>stL [(1,.p (.c (W b))),(5,.vec 17),(18,.p (.c (W a))),(19,Z ((a.length:Nat):Int)),(20,Z (i:Int)),(6,Z (i:Int)),(7,.p (.c (w32 (a.getD i 0)))),(8,.p (.c (.v (.int .u64 (c:Nat))))),(25,.p (.c (W b))),(26,Z ((b.length:Nat):Int)),(27,Z (k:Int))] [(17,WB 105 o)]) (fun ⟨o,k,c⟩=>k≤b.length∧o.length=a.length+b.length∧okW o∧c < 4294967296∧wv o+4294967296 ^ (i+k)*c=wv o0+4294967296 ^ i*(a.getD i 0*wv (b.take k))∧∀ j,i+b.length≤j→o.getD j 0=0) (fun ⟨_,k,_⟩=>b.length - k) (o,0,0) ⟨Nat.zero_le _,hlo,ho,by omega,by rw [ho0];simp [wv],hz⟩ (aD ⟨.refl _,.refl _,.refl _,.refl _,.refl _,.refl _,.refl _,.refl _,.refl _,.refl _,.refl _,trivial⟩ ⟨rfl,trivial⟩) ?_
  clear hlo ho hz hv0 ho0
  rintro ⟨o,k,c⟩ ⟨hk,hlo,ho,hc,hkv,hz⟩
  refine ae hP<|ab (bi rfl rfl)<|ag<|ao ?_
  refine az rfl (fun hb2=>?_) (fun hb2=>?_)
  ·have hb2_:=dT0 hb2
   have hlt:k < b.length:=by omega
   have ha1:=ha.getD i
   have hb1v:=hb.getD k
   have hp1:=Nat.mul_le_mul (Nat.le_sub_one_of_lt (ha.getD i)) (Nat.le_sub_one_of_lt (hb.getD k))
   have ho1:=ho.getD (i+k)
   refine au<|ao<|aA<|ae hP<|ak rfl<|cK ?_
   refine cH hT rfl rfl rfl ?_
   refine aj rfl<|aj rfl<|ag<|ae hP<|ak rfl<|ab (bl hT rfl rfl rfl rfl (cZ (by omega))) ?_
   refine ak rfl<|ab (bl hT rfl rfl rfl rfl (cZ (by omega))) ?_
   refine ab (bQ rfl rfl (c:=((a.getD i 0*b.getD k 0:Nat):Int)) (by rw [← Int.natCast_mul,cZ (by omega)])) ?_
   refine ab (aB (rfl:_=AV.vec _))<|ak rfl<|ak rfl<|ab (bL rfl rfl (c:=((i+k:Nat):Int)) (by rw [iW0 _ (by omega)];omega)) ?_
   refine de ?_
   refine ab (dy hT rfl rfl rfl rfl (by first | omega | (simp;omega)) rfl) ?_
   refine ab (bl hT rfl rfl rfl rfl (cZ (by omega))) ?_
   refine ab (bL rfl rfl (c:=((a.getD i 0*b.getD k 0+o.getD (i+k) 0:Nat):Int)) (by rw [← Int.natCast_add,cZ (by omega)])) ?_
   refine ak rfl<|ab (bL rfl rfl (c:=((a.getD i 0*b.getD k 0+o.getD (i+k) 0+c:Nat):Int)) (by rw [← Int.natCast_add,cZ (by omega)])) ?_
   refine aj rfl<|ag<|aw hP<|ab (aB (rfl:_=AV.vec _))<|ak rfl<|ak rfl<|ab (bL rfl rfl (c:=((i+k:Nat):Int)) (by rw [iW0 _ (by omega)];omega)) ?_
   refine ak rfl<|ab (bl hT rfl rfl rfl rfl (c:=(((a.getD i 0*b.getD k 0+o.getD (i+k) 0+c) % 4294967296:Nat):Int)) (by rw [IntKind.wrap_u32];omega)) ?_
   refine ak rfl<|ab (dh (j:=32) rfl rfl (by first | decide | omega)) ?_
   refine de ?_
   refine du ai (cw hT rfl rfl rfl rfl rfl (by first | omega | (simp;omega)) rfl) ?_
   refine aj rfl<|ag<|aw hP<|bv rfl rfl ?_
   refine ak rfl<|ag ?_
   have hr:=rO (b:=b) (x:=a.getD i 0) (i:=i) (k:=k) (t:=a.getD i 0*b.getD k 0+o.getD (i+k) 0+c) (by omega) rfl hkv
   refine ⟨(o.set (i+k) ((a.getD i 0*b.getD k 0+o.getD (i+k) 0+c) % 4294967296),k+1,(a.getD i 0*b.getD k 0+o.getD (i+k) 0+c) / 4294967296),⟨by omega,by simpa using hlo,ho.set (Nat.mod_lt _ (by omega)),(Nat.div_lt_iff_lt_mul (by omega)).2 (by omega),hr,fun j hj=>?_⟩,by show b.length - (k+1) < b.length - k;omega,aD ⟨.refl _,.refl _,.refl _,.refl _,.refl _,.refl _,.refl _,.refl _,.refl _,.refl _,.refl _,trivial⟩ ⟨rfl,trivial⟩⟩
   rw [fz _ _ _ _ (by omega),if_neg (by omega)]
   exact hz j (by omega)
  have hb2_:=dF0 hb2
  have hke:k=b.length:=by omega
  subst hke
  refine aZ<|aw hP<|ab (aB (rfl:_=AV.vec _))<|ak rfl<|ak rfl<|ab (aU hT rfl rfl rfl rfl)<|ab (bL rfl rfl (c:=((i+b.length:Nat):Int)) (by rw [iW0 _ (by omega)];omega)) ?_
  refine ak rfl<|ab (bl hT rfl rfl rfl rfl (kO (by omega))) ?_
  refine de ?_
  refine du ai (cw hT rfl rfl rfl rfl rfl (by first | omega | (simp;omega)) rfl) ?_
  refine ag<|aw hP<|bv rfl rfl ?_
  refine ak rfl<|ag ?_
  have hov:=rP (o:=o0) (a:=a) (by omega) (hz _ (Nat.le_refl _)) rfl hv hkv
  refine ⟨(o.set (i+b.length) c,i+1),⟨by omega,by simpa using hlo,ho.set (by omega),hov,fun j hj=>?_⟩,by show a.length - (i+1) < a.length - i;omega,aD ⟨.refl _,.refl _,.refl _,.refl _,.refl _,trivial⟩ ⟨rfl,trivial⟩⟩
  rw [fz _ _ _ _ (by omega),if_neg (by omega)]
  exact hz j (by omega)
 have hb1_:=dF0 hb1
 have hie:i=a.length:=by omega
 refine aZ<|cJ (t:=5) rfl rfl ?_
 refine ae hP<|ak rfl<|ab (ah (fg _ ho)) ?_
 refine aj rfl<|ag<|am<|E1 rfl rfl ?_
 exact aH (by rw [hv,hie,List.take_length])
end
section
open Go Go.AM
theorem qC (a:List Nat) (k:Nat) (ha:okW a) (hla:a.length≤1099511627776) (hk:k≤1099511627776) :
  aJ Tryz.prog 207 [.p (.c (W a)),Z (k:Int)] (.p (.c (nt (wv a*2 ^ k)))):=by
 refine aO Tryz.func207 rfl rfl rfl rfl ?_
 obtain ⟨q,hq⟩:∃ q,q=k / 32:=⟨_,rfl⟩
 obtain ⟨s,hs⟩:∃ s,s=k % 32:=⟨_,rfl⟩
 have hks:k=32*q+s:=by omega
 have hs32:s < 32:=by omega
 refine ae hP<|aj rfl<|ag<|ae hP<|ak rfl<|ab (aU hT rfl rfl rfl rfl)<|ak rfl<|ab (cO rfl rfl (by decide) (c:=((q:Nat):Int)) (by rw [Int.tdiv_eq_ediv_of_nonneg (by omega),iW0 _ (by omega)];omega)) ?_
 refine ab (bL rfl rfl (c:=((a.length+q:Nat):Int)) (by rw [iW0 _ (by omega)];omega)) ?_
 refine ab (bL rfl rfl (c:=((a.length+q+1:Nat):Int)) (by rw [iW0 _ (by omega)];omega)) ?_
 refine aq ai (eJ hT rfl rfl rfl rfl rfl rfl rfl rfl (by omega)) ?_
 refine ab (a7 (rfl:_=AV.vec _))<|ag<|ao<|ae hP<|ak rfl<|ab (aU hT rfl rfl rfl rfl)<|ak rfl<|ag<|aA<|bg (ι:=List Nat × Nat) (fun ⟨o,i⟩=>stL [(1,Z (k:Int)),(5,.vec 15),(16,.p (.c (W a))),(17,Z ((a.length:Nat):Int)),(18,Z (i:Int))] [(15,WB 105 o)]) (fun ⟨o,i⟩=>i≤a.length∧o.length=a.length+q+1∧okW o∧wv o=wv (a.take i)*2 ^ k∧o.getD (i+q) 0 < 2 ^ s∧∀ j,i+q < j→o.getD j 0=0) (fun ⟨_,i⟩=>a.length - i) (List.replicate ((a.length+q+1:Nat):Int).toNat 0,0) ⟨Nat.zero_le _,by simp;omega,okW.rep _,by rw [lc];simp [wv],by rw [mb];exact Nat.two_pow_pos s,fun j _=>mb _ _⟩ (aD ⟨.refl _,.refl _,.refl _,.refl _,.refl _,trivial⟩ ⟨rfl,trivial⟩) ?_
 rintro ⟨o,i⟩ ⟨hi,hlo,ho,hv,hlow,hz⟩
 refine ae hP<|ab (bi rfl rfl)<|ag<|ao ?_
 refine az rfl (fun hb1=>?_) (fun hb1=>?_)
 ·have hb1_:=dT0 hb1
  have hlt:i < a.length:=by omega
  have hai:=ha.getD i
  have hoi:=ho.getD (i+q)
  have hti:a.getD i 0*2 ^ s / 4294967296 < 4294967296:=za hai hs32
  refine au<|ao<|aA<|ae hP<|ak rfl<|cK ?_
  refine cH hT rfl rfl rfl ?_
  refine aj rfl<|aj rfl<|ag<|ae hP<|ak rfl<|ab (bl hT rfl rfl rfl rfl (cZ (by omega))) ?_
  refine ak rfl<|ab (bJ rfl rfl (by decide) (c:=((s:Nat):Int)) (by rw [Int.tmod_eq_emod_of_nonneg (by omega)];omega)) ?_
  refine ab (lq rfl rfl (by omega) (c:=((a.getD i 0*2 ^ s:Nat):Int)) (xq hai hs32)) ?_
  refine aj rfl<|ag<|ae hP<|ab (aB (rfl:_=AV.vec _))<|ak rfl<|ak rfl<|ab (cO rfl rfl (by decide) (c:=((q:Nat):Int)) (by rw [Int.tdiv_eq_ediv_of_nonneg (by omega),iW0 _ (by omega)];omega)) ?_
  refine ab (bL rfl rfl (c:=((i+q:Nat):Int)) (by rw [iW0 _ (by omega)];omega)) ?_
  refine de ?_
  refine ab (dy hT rfl rfl rfl rfl (by first | omega | (simp;omega)) rfl) ?_
  refine ak rfl<|ab (bl hT rfl rfl rfl rfl (c:=((a.getD i 0*2 ^ s % 4294967296:Nat):Int)) (by rw [IntKind.wrap_u32];omega)) ?_
  refine ab (mQ rfl rfl rfl (iP hoi) (iP (Nat.mod_lt _ (by omega)))) ?_
  refine de ?_
  refine du ai (cw hT rfl rfl rfl rfl rfl (by first | omega | (simp;omega)) rfl) ?_
  refine ag<|aw hP<|ab (aB (rfl:_=AV.vec _))<|ak rfl<|ak rfl<|ab (cO rfl rfl (by decide) (c:=((q:Nat):Int)) (by rw [Int.tdiv_eq_ediv_of_nonneg (by omega),iW0 _ (by omega)];omega)) ?_
  refine ab (bL rfl rfl (c:=((i+q:Nat):Int)) (by rw [iW0 _ (by omega)];omega)) ?_
  refine ab (bL rfl rfl (c:=((i+q+1:Nat):Int)) (by rw [iW0 _ (by omega)];omega)) ?_
  refine ak rfl<|ab (dh (j:=32) rfl rfl (by decide)) ?_
  refine ab (bl hT rfl rfl rfl rfl (c:=((a.getD i 0*2 ^ s / 4294967296:Nat):Int)) (kO hti)) ?_
  refine de ?_
  refine du ai (cw hT rfl rfl rfl rfl rfl (by first | omega | (simp;omega)) rfl) ?_
  refine ag<|aw hP<|bv rfl rfl ?_
  refine ak rfl<|ag ?_
  have hr:=y9 (a:=a) (x:=a.getD i 0) hks hs32 (by omega) rfl hlow (hz _ (by omega)) hv
  have hts:a.getD i 0*2 ^ s / 4294967296 < 2 ^ s:=by
   rw [Nat.div_lt_iff_lt_mul (by omega),Nat.mul_comm];exact Nat.mul_lt_mul_of_pos_left hai (Nat.two_pow_pos s)
  refine ⟨((o.set (i+q) (o.getD (i+q) 0 ||| a.getD i 0*2 ^ s % 4294967296)).set (i+q+1) (a.getD i 0*2 ^ s / 4294967296),i+1),⟨by omega,by simpa using hlo,(ho.set (Nat.or_lt_two_pow (n:=32) hoi (Nat.mod_lt _ (by omega)))).set hti,hr,?_,fun j hj=>?_⟩,by show a.length - (i+1) < a.length - i;omega,aD ⟨.refl _,.refl _,.refl _,.refl _,.refl _,trivial⟩ ⟨rfl,trivial⟩⟩
  ·rw [show i+1+q=i+q+1 by omega,fz _ _ _ _ (by simp;omega),if_pos rfl];exact hts
  rw [fz _ _ _ _ (by simp;omega),if_neg (by omega),fz _ _ _ _ (by omega),if_neg (by omega)]
  exact hz j (by omega)
 have hb1_:=dF0 hb1
 have hie:i=a.length:=by omega
 refine aZ<|cJ (t:=5) rfl rfl ?_
 refine ae hP<|ak rfl<|ab (ah (fg _ ho)) ?_
 refine aj rfl<|ag<|am<|E1 rfl rfl ?_
 exact aH (by rw [hv,hie,List.take_length])
theorem GF (a:List Nat) (k:Nat) (ha:okW a) (hla:a.length≤1099511627776) (hk:k < 32) :
  aJ Tryz.prog 208 [.p (.c (W a)),Z (k:Int)] (.p (.c (nt (wv a / 2 ^ k)))):=by
 refine aO Tryz.func208 rfl rfl rfl rfl ?_
 have h0l:(0:Nat)≤a.length:=Nat.zero_le _
 refine ae hP<|aj rfl<|ag<|ae hP<|ak rfl<|ab (aU hT rfl rfl rfl rfl)<|aq ai (eJ hT rfl rfl rfl rfl rfl rfl rfl rfl (by omega)) ?_
 refine ab (a7 (rfl:_=AV.vec _))<|ag<|ao<|ae hP<|ab (aB (rfl:_=AV.vec _))<|ab (ff hT rfl rfl rfl rfl)<|ak rfl<|ag<|aA<|bg (ι:=List Nat × Nat) (fun ⟨o,i⟩=>stL [(0,.p (.c (W a))),(1,Z (k:Int)),(5,.vec 10),(12,Z ((a.length:Nat):Int)),(13,Z (i:Int))] [(10,WB 105 o)]) (fun ⟨o,i⟩=>i≤a.length∧o.length=a.length∧∀ j,j < i→o.getD j 0=iY a k j) (fun ⟨_,i⟩=>a.length - i) (List.replicate ((a.length:Nat):Int).toNat 0,0) ⟨Nat.zero_le _,by simp,fun j hj=>by omega⟩ (aD ⟨.refl _,.refl _,.refl _,aM (by simp),.refl _,trivial⟩ ⟨rfl,trivial⟩) ?_
 rintro ⟨o,i⟩ ⟨hi,hlo,hv⟩
 refine ae hP<|ab (bi rfl rfl)<|ag<|ao ?_
 refine az rfl (fun hb1=>?_) (fun hb1=>?_)
 ·have hb1_:=dT0 hb1
  have hlt:i < a.length:=by omega
  have hai:=ha.getD i
  refine au<|ao<|aA<|ae hP<|ak rfl<|aj rfl<|ag<|ae hP<|ak rfl<|ak rfl<|cK ?_
  refine cH hT rfl rfl rfl ?_
  refine ab (bl hT rfl rfl rfl rfl (cZ (by omega))) ?_
  refine aj rfl<|ag<|cy (ι:=Unit) (fun _=>stL [(0,.p (.c (W a))),(1,Z (k:Int)),(5,.vec 10),(12,Z ((a.length:Nat):Int)),(13,Z (i:Int)),(6,Z (i:Int)),(7,.p (.c (.v (.int .u64 ((a.getD i 0+4294967296*a.getD (i+1) 0:Nat):Int)))))] [(10,WB 105 o)]) (fun _=>True) ?_ ?_
  ·refine ae hP<|ak rfl<|ab (bL rfl rfl (c:=((i+1:Nat):Int)) (by rw [iW0 _ (by omega)];omega)) ?_
   refine ak rfl<|ab (aU hT rfl rfl rfl rfl)<|ab (bi rfl rfl)<|ag ?_
   refine az rfl (fun hb2=>?_) (fun hb2=>?_)
   ·have hb2_:=dT0 hb2
    refine aw hP<|ak rfl<|ak rfl<|ak rfl<|ab (bL rfl rfl (c:=((i+1:Nat):Int)) (by rw [iW0 _ (by omega)];omega)) ?_
    refine cK ?_
    refine cH hT rfl rfl rfl ?_
    refine ab (bl hT rfl rfl rfl rfl (cZ (by have:=ha.getD (i+1);omega))) ?_
    refine ab (gZ (j:=32) rfl rfl (by decide) rfl) ?_
    refine ab (jX rfl rfl (c:=((a.getD i 0+4294967296*a.getD (i+1) 0:Nat):Int)) (by rw [nj hai (ha.getD (i+1))])) ?_
    refine aj rfl<|ag ?_
    exact ⟨(),trivial,aD ⟨.refl _,.refl _,.refl _,.refl _,.refl _,.refl _,.refl _,trivial⟩ ⟨rfl,trivial⟩⟩
   have hb2_:=dF0 hb2
   refine au ?_
   exact ⟨(),trivial,aD ⟨.refl _,.refl _,.refl _,.refl _,.refl _,.refl _,aM (by rw [qO (k:=i+1) (by omega)];omega),trivial⟩ ⟨rfl,trivial⟩⟩
  rintro _ -
  have hai2:=ha.getD (i+1)
  refine aw hP<|ab (aB (rfl:_=AV.vec _))<|ak rfl<|ak rfl<|ak rfl<|ab (dh (j:=k) rfl rfl (by show k≤64;omega)) ?_
  refine ab (bl hT rfl rfl rfl rfl (c:=((iY a k i:Nat):Int)) (by rw [IntKind.wrap_u32];unfold iY;omega)) ?_
  refine de ?_
  refine du ai (cw hT rfl rfl rfl rfl rfl (by first | omega | (simp;omega)) rfl) ?_
  refine ag<|aw hP<|bv rfl rfl ?_
  refine ak rfl<|ag ?_
  refine ⟨(o.set i (iY a k i),i+1),⟨by omega,by simpa using hlo,fun j hj=>?_⟩,by show a.length - (i+1) < a.length - i;omega,aD ⟨.refl _,.refl _,.refl _,.refl _,.refl _,trivial⟩ ⟨rfl,trivial⟩⟩
  rw [fz _ _ _ _ (by omega)]
  split
  ·subst_vars;rfl
  exact hv j (by omega)
 have hb1_:=dF0 hb1
 have hie:i=a.length:=by omega
 have hoe:=FG (hie ▸ hv) hlo
 have hook:=IW a k
 refine aZ<|cJ (t:=5) rfl rfl ?_
 refine ae hP<|ak rfl<|ab (ah (fg _ (hoe ▸ hook))) ?_
 refine aj rfl<|ag<|am<|E1 rfl rfl ?_
 exact aH (by rw [hoe,vU k hk a ha])
theorem vB (a:List Nat) (d:Nat) (ha:okW a) (hla:a.length≤1099511627776) (hd:0 < d) (hd2:d < 4294967296) :
  aJ Tryz.prog 205 [.p (.c (W a)),.p (.c (w32 d))] (.t [.c (nt (wv a / d)),.c (w32 (wv a % d))]):=by
 refine aO Tryz.func205 rfl rfl rfl rfl ?_
 have h0l:(0:Nat)≤a.length:=Nat.zero_le _
 refine ae hP<|aj rfl<|aj rfl<|ag<|ae hP<|ak rfl<|ab (aU hT rfl rfl rfl rfl)<|aq ai (eJ hT rfl rfl rfl rfl rfl rfl rfl rfl (by omega)) ?_
 refine ab (a7 (rfl:_=AV.vec _))<|ag<|ae hP<|aj rfl<|ag<|ao<|ae hP<|ak rfl<|ab (aU hT rfl rfl rfl rfl)<|ab (bD rfl rfl (by first | exact iW0 _ (by omega) | rfl)) ?_
 refine aj rfl<|ag<|aA<|bg (ι:=List Nat × Nat × Nat) (fun ⟨o,i,r⟩=>stL [(0,.p (.c (W a))),(1,.p (.c (w32 d))),(6,.vec 11),(7,.p (.c (w32 r))),(8,Z ((i:Int) - 1))] [(11,WB 105 o)]) (fun ⟨o,i,r⟩=>i≤a.length∧o.length=a.length∧okW o∧r < d∧wv (a.drop i)=d*wv (o.drop i)+r) (fun ⟨_,i,_⟩=>i) (List.replicate ((a.length:Nat):Int).toNat 0,a.length,0) ⟨Nat.le_refl _,by simp,okW.rep _,hd,by simp [wv]⟩ (aD ⟨.refl _,.refl _,.refl _,.refl _,.refl _,trivial⟩ ⟨rfl,trivial⟩) ?_
 rintro ⟨o,i,r⟩ ⟨hi,hlo,ho,hr,hv⟩
 refine ao<|ae hP<|ak rfl<|ab (dm rfl rfl)<|ag ?_
 refine az rfl (fun hb1=>?_) (fun hb1=>?_)
 ·have hb1_:=dT0 hb1
  obtain ⟨i,rfl⟩:∃ k,i=k+1:=⟨i - 1,by omega⟩
  have hc:((i+1:Nat):Int) - 1=(i:Int):=by omega
  have hai:=ha.getD i
  have hq:(r*4294967296+a.getD i 0) / d < 4294967296:=(Nat.div_lt_iff_lt_mul hd).2 (by have:(r+1)*4294967296≤d*4294967296:=Nat.mul_le_mul_right _ hr;omega)
  refine dq (t:=stL [(0,.p (.c (W a))),(1,.p (.c (w32 d))),(6,.vec 11),(7,.p (.c (w32 r))),(8,Z (i:Int))] [(11,WB 105 o)]) (aD ⟨.refl _,.refl _,.refl _,.refl _,aM hc,trivial⟩ ⟨rfl,trivial⟩) ?_
  refine au<|ao<|aA<|aw hP<|ab (aB (rfl:_=AV.vec _))<|ak rfl<|ak rfl<|ak rfl<|ak rfl<|cK ?_
  refine cH hT rfl rfl rfl ?_
  refine ak rfl<|ab (ah (Mz _ _ _ hd2 hr hai)) ?_
  refine ab (aB (rfl:_=AV.t _))<|ab (aE rfl (v:=.c _) rfl)<|ab (aE rfl (v:=.c _) rfl)<|de ?_
  refine du ai (cw hT rfl rfl rfl rfl rfl (by first | omega | (simp;omega)) rfl) ?_
  refine aj rfl<|ag<|aw hP<|ak rfl<|ab (bD rfl rfl (by first | exact iW0 _ (by omega) | rfl)) ?_
  refine aj rfl<|ag ?_
  refine ⟨(o.set i ((r*4294967296+a.getD i 0) / d),i,(r*4294967296+a.getD i 0) % d),⟨by omega,by simpa using hlo,ho.set hq,Nat.mod_lt _ hd,yw (by omega) hlo hv hd⟩,by show i < i+1;omega,aD ⟨.refl _,.refl _,.refl _,.refl _,aM (by omega),trivial⟩ ⟨rfl,trivial⟩⟩
 have hb1_:=dF0 hb1
 have hie:i=0:=by omega
 subst hie
 refine aZ<|cJ (t:=6) rfl rfl ?_
 refine ae hP<|ak rfl<|ab (ah (fg _ ho)) ?_
 refine ak rfl<|aj rfl<|aj rfl<|ag<|am<|E11 rfl rfl rfl ?_
 rw [List.drop_zero,List.drop_zero] at hv
 have e1:wv a / d=wv o:=by rw [hv,Nat.mul_add_div hd,Nat.div_eq_of_lt hr,Nat.add_zero]
 have e2:wv a % d=r:=by rw [hv,Nat.mul_add_mod,Nat.mod_eq_of_lt hr]
 exact aH (by rw [e1,e2])
end
section
open Go Go.AM
theorem GH (a b:Nat) (hla:(wl a).length≤1099511627776) (hb:0 < b) :
  aJ Tryz.prog 171 [.p (.c (nt a)),.p (.c (nt b))] (.t [.c (nt (a / b)),.c (nt (a % b))]):=by
 refine aO Tryz.func171 rfl rfl rfl rfl ?_
 have h0l:(0:Nat)≤(wl a).length:=Nat.zero_le _
 have hbl:=dx b
 refine ae hP<|aj rfl<|aj rfl<|ag<|ao<|ae hP<|ak rfl<|ak rfl<|ab (ah (qD a b)) ?_
 refine ab (bi rfl rfl)<|ag ?_
 refine az rfl (fun hb1=>?_) (fun hb1=>?_)
 ·have hb1_:=dT0 hb1
  have hlt:a < b:=by
   unfold bA at *;split at * <;> first | omega | (split at * <;> omega)
  refine ae hP<|ak rfl<|aj rfl<|aj rfl<|ag<|am<|E11 rfl rfl rfl ?_
  exact Sub.tup ⟨fun _ _ h=>DSub.of_eq (by rw [Nat.div_eq_of_lt hlt];rfl) _ _ (DSub.nil_sl _ _ h),DSub.of_eq (by rw [Nat.mod_eq_of_lt hlt]),trivial⟩
 have hb1_:=dF0 hb1
 have hab:b≤a:=by
  unfold bA at *;split at * <;> first | omega | (split at * <;> omega)
 have hll:=fH hab
 refine au<|ao<|ae hP<|ak rfl<|ab (aU hT rfl rfl rfl rfl)<|ab (bh rfl rfl)<|ag ?_
 refine az rfl (fun hb2=>?_) (fun hb2=>?_)
 ·have hb2_:=bT hb2
  have h1:(wl b).length=1:=by omega
  have hd2:=(bG b).getD 0
  have hbe:b=(wl b).getD 0 0:=by
   have:=nP (n:=0) h1
   rw [bH] at this;simpa [wv] using this
  have hmod:wv (wl a) % (wl b).getD 0 0 < 4294967296:=Nat.lt_trans (Nat.mod_lt _ (by omega)) hd2
  have hr1:okW [wv (wl a) % (wl b).getD 0 0]:=by intro x hx;rw [List.mem_singleton.1 hx];exact hmod
  have hd1:0 < (wl b).getD 0 0:=by omega
  have hdiv:a / (wl b).getD 0 0=a / b∧a % (wl b).getD 0 0=a % b:=by rw [← hbe];exact ⟨rfl,rfl⟩
  refine ae hP<|ak rfl<|ak rfl<|cK ?_
  refine cH hT rfl rfl rfl ?_
  refine ab (ah (vB (wl a) ((wl b).getD 0 0) (bG a) hla hd1 hd2)) ?_
  refine ab (aB (rfl:_=AV.t _))<|ab (aE rfl (v:=.c _) rfl)<|ab (aE rfl (v:=.c _) rfl)<|aj rfl<|aj rfl<|ag<|ae hP<|ak rfl<|ak rfl<|ab (bd hT rfl rfl rfl (es:=[_]) rfl rfl rfl)<|ab (ah (fg [_] hr1)) ?_
  refine aj rfl<|aj rfl<|ag<|am<|E11 rfl rfl rfl ?_
  exact aH (by rw [bH,hdiv.1,hdiv.2];simp [wv])
 have hb2_:=bF hb2
 obtain ⟨k,hk⟩:∃ k,(wl b).length=k+1+1:=by
  refine ⟨(wl b).length - 2,?_⟩
  have:(wl b).length≠0:=by intro h;rw [h] at hbl;omega
  omega
 obtain ⟨s,hs⟩:∃ s,s=32 - bn ((wl b).getD (k+1) 0):=⟨_,rfl⟩
 obtain ⟨hn1,hn2,hs32,hbp⟩:=ya hk hs
 have hb3:bn ((wl b).getD (k+1) 0)≤32:=gx (k:=32) (by simpa using (bG b).getD (k+1))
 have hsl:=FI (m:=a) hs32
 have hva:=bH a
 have hvb:=bH b
 obtain ⟨v,hv⟩:∃ v,v=wl (b*2 ^ s):=⟨_,rfl⟩
 obtain ⟨x,hx⟩:∃ x,x=wl (a*2 ^ s):=⟨_,rfl⟩
 have okv:okW v:=hv ▸ bG _
 have okx:okW x:=hx ▸ bG _
 have hwv:wv v=b*2 ^ s:=by rw [hv,bH]
 have hwx:wv x=a*2 ^ s:=by rw [hx,bH]
 have cb:aJ Tryz.prog 207 [.p (.c (nt b)),Z (s:Int)] (.p (.c (W v))):=by
  have:=qC (wl b) s (bG b) (by omega) (by omega)
  rw [hvb] at this;rw [hv];exact this
 have ca:aJ Tryz.prog 207 [.p (.c (nt a)),Z (s:Int)] (.p (.c (W x))):=by
  have:=qC (wl a) s (bG a) (by omega) (by omega)
  rw [hva] at this;rw [hx];exact this
 rw [← hv] at hn1 hn2
 rw [← hx] at hsl
 obtain ⟨u0,hu0⟩:∃ u0,u0=x ++ (List.replicate ((((wl a).length:Nat):Int)+1).toNat 0).drop x.length:=⟨_,rfl⟩
 have hu0l:u0.length=(wl a).length+1:=by rw [hu0];simp;omega
 have oku0:okW u0:=by rw [hu0];exact okx.app ((okW.rep _).drop _)
 have hwu0:wv u0=a*2 ^ s:=by
  rw [hu0,fS,List.drop_replicate,lc,Nat.mul_zero,Nat.add_zero,hwx]
 refine au<|ae hP<|ak rfl<|ak rfl<|ab (aU hT rfl rfl rfl rfl)<|ab (bD rfl rfl (c:=((k+1:Nat):Int)) (by rw [iW0 _ (by omega)];omega)) ?_
 refine cK ?_
 refine cH hT rfl rfl rfl ?_
 refine ab (ah (Ns _ ((bG b).getD _))) ?_
 refine aj rfl<|ag<|dq (t:=stL [(0,.p (.c (nt a))),(1,.p (.c (nt b))),(8,Z (s:Int))] []) (aD ⟨.refl _,.refl _,aM (by omega),trivial⟩ trivial) ?_
 refine ae hP<|ak rfl<|ak rfl<|ab (ah cb) ?_
 refine aj rfl<|ag<|ae hP<|ak rfl<|ab (aU hT rfl rfl rfl rfl)<|aj rfl<|ag<|ae hP<|ak rfl<|ab (aU hT rfl rfl rfl rfl)<|bv rfl rfl ?_
 refine aq ai (eJ hT rfl rfl rfl rfl rfl rfl rfl rfl (by omega)) ?_
 refine ab (a7 (rfl:_=AV.vec _))<|ag<|ae hP<|ab (aB (rfl:_=AV.vec _))<|ak rfl<|ak rfl<|ab (ah ca) ?_
 refine RK.mut ai (mR hT rfl rfl rfl rfl rfl rfl rfl (by simp;omega) (ws':=u0) hu0.symm) ?_
 refine ag<|ae hP<|ab (aB (rfl:_=AV.vec _))<|ab (ff hT rfl rfl rfl rfl)<|ak rfl<|ab (bD rfl rfl (c:=(((wl a).length+1 - (k+2):Nat):Int)) (by rw [iW0 _ (by rw [hu0l];omega),hu0l];omega)) ?_
 refine aq ai (eJ hT rfl rfl rfl rfl rfl rfl rfl rfl (by omega)) ?_
 refine ab (a7 (rfl:_=AV.vec _))<|ag<|ao<|ae hP<|ab (aB (rfl:_=AV.vec _))<|ab (ff hT rfl rfl rfl rfl)<|ab (bD rfl rfl (c:=(((wl a).length+1 - (k+2):Nat):Int) - 1) (by simp only [List.length_replicate,Int.toNat_natCast];exact iW0 _ (by omega))) ?_
 refine aj rfl<|ag<|aA<|bg (ι:=List Nat × List Nat × Nat) (fun ⟨u,q,i⟩=>stL [(8,Z (s:Int)),(9,.p (.c (W v))),(10,Z ((k+2:Nat):Int)),(11,.vec 60),(12,.vec 70),(13,Z ((i:Int) - 1))] [(60,WB 105 u),(70,WB 105 q)]) (fun ⟨u,q,i⟩=>u.length=(wl a).length+1∧okW u∧q.length=(wl a).length+1 - (k+2)∧okW q∧i≤q.length∧wv (u.drop i) < wv v∧a*2 ^ s=wv v*(4294967296 ^ i*wv (q.drop i))+wv u) (fun ⟨_,_,i⟩=>i) (u0,List.replicate (((wl a).length+1 - (k+2):Nat):Int).toNat 0,(wl a).length+1 - (k+2)) ⟨hu0l,oku0,by simp,okW.rep _,by simp,by rw [hwv];exact Aj hwu0 hu0l hbp (by omega),by rw [hwu0,List.drop_replicate,lc];simp⟩ (aD ⟨.refl _,.refl _,aM (by omega),.refl _,.refl _,.refl _,trivial⟩ ⟨rfl,rfl,trivial⟩) ?_
 rintro ⟨u,q,i⟩ ⟨hlu,hok,hlq,hqok,hi,hlow,hM⟩
 have hiq:=hi
 refine ao<|ae hP<|ak rfl<|ab (dm rfl rfl)<|ag ?_
 refine az rfl (fun hb3=>?_) (fun hb3=>?_)
 ·have hb3_:=dT0 hb3
  obtain ⟨j,rfl⟩:∃ k,i=k+1:=⟨i - 1,by omega⟩
  have hc:((j+1:Nat):Int) - 1=(j:Int):=by omega
  have dg:Dig v u k j:=⟨hn1,okv,hn2,hok,by omega,hlow⟩
  have hq1:=hok.getD (j+k+2)
  have hq2:=hok.getD (j+k+1)
  have hq3:=hok.getD (j+k)
  have hv1:=okv.getD (k+1)
  have hv2:=okv.getD k
  have hN64:(u.getD (j+k+2) 0*4294967296+u.getD (j+k+1) 0) < 18446744073709551616:=by omega
  have hdl:(u.getD (j+k+2) 0*4294967296+u.getD (j+k+1) 0) / v.getD (k+1) 0≤(u.getD (j+k+2) 0*4294967296+u.getD (j+k+1) 0):=Nat.div_le_self _ _
  have hml:(u.getD (j+k+2) 0*4294967296+u.getD (j+k+1) 0) % v.getD (k+1) 0 < v.getD (k+1) 0:=Nat.mod_lt _ (by omega)
  refine dq (t:=stL [(8,Z (s:Int)),(9,.p (.c (W v))),(10,Z ((k+2:Nat):Int)),(11,.vec 60),(12,.vec 70),(13,Z ((j:Nat):Int))] [(60,WB 105 u),(70,WB 105 q)]) (aD ⟨.refl _,.refl _,.refl _,.refl _,.refl _,aM hc,trivial⟩ ⟨rfl,rfl,trivial⟩) ?_
  refine au<|ao<|aA<|ae hP<|ab (aB (rfl:_=AV.vec _))<|ak rfl<|ak rfl<|ab (bL rfl rfl (c:=((j+k+2:Nat):Int)) (by rw [iW0 _ (by omega)];omega)) ?_
  refine de ?_
  refine ab (dy hT rfl rfl rfl rfl (by first | omega | (simp;omega)) rfl) ?_
  refine ab (bl hT rfl rfl rfl rfl (cZ (by omega))) ?_
  refine ab (gZ (j:=32) rfl rfl (by first | decide | omega) rfl) ?_
  refine ab (aB (rfl:_=AV.vec _))<|ak rfl<|ak rfl<|ab (bL rfl rfl (c:=((j+k+2:Nat):Int)) (by rw [iW0 _ (by omega)];omega)) ?_
  refine ab (bD rfl rfl (c:=((j+k+1:Nat):Int)) (by rw [iW0 _ (by omega)];omega)) ?_
  refine de ?_
  refine ab (dy hT rfl rfl rfl rfl (by first | omega | (simp;omega)) rfl) ?_
  refine ab (bl hT rfl rfl rfl rfl (cZ (by omega))) ?_
  refine ab (jX rfl rfl (nk hq1 hq2)) ?_
  refine aj rfl<|ag<|ae hP<|ak rfl<|ak rfl<|ak rfl<|ab (bD rfl rfl (c:=((k+1:Nat):Int)) (by rw [iW0 _ (by omega)];omega)) ?_
  refine cK ?_
  refine cH hT rfl rfl rfl ?_
  refine ab (bl hT rfl rfl rfl rfl (cZ (by omega))) ?_
  refine ab (cO rfl rfl (by omega) (c:=(((u.getD (j+k+2) 0*4294967296+u.getD (j+k+1) 0) / v.getD (k+1) 0:Nat):Int)) (by rw [Int.tdiv_eq_ediv_of_nonneg (by omega),← Int.natCast_ediv,cZ (by omega)])) ?_
  refine ak rfl<|ak rfl<|ak rfl<|ab (bD rfl rfl (c:=((k+1:Nat):Int)) (by rw [iW0 _ (by omega)];omega)) ?_
  refine cK ?_
  refine cH hT rfl rfl rfl ?_
  refine ab (bl hT rfl rfl rfl rfl (cZ (by omega))) ?_
  refine ab (bJ rfl rfl (by omega) (c:=(((u.getD (j+k+2) 0*4294967296+u.getD (j+k+1) 0) % v.getD (k+1) 0:Nat):Int)) (by rw [Int.tmod_eq_emod_of_nonneg (by omega),← Int.natCast_emod])) ?_
  refine aj rfl<|aj rfl<|ag<|cy (ι:=Nat) (fun g=>stL [(8,Z (s:Int)),(9,.p (.c (W v))),(10,Z ((k+2:Nat):Int)),(11,.vec 60),(12,.vec 70),(13,Z ((j:Nat):Int)),(15,.p (.c (.v (.int .u64 ((g:Nat):Int)))))] [(60,WB 105 u),(70,WB 105 q)]) (fun g=>g < 4294967296∧dE v u j≤g∧g≤dE v u j+1) ?_ ?_
  ·refine aA<|bg (ι:=Nat × Nat) (fun ⟨g,r⟩=>stL [(8,Z (s:Int)),(9,.p (.c (W v))),(10,Z ((k+2:Nat):Int)),(11,.vec 60),(12,.vec 70),(13,Z ((j:Nat):Int)),(15,.p (.c (.v (.int .u64 ((g:Nat):Int))))),(16,.p (.c (.v (.int .u64 ((r:Nat):Int)))))] [(60,WB 105 u),(70,WB 105 q)]) (fun ⟨g,r⟩=>g*v.getD (k+1) 0+r=(u.getD (j+k+2) 0*4294967296+u.getD (j+k+1) 0)∧r < 4294967296∧g < 18446744073709551616∧dE v u j≤g) (fun ⟨g,_⟩=>g) ((u.getD (j+k+2) 0*4294967296+u.getD (j+k+1) 0) / v.getD (k+1) 0,(u.getD (j+k+2) 0*4294967296+u.getD (j+k+1) 0) % v.getD (k+1) 0) ⟨by rw [Nat.mul_comm];exact Nat.div_add_mod _ _,by omega,by omega,dg.init⟩ (aD ⟨.refl _,.refl _,.refl _,.refl _,.refl _,.refl _,.refl _,.refl _,trivial⟩ ⟨rfl,rfl,trivial⟩) ?_
   rintro ⟨g,r⟩ ⟨hg,hr,hg64,hdq⟩
   refine ao<|ae hP<|ak rfl<|ab (bK rfl rfl)<|ak rfl ?_
   refine aW (t:=113) rfl (fun hg4=>?_) (fun hg4=>?_)
   ·have hg4_:=dT0 hg4
    have hdec:dE v u j < g:=dg.dec hg (Or.inl (by omega))
    have hstep:(g - 1)*v.getD (k+1) 0+(r+v.getD (k+1) 0)=(u.getD (j+k+2) 0*4294967296+u.getD (j+k+1) 0):=by
     rw [← hg,← Nat.add_assoc,Nat.add_right_comm,← Nat.succ_mul,show (g - 1).succ=g by omega]
    iterate 20 refine aX hg4 ?_
    refine ab (aN rfl hg4 (rfl:_=AV.p (.c _)))<|ag<|aV rfl rfl<|au<|aA<|ae hP<|ak rfl<|ab (bD rfl rfl (c:=((g - 1:Nat):Int)) (by rw [IntWalk.u64_in _ (by omega)];omega)) ?_
    refine aj rfl<|ag<|ae hP<|ak rfl<|ak rfl<|ak rfl<|ab (bD rfl rfl (c:=((k+1:Nat):Int)) (by rw [iW0 _ (by omega)];omega)) ?_
    refine cK ?_
    refine cH hT rfl rfl rfl ?_
    refine ab (bl hT rfl rfl rfl rfl (cZ (by omega))) ?_
    refine ab (bL rfl rfl (c:=((r+v.getD (k+1) 0:Nat):Int)) (by rw [IntWalk.u64_in _ (by omega)];omega)) ?_
    refine aj rfl<|ag<|ae hP<|ak rfl<|ab (bK rfl rfl)<|ag ?_
    refine az rfl (fun hb5=>?_) (fun hb5=>?_)
    ·have hb5_:=dT0 hb5
     have hex:=dg.exit hstep (Or.inr (by omega))
     refine aZ ?_
     exact ⟨g - 1,⟨hex.1,by omega,hex.2⟩,(aD ⟨.refl _,.refl _,.refl _,.refl _,.refl _,.refl _,.refl _,trivial⟩ ⟨rfl,rfl,trivial⟩)⟩
    have hb5_:=dF0 hb5
    refine au ?_
    exact ⟨(g - 1,r+v.getD (k+1) 0),⟨hstep,by omega,by omega,by omega⟩,by show g - 1 < g;omega,(aD ⟨.refl _,.refl _,.refl _,.refl _,.refl _,.refl _,.refl _,.refl _,trivial⟩ ⟨rfl,rfl,trivial⟩)⟩
   have hg4_:=dF0 hg4
   have hgB:g < 4294967296:=by omega
   have hp2:=Nat.mul_le_mul (Nat.le_sub_one_of_lt hgB) (Nat.le_sub_one_of_lt hv2)
   iterate 3 refine ay hg4 (aB (rfl:_=AV.p (.c _))) ?_
   refine ay hg4 (bD rfl rfl (c:=((k:Nat):Int)) (by rw [iW0 _ (by omega)];omega)) ?_
   refine ay hg4 (by first | exact en hT rfl rfl rfl rfl rfl rfl (by omega) | exact b6 hT rfl rfl rfl rfl rfl rfl (by omega) (by first | exact gB (by omega) | simp)) ?_
   refine ay hg4 (bI hT rfl rfl rfl (by first | rfl | exact kN (by omega))) ?_
   refine ay hg4 (bl hT rfl rfl rfl rfl (cZ (by omega))) ?_
   refine ay hg4 (bQ rfl rfl (c:=((g*v.getD k 0:Nat):Int)) (by rw [← Int.natCast_mul,cZ (by omega)])) ?_
   refine ay hg4 (aB (rfl:_=AV.p (.c _))) ?_
   refine ay hg4 (gZ (j:=32) rfl rfl (by first | decide | omega) rfl) ?_
   refine ay hg4 (aB (rfl:_=AV.vec _)) ?_
   refine ay hg4 (aB (rfl:_=AV.p (.c _))) ?_
   refine ay hg4 (aB (rfl:_=AV.p (.c _))) ?_
   refine ay hg4 (bL rfl rfl (c:=((j+k+2:Nat):Int)) (by rw [iW0 _ (by omega)];omega)) ?_
   refine ay hg4 (bD rfl rfl (c:=((j+k:Nat):Int)) (by rw [iW0 _ (by omega)];omega)) ?_
   refine ay hg4 (by first | exact gr hT rfl rfl rfl rfl rfl rfl rfl (by first | omega | (simp;omega)) | exact fD hT rfl rfl rfl rfl rfl rfl rfl (by first | omega | (simp;omega))) ?_
   refine ay hg4 (dy hT rfl rfl rfl rfl (by first | omega | (simp;omega)) rfl) ?_
   refine ay hg4 (bl hT rfl rfl rfl rfl (cZ (by omega))) ?_
   refine ay hg4 (jX rfl rfl (nk hr hq3)) ?_
   refine ay hg4 (bK rfl rfl) ?_
   refine ab (aK rfl hg4 (rfl:_=AV.p (.c _)))<|ag ?_
   refine az rfl (fun hb6=>?_) (fun hb6=>?_)
   ·have hb6_:=dT0 hb6
    have hdec:dE v u j < g:=dg.dec hg (Or.inr (Int.ofNat_lt.1 (by assumption)))
    have hstep:(g - 1)*v.getD (k+1) 0+(r+v.getD (k+1) 0)=(u.getD (j+k+2) 0*4294967296+u.getD (j+k+1) 0):=by
     rw [← hg,← Nat.add_assoc,Nat.add_right_comm,← Nat.succ_mul,show (g - 1).succ=g by omega]
    refine au<|aA<|ae hP<|ak rfl<|ab (bD rfl rfl (c:=((g - 1:Nat):Int)) (by rw [IntWalk.u64_in _ (by omega)];omega)) ?_
    refine aj rfl<|ag<|ae hP<|ak rfl<|ak rfl<|ak rfl<|ab (bD rfl rfl (c:=((k+1:Nat):Int)) (by rw [iW0 _ (by omega)];omega)) ?_
    refine cK ?_
    refine cH hT rfl rfl rfl ?_
    refine ab (bl hT rfl rfl rfl rfl (cZ (by omega))) ?_
    refine ab (bL rfl rfl (c:=((r+v.getD (k+1) 0:Nat):Int)) (by rw [IntWalk.u64_in _ (by omega)];omega)) ?_
    refine aj rfl<|ag<|ae hP<|ak rfl<|ab (bK rfl rfl)<|ag ?_
    refine az rfl (fun hb7=>?_) (fun hb7=>?_)
    ·have hb7_:=dT0 hb7
     have hex:=dg.exit hstep (Or.inr (by omega))
     refine aZ ?_
     exact ⟨g - 1,⟨hex.1,by omega,hex.2⟩,(aD ⟨.refl _,.refl _,.refl _,.refl _,.refl _,.refl _,.refl _,trivial⟩ ⟨rfl,rfl,trivial⟩)⟩
    have hb7_:=dF0 hb7
    refine au ?_
    exact ⟨(g - 1,r+v.getD (k+1) 0),⟨hstep,by omega,by omega,by omega⟩,by show g - 1 < g;omega,(aD ⟨.refl _,.refl _,.refl _,.refl _,.refl _,.refl _,.refl _,.refl _,trivial⟩ ⟨rfl,rfl,trivial⟩)⟩
   have hb6_:=dF0 hb6
   have hex:=dg.exit hg (Or.inl ⟨by omega,by omega⟩)
   refine aZ ?_
   exact ⟨g,⟨hex.1,hdq,hex.2⟩,(aD ⟨.refl _,.refl _,.refl _,.refl _,.refl _,.refl _,.refl _,trivial⟩ ⟨rfl,rfl,trivial⟩)⟩
  rintro g ⟨hgB,hg1,hg2⟩
  refine ae hP<|aj rfl<|ag<|ae hP<|aj rfl<|ag<|ao<|ae hP<|ak rfl<|ab (aU hT rfl rfl rfl rfl)<|ak rfl<|ag<|aA<|bg (ι:=List Nat × Nat × Nat × Nat) (fun ⟨o,i,c,e⟩=>stL [(8,Z (s:Int)),(9,.p (.c (W v))),(10,Z ((k+2:Nat):Int)),(11,.vec 60),(12,.vec 70),(13,Z ((j:Nat):Int)),(15,.p (.c (.v (.int .u64 ((g:Nat):Int))))),(17,.p (.c (.v (.int .u64 ((c:Nat):Int))))),(18,.p (.c (w32 (e)))),(147,.p (.c (W v))),(148,Z ((v.length:Nat):Int)),(149,Z ((i:Nat):Int))] [(60,WB 105 o),(70,WB 105 q)]) (fun ⟨o,i,c,e⟩=>i≤v.length∧o.length=u.length∧okW o∧c < 4294967296∧e < 2∧o.drop (j+k+3)=u.drop (j+k+3)∧wv o+4294967296 ^ j*(g*wv (v.take i))=wv u+4294967296 ^ (j+i)*(c+e)) (fun ⟨_,i,_,_⟩=>v.length - i) (u,0,0,0) ⟨Nat.zero_le _,rfl,hok,by omega,by omega,rfl,by simp [wv]⟩ (aD ⟨.refl _,.refl _,.refl _,.refl _,.refl _,.refl _,.refl _,.refl _,.refl _,.refl _,.refl _,.refl _,trivial⟩ ⟨rfl,rfl,trivial⟩) ?_
  rintro ⟨o,i,c,e⟩ ⟨hi,hlo,ho,hc,he,hd,hS⟩
  refine ae hP<|ab (bi rfl rfl)<|ag<|ao ?_
  refine az rfl (fun hb8=>?_) (fun hb8=>?_)
  ·have hb8_:=dT0 hb8
   have hlt:i < v.length:=by omega
   have hvi:=okv.getD i
   have hp1:=Nat.mul_le_mul (Nat.le_sub_one_of_lt hgB) (Nat.le_sub_one_of_lt (okv.getD i))
   have htB:(g*v.getD i 0+c) / 4294967296 < 4294967296:=(Nat.div_lt_iff_lt_mul (by omega)).2 (by omega)
   refine au<|ao<|aA<|ae hP<|ak rfl<|cK ?_
   refine cH hT rfl rfl rfl ?_
   refine aj rfl<|aj rfl<|ag<|ae hP<|ak rfl<|ak rfl<|ab (bl hT rfl rfl rfl rfl (cZ (by omega))) ?_
   refine ab (bQ rfl rfl (c:=((g*v.getD i 0:Nat):Int)) (by rw [← Int.natCast_mul,cZ (by omega)])) ?_
   refine ak rfl<|ab (bL rfl rfl (c:=((g*v.getD i 0+c:Nat):Int)) (by rw [← Int.natCast_add,cZ (by omega)])) ?_
   refine aj rfl<|ag<|ae hP<|ak rfl<|ab (dh (j:=32) rfl rfl (by first | decide | omega)) ?_
   refine aj rfl<|ag<|aw hP<|ab (aB (rfl:_=AV.vec _))<|ak rfl<|ak rfl<|ab (bL rfl rfl (c:=((j+i:Nat):Int)) (by rw [iW0 _ (by omega)];omega)) ?_
   refine ab (aB (rfl:_=AV.vec _))<|ak rfl<|ak rfl<|ab (bL rfl rfl (c:=((j+i:Nat):Int)) (by rw [iW0 _ (by omega)];omega)) ?_
   refine de ?_
   refine ab (dy hT rfl rfl rfl rfl (by first | omega | (simp;omega)) rfl) ?_
   refine ak rfl<|ab (bl hT rfl rfl rfl rfl (c:=(((g*v.getD i 0+c) % 4294967296:Nat):Int)) (by rw [IntKind.wrap_u32];omega)) ?_
   refine ak rfl<|ab (ah (xk _ _ _ (ho.getD _) (Nat.mod_lt _ (by omega)) he)) ?_
   refine ab (aB (rfl:_=AV.t _))<|ab (aE rfl (v:=.c _) rfl)<|ab (aE rfl (v:=.c _) rfl)<|de ?_
   refine du ai (cw hT rfl rfl rfl rfl rfl (by first | omega | (simp;omega)) rfl) ?_
   refine aj rfl<|ag<|aw hP<|bv rfl rfl ?_
   refine ak rfl<|ag ?_
   have hr:=yc (v:=v) (g:=g) (by omega) ho he rfl hS
   exact ⟨(o.set (j+i) ((o.getD (j+i) 0+8589934592 - (g*v.getD i 0+c) % 4294967296 - e) % 4294967296),i+1,(g*v.getD i 0+c) / 4294967296,if o.getD (j+i) 0 < (g*v.getD i 0+c) % 4294967296+e then 1 else 0),⟨by omega,by simpa using hlo,ho.set (Nat.mod_lt _ (by omega)),htB,by split <;> omega,by rw [List.drop_set_of_lt (by omega)];exact hd,hr⟩,by show v.length - (i+1) < v.length - i;omega,(aD ⟨.refl _,.refl _,.refl _,.refl _,.refl _,.refl _,.refl _,.refl _,.refl _,.refl _,.refl _,.refl _,trivial⟩ ⟨rfl,rfl,trivial⟩)⟩
  have hb8_:=dF0 hb8
  have hie:i=v.length:=by omega
  subst hie
  rw [List.take_length,hn1] at hS
  have hml1:=zN (o:=o) (p:=j+k+2) (c:=c) (e:=e) (A:=4294967296 ^ j*(g*wv v)) (S:=wv u) (by omega) ho hc he (by rw [show j+k+2=j+(k+2) by omega];exact hS)
  obtain ⟨o1,ho1⟩:∃ o1,o1=o.set (j+k+2) ((o.getD (j+k+2) 0+8589934592 - c - e) % 4294967296):=⟨_,rfl⟩
  have hok1:okW o1:=by rw [ho1];exact ho.set (Nat.mod_lt _ (by omega))
  have hlo1:o1.length=u.length:=by rw [ho1];simpa using hlo
  have hd1:o1.drop (j+k+3)=u.drop (j+k+3):=by rw [ho1,List.drop_set_of_lt (by omega)];exact hd
  rw [← ho1,show j+k+2+1=j+k+3 by omega] at hml1
  refine aZ<|cy (ι:=List Nat) (fun u1=>stL [(8,Z (s:Int)),(9,.p (.c (W v))),(10,Z ((k+2:Nat):Int)),(11,.vec 60),(12,.vec 70),(13,Z ((j:Nat):Int)),(15,.p (.c (.v (.int .u64 ((dE v u j:Nat):Int)))))] [(60,WB 105 u1),(70,WB 105 q)]) (fun u1=>u1.length=u.length∧okW u1∧wv u1+4294967296 ^ j*(dE v u j*wv v)=wv u) ?_ ?_
  ·refine ae hP<|ab (aB (rfl:_=AV.vec _))<|ak rfl<|ak rfl<|ab (bL rfl rfl (c:=((j+k+2:Nat):Int)) (by rw [iW0 _ (by omega)];omega)) ?_
   refine ab (aB (rfl:_=AV.vec _))<|ak rfl<|ak rfl<|ab (bL rfl rfl (c:=((j+k+2:Nat):Int)) (by rw [iW0 _ (by omega)];omega)) ?_
   refine de ?_
   refine ab (dy hT rfl rfl rfl rfl (by first | omega | (simp;omega)) rfl) ?_
   refine ak rfl<|ab (bl hT rfl rfl rfl rfl (kO hc)) ?_
   refine ak rfl<|ab (ah (xk _ _ _ (ho.getD _) hc he)) ?_
   refine ab (aB (rfl:_=AV.t _))<|ab (aE rfl (v:=.c _) rfl)<|ab (aE rfl (v:=.c _) rfl)<|de ?_
   refine du ai (cw hT rfl rfl rfl rfl rfl (by first | omega | (simp;omega)) ho1.symm) ?_
   refine aj rfl<|ag<|ae hP<|ak rfl<|ab (bK rfl rfl)<|ag ?_
   refine az rfl (fun hb9=>?_) (fun hb9=>?_)
   ·have hb9_:=dT0 hb9
    have hbo:o.getD (j+k+2) 0 < c+e:=by
     rcases Nat.lt_or_ge (o.getD (j+k+2) 0) (c+e) with h | h
     ·exact h
     rw [if_neg (by omega)] at *;omega
    rw [if_pos hbo,Nat.mul_one] at hml1
    have hgq:=dg.bad hok1 hlo1 hd1 hg2 hml1
    have hg0:0 < g:=by omega
    refine ae hP<|ak rfl<|ab (bD rfl rfl (c:=((g - 1:Nat):Int)) (by rw [IntWalk.u64_in _ (by omega)];omega)) ?_
    refine aj rfl<|ag<|ae hP<|aj rfl<|ag<|ao<|ae hP<|ak rfl<|ab (aU hT rfl rfl rfl rfl)<|ak rfl<|ag<|aA<|bg (ι:=List Nat × Nat × Nat) (fun ⟨o,i,c⟩=>stL [(8,Z (s:Int)),(9,.p (.c (W v))),(10,Z ((k+2:Nat):Int)),(11,.vec 60),(12,.vec 70),(13,Z ((j:Nat):Int)),(15,.p (.c (.v (.int .u64 ((g - 1:Nat):Int))))),(22,.p (.c (w32 (c)))),(203,.p (.c (W v))),(204,Z ((v.length:Nat):Int)),(205,Z ((i:Nat):Int))] [(60,WB 105 o),(70,WB 105 q)]) (fun ⟨o,i,c⟩=>i≤v.length∧o.length=u.length∧okW o∧c < 2∧o.drop (j+k+3)=u.drop (j+k+3)∧wv o+4294967296 ^ (j+i)*c=wv o1+4294967296 ^ j*wv (v.take i)) (fun ⟨_,i,_⟩=>v.length - i) (o1,0,0) ⟨Nat.zero_le _,hlo1,hok1,by omega,hd1,by simp [wv]⟩ (aD ⟨.refl _,.refl _,.refl _,.refl _,.refl _,.refl _,.refl _,.refl _,.refl _,.refl _,.refl _,trivial⟩ ⟨rfl,rfl,trivial⟩) ?_
    clear hbo hS hd he hc ho hlo hi ho1 hd1 hok1 hlo1
    rintro ⟨o,i,c⟩ ⟨hi,hlo,ho,hc,hd,hS2⟩
    refine ae hP<|ab (bi rfl rfl)<|ag<|ao ?_
    refine az rfl (fun hb10=>?_) (fun hb10=>?_)
    ·have hb10_:=dT0 hb10
     have hlt:i < v.length:=by omega
     have hvi:=okv.getD i
     have hoi:=ho.getD (j+i)
     have hc2:(o.getD (j+i) 0+v.getD i 0+c) / 4294967296 < 2:=(Nat.div_lt_iff_lt_mul (by omega)).2 (by omega)
     refine au<|ao<|aA<|ae hP<|ak rfl<|cK ?_
     refine cH hT rfl rfl rfl ?_
     refine aj rfl<|aj rfl<|ag<|aw hP<|ab (aB (rfl:_=AV.vec _))<|ak rfl<|ak rfl<|ab (bL rfl rfl (c:=((j+i:Nat):Int)) (by rw [iW0 _ (by omega)];omega)) ?_
     refine ab (aB (rfl:_=AV.vec _))<|ak rfl<|ak rfl<|ab (bL rfl rfl (c:=((j+i:Nat):Int)) (by rw [iW0 _ (by omega)];omega)) ?_
     refine de ?_
     refine ab (dy hT rfl rfl rfl rfl (by first | omega | (simp;omega)) rfl) ?_
     refine ak rfl<|ak rfl<|ab (ah (EE _ _ _ (ho.getD _) (okv.getD _) (by omega))) ?_
     refine ab (aB (rfl:_=AV.t _))<|ab (aE rfl (v:=.c _) rfl)<|ab (aE rfl (v:=.c _) rfl)<|de ?_
     refine du ai (cw hT rfl rfl rfl rfl rfl (by first | omega | (simp;omega)) rfl) ?_
     refine aj rfl<|ag<|aw hP<|bv rfl rfl ?_
     refine ak rfl<|ag ?_
     have hr:=yJ (v:=v) (i:=i) (by omega) rfl hS2
     exact ⟨(o.set (j+i) ((o.getD (j+i) 0+v.getD i 0+c) % 4294967296),i+1,(o.getD (j+i) 0+v.getD i 0+c) / 4294967296),⟨by omega,by simpa using hlo,ho.set (Nat.mod_lt _ (by omega)),hc2,by rw [List.drop_set_of_lt (by omega)];exact hd,hr⟩,by show v.length - (i+1) < v.length - i;omega,(aD ⟨.refl _,.refl _,.refl _,.refl _,.refl _,.refl _,.refl _,.refl _,.refl _,.refl _,.refl _,trivial⟩ ⟨rfl,rfl,trivial⟩)⟩
    have hb10_:=dF0 hb10
    have hie:i=v.length:=by omega
    subst hie
    rw [List.take_length,hn1] at hS2
    have hbk:=dg.back (o:=o.set (j+k+2) ((o.getD (j+k+2) 0+c) % 4294967296)) (o1:=o) (c:=c) (ho.set (Nat.mod_lt _ (by omega))) (by simpa using hlo) (by rw [List.drop_set_of_lt (by omega)];exact hd) hgq hml1 (by rw [show j+k+2=j+(k+2) by omega];exact hS2) ho hc rfl hlo
    refine aZ<|aw hP<|ab (aB (rfl:_=AV.vec _))<|ak rfl<|ak rfl<|ab (bL rfl rfl (c:=((j+k+2:Nat):Int)) (by rw [iW0 _ (by omega)];omega)) ?_
    refine de ?_
    refine ab (dy hT rfl rfl rfl rfl (by first | omega | (simp;omega)) rfl) ?_
    refine ak rfl<|ab (bL rfl rfl (c:=(((o.getD (j+k+2) 0+c) % 4294967296:Nat):Int)) (by rw [IntKind.wrap_u32];omega)) ?_
    refine de ?_
    refine du ai (cw hT rfl rfl rfl rfl rfl (by first | omega | (simp;omega)) rfl) ?_
    refine ag ?_
    exact ⟨_,⟨by simpa using hlo,ho.set (Nat.mod_lt _ (by omega)),hbk⟩,(aD ⟨.refl _,.refl _,.refl _,.refl _,.refl _,.refl _,aM (by omega),trivial⟩ ⟨rfl,rfl,trivial⟩)⟩
   have hb9_:=dF0 hb9
   have hbo:¬ o.getD (j+k+2) 0 < c+e:=by
    intro h
    rw [if_pos h] at *;omega
   rw [if_neg hbo,Nat.mul_zero,Nat.add_zero] at hml1
   have hgq:=dg.good hg1 hml1
   refine au ?_
   exact ⟨o1,⟨hlo1,hok1,hgq ▸ hml1⟩,(aD ⟨.refl _,.refl _,.refl _,.refl _,.refl _,.refl _,aM (by omega),trivial⟩ ⟨rfl,rfl,trivial⟩)⟩
  rintro u1 ⟨hl1,hok1,hfin⟩
  refine aw hP<|ab (aB (rfl:_=AV.vec _))<|ak rfl<|ak rfl<|ab (bl hT rfl rfl rfl rfl (kO dg.q_lt)) ?_
  refine de ?_
  refine du ai (cw hT rfl rfl rfl rfl rfl (by first | omega | (simp;omega)) rfl) ?_
  refine ag<|aw hP<|ak rfl<|ab (bD rfl rfl (by first | exact iW0 _ (by omega) | rfl)) ?_
  refine aj rfl<|ag ?_
  have hdn:=dg.done hok1 hl1 hfin
  exact ⟨(u1,q.set j (dE v u j),j),⟨by omega,hok1,by simpa using hlq,hqok.set dg.q_lt,by simp;omega,hdn,Ak (by omega) hM hfin⟩,by show j < j+1;omega,(aD ⟨.refl _,.refl _,.refl _,.refl _,.refl _,.refl _,trivial⟩ ⟨rfl,rfl,trivial⟩)⟩
 have hb3_:=dF0 hb3
 have hie:i=0:=by omega
 subst hie
 rw [List.drop_zero] at hlow hM
 rw [Nat.pow_zero,Nat.one_mul] at hM
 have hE:a / b=wv q∧a % b=wv u / 2 ^ s:=Hq (m:=a) (b:=b) (s:=s) (q:=wv q) (r:=wv u) (hwv ▸ hM) (hwv ▸ hlow)
 have hlt2:wv u < 4294967296 ^ (k+2):=Nat.lt_trans hlow (by have:=fq okv;rwa [hn1] at this)
 have htk:wv (u.take (k+2))=wv u:=by
  have e:=eC u (k+2) (by omega)
  rcases Nat.eq_zero_or_pos (wv (u.drop (k+2))) with h | h
  ·rw [h,Nat.mul_zero] at e;omega
  have:=Nat.le_mul_of_pos_right (4294967296 ^ (k+2)) h
  omega
 have hshl:(wl (wv (u.take (k+2)))).length≤1099511627776:=by
  have:=fT (htk.symm ▸ hlt2:wv (u.take (k+2)) < 4294967296 ^ (k+2))
  omega
 refine aZ<|cJ (t:=12) rfl rfl ?_
 refine cJ (t:=11) rfl rfl ?_
 refine ae hP<|ak rfl<|ab (ah (fg _ hqok)) ?_
 refine ak rfl<|ak rfl<|ab (kU hT rfl rfl rfl rfl rfl rfl (by omega)) ?_
 refine ab (ah (fg _ (hok.take _))) ?_
 refine ak rfl<|ab (ah (GF (wl (wv (u.take (k+2)))) s (bG _) hshl hs32)) ?_
 refine aj rfl<|aj rfl<|ag<|am<|E11 rfl rfl rfl ?_
 exact aH (by rw [bH,htk,hE.1,hE.2])
end
section
open Go Go.AM
theorem Cc (m:Nat) :
  aJ Tryz.prog 254 [.p (.c (nt m))] (Z (bn m)):=by
 refine aO Tryz.func254 rfl rfl rfl rfl ?_
 refine jw (t:=0) rfl rfl (fun hlen=>?_)
 have hb32:∀ x:Nat,x < 4294967296→bn x≤32:=fun x h=>gx (k:=32) h
 refine ae hP<|aj rfl<|ag<|ao<|ae hP<|ak rfl<|ab (aU hT rfl rfl rfl rfl)<|ab (bh rfl rfl)<|ag ?_
 refine az rfl (fun hb1=>?_) (fun hb1=>?_)
 ·have hb1_:=bT hb1
  refine ae hP<|aj rfl<|ag<|am<|E1 rfl rfl ?_
  have h0:wl m=[]:=by
   rcases h:wl m with _ | ⟨x,r⟩
   ·rfl
   rw [h] at hb1_;simp at hb1_;omega
  have:m=0:=by rw [← bH m,h0];rfl
  exact aM (by rw [this];rfl)
 have hb1_:=bF hb1
 refine au<|ae hP<|ak rfl<|ab (aU hT rfl rfl rfl rfl)<|ab (bD rfl rfl (by first | exact iW0 _ (by omega) | rfl)) ?_
 refine ab (bQ rfl rfl (by first | exact iW0 _ (by omega) | rfl)) ?_
 refine ak rfl<|ak rfl<|ab (aU hT rfl rfl rfl rfl)<|ab (bD rfl rfl (by first | exact iW0 _ (by omega) | rfl)) ?_
 refine cK ?_
 refine cH hT rfl rfl rfl ?_
 refine ab (ah (Ei _ ((bG m).getD _))) ?_
 refine ab (bL rfl rfl (iW0 _ (by have:=hb32 _ ((bG m).getD (((wl m).length:Int) - 1).toNat);omega))) ?_
 refine aj rfl<|ag<|am<|E1 rfl rfl ?_
 obtain ⟨k,hk⟩:∃ k,(wl m).length=k+1:=⟨(wl m).length - 1,by omega⟩
 have hkk:(((wl m).length:Int) - 1).toNat=k:=by omega
 exact aM (by rw [hkk,u7 hk];omega)
end
section
open Go Go.AM
theorem jJ (neg:Bool) (ws:List Nat) (h:okW ws) :
  aJ Tryz.prog 63 [B neg,.p (.c (W ws))] (I (sg neg (wv ws))):=by
 refine aO Tryz.func63 rfl rfl rfl rfl ?_
 refine ae hP<|aq ai (aC hT rfl rfl)<|ag<|ae hP<|ak rfl<|ab (ah (fg _ h)) ?_
 refine aj rfl<|ag<|ao<|ae hP<|ak rfl<|ab (aU hT rfl rfl rfl rfl)<|ab (bh rfl rfl)<|ag ?_
 refine az rfl (fun hb1=>?_) (fun hb1=>?_)
 ·have hb1_:=bT hb1
  refine ae hP<|ab (a6 hT rfl rfl rfl (es:=[_,_]) rfl)<|aI hT rfl<|ag<|am<|E2 hT rfl rfl rfl rfl rfl rfl rfl ?_
  have h0:wv ws=0:=nA (by omega)
  rw [h0,vW]
  exact .refl _
 have hb1_:=bF hb1
 refine au<|ae hP<|ak rfl<|ak rfl<|ab (a6 hT rfl rfl rfl (es:=[_,_]) rfl)<|aI hT rfl<|ag<|am<|E2 hT rfl rfl rfl rfl rfl rfl rfl ?_
 have h0:0 < wv ws:=by
  rcases Nat.eq_zero_or_pos (wv ws) with e | e
  ·rw [e] at hb1_;exact absurd rfl hb1_
  exact e
 exact aH (by show _=AV.p (.a [zn _,zm _]);rw [Df h0,Dg])
theorem nV (x:Int) :
  aJ Tryz.prog 62 [I x] (I x.natAbs):=by
 refine aO Tryz.func62 rfl rfl rfl rfl ?_
 refine ae hP<|aq ai (aL rfl rfl)<|aq ai (aC hT rfl rfl)<|ag<|ae hP<|aG hT rfl<|a8 hT rfl rfl rfl rfl ?_
 refine ab (ah (jJ _ (wl x.natAbs) (bG _))) ?_
 refine aI hT rfl<|ag<|am<|E2 hT rfl rfl rfl rfl rfl rfl rfl ?_
 exact Sub.I (AQ x)
theorem jr (x:Int) :
  aJ Tryz.prog 39 [I x] (I (-x)):=by
 refine aO Tryz.func39 rfl rfl rfl rfl ?_
 refine ae hP<|aq ai (aL rfl rfl)<|aq ai (aC hT rfl rfl)<|ag<|ae hP<|aG hT rfl<|a8 hT rfl rfl rfl rfl ?_
 refine ab (bt rfl)<|aG hT rfl<|a8 hT rfl rfl rfl rfl ?_
 refine ab (ah (jJ _ (wl x.natAbs) (bG _))) ?_
 refine aI hT rfl<|ag<|am<|E2 hT rfl rfl rfl rfl rfl rfl rfl ?_
 exact Sub.I (zK x)
theorem dQ (x y:Int) (hx:L 45 x) (hy:L 45 y) :
  aJ Tryz.prog 38 [I x,I y] (I (x+y)):=by
 refine aO Tryz.func38 rfl rfl rfl rfl ?_
 refine ae hP<|aq ai (aL rfl rfl)<|aq ai (aL rfl rfl)<|aq ai (aC hT rfl rfl)<|ag<|ae hP<|aG hT rfl<|a8 hT rfl rfl rfl rfl ?_
 refine aG hT rfl<|a8 hT rfl rfl rfl rfl ?_
 refine aj rfl<|aj rfl<|ag<|ao<|aA<|ae hP<|aG hT rfl<|a8 hT rfl rfl rfl rfl ?_
 refine aG hT rfl<|a8 hT rfl rfl rfl rfl ?_
 refine ab (tZ hT rfl rfl rfl rfl)<|aj rfl<|ag ?_
 refine az rfl (fun hb1=>?_) (fun hb1=>?_)
 ·refine ae hP<|aG hT rfl<|a8 hT rfl rfl rfl rfl ?_
  refine ak rfl<|ak rfl<|ab (ah (GI (wl x.natAbs) (wl y.natAbs) (bG _) (bG _) (sz hx) (sz hy))) ?_
  refine ab (ah (jJ _ _ (bG _))) ?_
  refine aI hT rfl<|ag<|am<|E2 hT rfl rfl rfl rfl rfl rfl rfl ?_
  exact Sub.I (by rw [bH];exact vh (by assumption))
 refine ae hP<|ak rfl<|ak rfl<|ab (ah (qD x.natAbs y.natAbs)) ?_
 refine ab (bi rfl rfl)<|aj rfl<|ag ?_
 refine az rfl (fun hb2=>?_) (fun hb2=>?_)
 ·have hb2_:=dT0 hb2
  have hc:=KH (m:=x.natAbs) (n:=y.natAbs) (by assumption)
  refine ae hP<|aG hT rfl<|a8 hT rfl rfl rfl rfl ?_
  refine ak rfl<|ak rfl<|ab (ah (wG (wl y.natAbs) (wl x.natAbs) (bG _) (bG _) (sz hy) (fH (by omega)) (by rw [bH,bH];omega))) ?_
  refine ab (ah (jJ _ _ (bG _))) ?_
  refine aI hT rfl<|ag<|am<|E2 hT rfl rfl rfl rfl rfl rfl rfl ?_
  exact Sub.I (by rw [bH];exact AN (by assumption) hc)
 have hb2_:=dF0 hb2
 have hc:=KI (m:=x.natAbs) (n:=y.natAbs) (by assumption)
 refine au<|ae hP<|aG hT rfl<|a8 hT rfl rfl rfl rfl ?_
 refine ak rfl<|ak rfl<|ab (ah (wG (wl x.natAbs) (wl y.natAbs) (bG _) (bG _) (sz hx) (fH hc) (by rw [bH,bH];exact hc))) ?_
 refine ab (ah (jJ _ _ (bG _))) ?_
 refine aI hT rfl<|ag<|am<|E2 hT rfl rfl rfl rfl rfl rfl rfl ?_
 exact Sub.I (by rw [bH];exact AO (by assumption) hc)
theorem ka (x y:Int) (hx:L 45 x) (hy:L 45 y) :
  aJ Tryz.prog 108 [I x,I y] (I (x - y)):=by
 refine aO Tryz.func108 rfl rfl rfl rfl ?_
 refine ae hP<|aq ai (aL rfl rfl)<|aq ai (aL rfl rfl)<|aq ai (aC hT rfl rfl)<|ag<|ae hP<|av hT rfl<|av hT rfl<|ab (ah (jr y)) ?_
 refine ab (ah (dQ x (-y) hx hy.neg)) ?_
 refine aI hT rfl<|ag<|am<|E2 hT rfl rfl rfl rfl rfl rfl rfl ?_
 exact Sub.I (by omega)
theorem dP (x y:Int) (hx:L 45 x) (hy:L 45 y) :
  aJ Tryz.prog 16 [I x,I y] (I (x*y)):=by
 refine aO Tryz.func16 rfl rfl rfl rfl ?_
 refine ae hP<|aq ai (aL rfl rfl)<|aq ai (aL rfl rfl)<|aq ai (aC hT rfl rfl)<|ag<|ae hP<|aG hT rfl<|a8 hT rfl rfl rfl rfl ?_
 refine aG hT rfl<|a8 hT rfl rfl rfl rfl ?_
 refine ab (gE hT rfl rfl rfl rfl)<|aG hT rfl<|a8 hT rfl rfl rfl rfl ?_
 refine aG hT rfl<|a8 hT rfl rfl rfl rfl ?_
 refine ab (ah (GG (wl x.natAbs) (wl y.natAbs) (bG _) (bG _) (sz hx) (sz hy))) ?_
 refine ab (ah (jJ _ _ (bG _))) ?_
 refine aI hT rfl<|ag<|am<|E2 hT rfl rfl rfl rfl rfl rfl rfl ?_
 exact Sub.I (by rw [bH];exact zL x y)
end
section
open Go Go.AM
theorem dp (x:Int) :
  aJ Tryz.prog 58 [I x] (Z (sgn x)):=by
 refine aO Tryz.func58 rfl rfl rfl rfl ?_
 refine ae hP<|aq ai (aL rfl rfl)<|aj rfl<|ag<|ao<|aA<|ae hP<|aG hT rfl<|a8 hT rfl rfl rfl rfl ?_
 refine ab (aU hT rfl rfl rfl rfl)<|ab (bh rfl rfl)<|aj rfl<|ag ?_
 refine az rfl (fun hb1=>?_) (fun hb1=>?_)
 ·have hb1_:=bT hb1
  refine ae hP<|aj rfl<|ag<|am<|E1 rfl rfl ?_
  have h0:=wl_len_zero.1 hb1_
  exact aM (by rw [h0];rfl)
 have hb1_:=bF hb1
 refine ae hP<|aG hT rfl<|a8 hT rfl rfl rfl rfl ?_
 refine aj rfl<|ag ?_
 refine az rfl (fun hb2=>?_) (fun hb2=>?_)
 ·refine ae hP<|aj rfl<|ag<|am<|E1 rfl rfl ?_
  exact aM (j8 hb2).symm
 refine au<|ae hP<|aj rfl<|ag<|am<|E1 rfl rfl ?_
 have h0:x≠0:=fun e=>hb1_ (wl_len_zero.2 e)
 exact aM (ql h0 hb2).symm
theorem dL (x y:Int) :
  aJ Tryz.prog 14 [I x,I y] (Z (bA x y)):=by
 refine aO Tryz.func14 rfl rfl rfl rfl ?_
 refine ae hP<|aq ai (aL rfl rfl)<|aq ai (aL rfl rfl)<|aj rfl<|ag<|ao<|ae hP<|aG hT rfl<|a8 hT rfl rfl rfl rfl ?_
 refine aG hT rfl<|a8 hT rfl rfl rfl rfl ?_
 refine ab (gE hT rfl rfl rfl rfl)<|ag ?_
 refine az rfl (fun hb1=>?_) (fun hb1=>?_)
 ·refine ae hP<|av hT rfl<|ab (ah (dp _)) ?_
  refine av hT rfl<|ab (ah (dp _)) ?_
  refine ab (ah (oz _ _)) ?_
  refine aj rfl<|ag<|am<|E1 rfl rfl ?_
  exact aM (CV hb1)
 refine au<|ae hP<|aG hT rfl<|a8 hT rfl rfl rfl rfl ?_
 refine aG hT rfl<|a8 hT rfl rfl rfl rfl ?_
 refine ab (ah (qD x.natAbs y.natAbs)) ?_
 refine av hT rfl<|ab (ah (dp _)) ?_
 refine ab (bd hT rfl rfl rfl (es:=[_,_]) rfl rfl rfl)<|ab (ah (JJ _ _)) ?_
 refine ab (bQ rfl rfl (CU hb1)) ?_
 refine aj rfl<|ag<|am<|E1 rfl rfl ?_
 exact .refl _
theorem uv (x:Int) :
  aJ Tryz.prog 242 [I x] (Z (bn x.natAbs)):=by
 refine aO Tryz.func242 rfl rfl rfl rfl ?_
 refine ae hP<|aq ai (aL rfl rfl)<|aj rfl<|ag<|ae hP<|aG hT rfl<|a8 hT rfl rfl rfl rfl ?_
 refine ab (ah (Cc x.natAbs)) ?_
 refine aj rfl<|ag<|am<|E1 rfl rfl ?_
 exact .refl _
theorem mV (x:Int) (hx:L 45 x) :
  aJ Tryz.prog 100 [I x] (B true):=by
 have hlen:=sz hx
 refine aO Tryz.func100 rfl rfl rfl rfl ?_
 refine ae hP<|aq ai (aL rfl rfl)<|aj rfl<|ag<|ao<|ae hP<|aG hT rfl<|a8 hT rfl rfl rfl rfl ?_
 refine ab (aU hT rfl rfl rfl rfl)<|ab (bh rfl rfl)<|ag ?_
 refine az rfl (fun hb1=>?_) (fun hb1=>?_)
 ·have hb1_:=bT hb1
  refine ae hP<|aG hT rfl<|a8 hT rfl rfl rfl rfl ?_
  refine ab (bt rfl)<|aj rfl<|ag<|am<|E1 rfl rfl ?_
  have h0:=wl_len_zero.1 hb1_
  exact aH (by rw [h0];rfl)
 have hb1_:=bF hb1
 refine au<|ae hP<|aG hT rfl<|a8 hT rfl rfl rfl rfl ?_
 refine aG hT rfl<|a8 hT rfl rfl rfl rfl ?_
 refine ab (aU hT rfl rfl rfl rfl)<|ab (bD rfl rfl (by first | exact iW0 _ (by omega) | rfl)) ?_
 refine cK ?_
 refine cH hT rfl rfl rfl ?_
 refine ab (bq rfl rfl)<|aj rfl<|ag<|am<|E1 rfl rfl ?_
 have h1:(wl x.natAbs).length≠0:=fun e=>hb1_ (by rw [e];rfl)
 have h2:(((wl x.natAbs).length:Int) - 1).toNat=(wl x.natAbs).length - 1:=by omega
 rw [h2]
 have h3:=pj (k:=x.natAbs) (n:=(wl x.natAbs).length - 1) (by omega)
 exact aH (by rw [show ((((wl x.natAbs).getD ((wl x.natAbs).length - 1) 0:Nat):Int) != 0)=true from bne_iff_ne.2 (by omega)])
theorem eK (z:Int) (hz:bp z) :
  aJ Tryz.prog 136 [.p (.c (.v (.int .i64 z)))] (I z):=by
 have hz1:z.natAbs < 18446744073709551616:=by unfold bp at hz;omega
 refine aO Tryz.func136 rfl rfl rfl rfl ?_
 refine ae hP<|aq ai (aC hT rfl rfl)<|ag<|ae hP<|ak rfl<|ak rfl<|ab (ew rfl rfl)<|ab (pR rfl rfl)<|ab (bl hT rfl rfl rfl rfl (c:=((z.natAbs:Nat):Int)) (EM hz)) ?_
 refine aj rfl<|ag<|ae hP<|ak rfl<|ab (bi rfl rfl)<|ak rfl<|ab (bl hT rfl rfl rfl rfl (eD _)) ?_
 refine ak rfl<|ab (dh (j:=32) rfl rfl (by decide)) ?_
 refine ab (bl hT rfl rfl rfl rfl (c:=((z.natAbs / 2 ^ 32:Nat):Int)) (by simp only [IntKind.wrap_u32];omega)) ?_
 refine ab (bd hT rfl rfl rfl (es:=[_,_]) rfl rfl rfl)<|ab (ah (jJ _ [z.natAbs % 4294967296,z.natAbs / 2 ^ 32] (qB (by omega)))) ?_
 refine aI hT rfl<|ag<|am<|E2 hT rfl rfl rfl rfl rfl rfl rfl ?_
 exact Sub.I (by rw [sP];exact xX)
theorem qK (neg:Bool) (m:Nat):aJ Tryz.prog 63 [B neg,.p (.c (nt m))] (I (sg neg m)):=by
 have h:=jJ neg (wl m) (bG m)
 rwa [bH] at h
theorem dS (x y:Int) (hx:L 44 x) (hy:L 44 y) (h0:y≠0) :
  aJ Tryz.prog 113 [I x,I y] (.t [PI (x / y),PI (x % y),PE 0]):=by
 have hq:L 44 (sg (!(decide (x < 0) == decide (y < 0))) (x.natAbs / y.natAbs)):=L.of_le hx (by rw [pq];exact Nat.div_le_self _ _)
 have hr:L 44 (sg (decide (x < 0)) (x.natAbs % y.natAbs)):=L.of_le hx (by rw [pq];exact Nat.mod_le _ _)
 refine aO Tryz.func113 rfl rfl rfl rfl ?_
 refine ae hP<|aq ai (aL rfl rfl)<|aq ai (aL rfl rfl)<|aq ai (aC hT rfl rfl)<|aq ai (aC hT rfl rfl)<|aj rfl<|ag<|ao<|ae hP<|aG hT rfl<|a8 hT rfl rfl rfl rfl ?_
 refine ab (aU hT rfl rfl rfl rfl)<|ab (bh rfl rfl)<|ag ?_
 refine az rfl (fun hb1=>?_) (fun hb1=>?_)
 ·have hb1_:=bT hb1
  exact absurd (wl_len_zero.1 hb1_) h0
 have hb1_:=bF hb1
 refine au<|ae hP<|aG hT rfl<|a8 hT rfl rfl rfl rfl ?_
 refine aG hT rfl<|a8 hT rfl rfl rfl rfl ?_
 refine ab (ah (GH x.natAbs y.natAbs (sz (hx.mono (by decide))) (by omega))) ?_
 refine ab (aB (rfl:_=AV.t _))<|ab (aE rfl (v:=.c _) rfl)<|ab (aE rfl (v:=.c _) rfl)<|aj rfl<|aj rfl<|ag<|ae hP<|aG hT rfl<|a8 hT rfl rfl rfl rfl ?_
 refine aG hT rfl<|a8 hT rfl rfl rfl rfl ?_
 refine ab (gE hT rfl rfl rfl rfl)<|ak rfl<|ab (ah (qK _ _)) ?_
 refine aG hT rfl<|a8 hT rfl rfl rfl rfl ?_
 refine ak rfl<|ab (ah (qK _ _)) ?_
 refine aq ai (aC hT rfl rfl)<|aq ai (aC hT rfl rfl)<|aI hT rfl<|aI hT rfl<|ag<|ao<|ae hP<|aG hT rfl<|a8 hT rfl rfl rfl rfl ?_
 refine ag ?_
 refine az rfl (fun hb2=>?_) (fun hb2=>?_)
 ·have e1:=(j6 h0 (dT0 hb2)).1
  have e2:=(j6 h0 (dT0 hb2)).2
  refine ae hP<|av hT rfl<|av hT rfl<|ab (ah (nV _)) ?_
  refine ab (ah (dQ _ _ (hr.mono (by decide)) (hy.abs.mono (by decide)))) ?_
  refine aI hT rfl<|ag<|aw hP<|av hT rfl<|av hT rfl<|ab (ah (dp _)) ?_
  refine ab (ah (eK (sgn y) (by unfold sgn;split <;> (try split) <;> decide))) ?_
  refine ab (ah (ka _ _ (hq.mono (by decide)) ((EG y).mono (by decide)))) ?_
  refine aI hT rfl<|ag<|ae hP<|av hT rfl<|av hT rfl<|aI hT rfl<|aI hT rfl<|aj rfl<|ag<|am ?_
  refine cG rfl (.inr rfl) (aS hT rfl rfl rfl rfl (cs:=[_,_]) rfl rfl) (aS hT rfl rfl rfl rfl (cs:=[_,_]) rfl rfl) (bO rfl) ?_ bu
  exact aH (by rw [e1,e2])
 have e1:=(j5 h0 (dF0 hb2)).1
 have e2:=(j5 h0 (dF0 hb2)).2
 refine au<|ae hP<|av hT rfl<|av hT rfl<|aI hT rfl<|aI hT rfl<|aj rfl<|ag<|am ?_
 refine cG rfl (.inr rfl) (aS hT rfl rfl rfl rfl (cs:=[_,_]) rfl rfl) (aS hT rfl rfl rfl rfl (cs:=[_,_]) rfl rfl) (bO rfl) ?_ bu
 exact aH (by rw [e1,e2])
theorem G7 (x y:Int) (hx:L 44 x) (hy:L 44 y) (h0:y≠0) :
  aJ Tryz.prog 61 [I x,I y] (I (x % y)):=by
 refine aO Tryz.func61 rfl rfl rfl rfl ?_
 refine ae hP<|aq ai (aL rfl rfl)<|aq ai (aL rfl rfl)<|aq ai (aC hT rfl rfl)<|ag<|ae hP<|av hT rfl<|av hT rfl<|ab (ah (dS x y hx hy h0)) ?_
 refine ab (aB (rfl:_=AV.t _))<|ab (aE rfl (v:=.a _) rfl)<|ab (aE rfl (v:=.a _) rfl)<|ab (aE rfl (v:=.c _) rfl)<|aq ai (aC hT rfl rfl)<|aq ai (aC hT rfl rfl)<|aI hT rfl<|aI hT rfl<|aj rfl<|ag<|ae hP<|av hT rfl<|aI hT rfl<|ag<|am<|E2 hT rfl rfl rfl rfl rfl rfl rfl ?_
 exact .refl _
theorem nU (x y:Int) (hx:L 44 x) (hy:L 44 y) :
  aJ Tryz.prog 15 [I x,I y] (I (Int.gcd x y)):=by
 refine aO Tryz.func15 rfl rfl rfl rfl ?_
 refine ae hP<|aq ai (aL rfl rfl)<|aq ai (aL rfl rfl)<|aq ai (aC hT rfl rfl)<|ag<|ao<|aA<|bg (ι:=Int × Int) (fun p=>stL [(2,.loc 2 0),(3,.loc 3 0),(4,.loc 4 0)] [(2,⟨false,1,29,[zn (p.1),zm (p.1)]⟩),(3,⟨false,1,29,[zn (p.2),zm (p.2)]⟩),(4,⟨false,1,29,[zn (0),zm (0)]⟩)]) (fun p=>L 44 p.1∧L 44 p.2∧Int.gcd p.1 p.2=Int.gcd x y) (fun p=>p.2.natAbs) (x,y) ⟨hx,hy,rfl⟩ (aD ⟨.refl _,.refl _,.refl _,trivial⟩ ⟨rfl,rfl,rfl,trivial⟩) ?_
 rintro ⟨a,b⟩ ⟨ha,hb,hg⟩
 refine ao<|ae hP<|aG hT rfl<|a8 hT rfl rfl rfl rfl ?_
 refine ab (aU hT rfl rfl rfl rfl)<|ab (bK rfl rfl)<|ag ?_
 refine az rfl (fun hb1=>?_) (fun hb1=>?_)
 ·have hb1_:=dT0 hb1
  have h0:b≠0:=fun e=>by
   have e2:0 < ((wl b.natAbs).length:Int):=hb1_
   rw [e] at e2;exact absurd e2 (by decide)
  refine au<|aA<|aw hP<|av hT rfl<|av hT rfl<|av hT rfl<|ab (ah (G7 a b ha hb h0)) ?_
  refine aI hT rfl<|aI hT rfl<|ag ?_
  refine ⟨(b,a % b),⟨hb,(ha.emod hb).mono (by decide),?_⟩,?_,aD ⟨.refl _,.refl _,.refl _,trivial⟩ ⟨rfl,rfl,rfl,trivial⟩⟩
  ·rw [← hg];exact uC a b
  have h1:=Int.emod_nonneg a h0
  have h2:=Int.emod_lt a h0
  show (a % b).natAbs < b.natAbs
  omega
 have hb1_:=dF0 hb1
 refine aZ<|ae hP<|av hT rfl<|ab (ah (nV _)) ?_
 refine aI hT rfl<|ag<|am<|E2 hT rfl rfl rfl rfl rfl rfl rfl ?_
 have h0:b=0:=by
  have e2:¬ 0 < ((wl b.natAbs).length:Int):=hb1_
  have:((wl b.natAbs).length:Int)=0:=by omega
  exact wl_len_zero.1 this
 exact Sub.I (by rw [← hg,h0];simp)
theorem ym (x:Int) (hx:L 44 x) :
  aJ Tryz.prog 243 [I x,Z 1] (I x):=by
 refine aO Tryz.func243 rfl rfl rfl rfl ?_
 refine ae hP<|aq ai (aL rfl rfl)<|aq ai (aC hT rfl rfl)<|ag<|ae hP<|ab (ah (eK 1 (by decide))) ?_
 refine aq ai (aC hT rfl rfl)<|aI hT rfl<|ag<|ao<|aA<|dT 2 ?_
 refine ao<|ae hP<|ak rfl<|ab (bK rfl rfl)<|ag<|aV rfl (by decide) ?_
 refine au<|ao<|aA<|ao<|ae hP<|ak rfl<|ab (bJ rfl rfl (by first | decide | omega) (by first | exact Int.tmod_eq_emod_of_nonneg (by omega) | rfl)) ?_
 refine ab (bh rfl rfl)<|ag<|aV rfl rfl<|aw hP<|av hT rfl<|av hT rfl<|ab (ah (dP 1 x (L.mono (n:=0) (by decide) (by decide)) (hx.mono (by decide)))) ?_
 refine aI hT rfl<|ag<|ae hP<|ak rfl<|ab (bK rfl rfl)<|ag<|aQ rfl rfl<|au<|aw hP<|ak rfl<|ab (cO rfl rfl (by first | decide | omega) (by first | exact iW0 _ (by omega) | rfl)) ?_
 refine aj rfl<|ag<|ao<|ae hP<|ak rfl<|ab (bK rfl rfl)<|ag<|aQ rfl (by decide) ?_
 refine aZ<|ae hP<|av hT rfl<|aI hT rfl<|ag<|am<|E2 hT rfl rfl rfl rfl rfl rfl rfl ?_
 exact Sub.I (by rw [Int.one_mul])
end
section
open Go Go.AM
theorem Aa (x:Int) (hx:L 40 x) :
  aJ Tryz.prog 212 [I x,Z 2] (.t [PI (rootV x),PE (jW x)]):=by
 have hbl:=Az hx
 refine aO Tryz.func212 rfl rfl rfl rfl ?_
 refine ae hP<|aq ai (aL rfl rfl)<|aq ai (aC hT rfl rfl)<|aj rfl<|ag<|ae hP<|av hT rfl<|ab (ah (uv x)) ?_
 refine aj rfl<|ag<|ao<|aA<|ae hP<|aG hT rfl<|a8 hT rfl rfl rfl rfl ?_
 refine ak rfl ?_
 refine aW (t:=16) rfl (fun hg1=>?_) (fun hg1=>?_)
 ·have hx0:x < 0:=dT0 hg1
  refine aX hg1 ?_
  refine aX hg1 ?_
  refine ab (aN rfl hg1 (rfl:_=AV.p (.c _)))<|aj rfl<|ag<|aV rfl rfl<|ae hP<|ab (a6 hT rfl rfl rfl (es:=[_,_]) rfl)<|aI hT rfl<|aj rfl<|ag<|am ?_
  refine cz rfl (.inr rfl) (aS hT rfl rfl rfl rfl (cs:=[_,_]) rfl rfl) (bO rfl) ?_ bu
  exact aH (by rw [(gM hx0).1,(gM hx0).2])
 have hx0:¬ x < 0:=dF0 hg1
 refine ay hg1 (aB (rfl:_=AV.p (.c _))) ?_
 refine ay hg1 (bi rfl rfl) ?_
 refine ab (aK rfl hg1 (rfl:_=AV.p (.c _)))<|aj rfl<|ag<|aQ rfl rfl<|ae hP<|ak rfl<|ab (bh rfl rfl)<|ak rfl ?_
 refine aW (t:=24) rfl (fun hg2=>?_) (fun hg2=>?_)
 ·have hg2_:=bT hg2
  refine aX hg2 ?_
  refine aX hg2 ?_
  refine ab (aN rfl hg2 (rfl:_=AV.p (.c _)))<|aj rfl<|ag<|aV rfl rfl<|ae hP<|av hT rfl<|aI hT rfl<|aj rfl<|ag<|am ?_
  refine cz rfl (.inr rfl) (aS hT rfl rfl rfl rfl (cs:=[_,_]) rfl rfl) (bO rfl) ?_ bu
  have e:=zc hg2_
  exact aH (by rw [e];rfl)
 have hg2_:=bF hg2
 refine ay hg2 (aB (rfl:_=AV.p (.c _))) ?_
 refine ay hg2 (bh rfl rfl) ?_
 refine ab (aK rfl hg2 (rfl:_=AV.p (.c _)))<|aj rfl<|ag<|aQ rfl rfl<|ae hP<|ak rfl<|ak rfl<|ab (dm rfl rfl)<|aj rfl<|ag ?_
 refine az rfl (fun hb3=>?_) (fun hb3=>?_)
 ·have hb3_:=dT0 hb3
  refine ae hP<|ab (ah (eK _ (by decide))) ?_
  refine aI hT rfl<|aj rfl<|ag<|am ?_
  refine cz rfl (.inr rfl) (aS hT rfl rfl rfl rfl (cs:=[_,_]) rfl rfl) (bO rfl) ?_ bu
  exact aH (by rw [xz hx0 hg2_ hb3_,gO hx0])
 have hb3_:=dF0 hb3
 have hx1:0 < x:=by
  rcases Int.lt_trichotomy x 0 with e | e | e
  ·exact absurd e hx0
  ·rw [e] at hg2_;exact absurd rfl hg2_
  exact e
 refine au<|ae hP<|ab (bd hT rfl rfl rfl (es:=[_]) rfl rfl rfl)<|ak rfl<|ak rfl<|bv rfl rfl ?_
 refine ab (bD rfl rfl (by first | exact iW0 _ (by omega) | rfl)) ?_
 refine ak rfl<|ab (cO rfl rfl (by decide) (M9 _ hbl)) ?_
 refine ab (ah (qC [1] ((bn x.natAbs+1) / 2) wC (by decide) (by omega))) ?_
 refine ab (ah (qK _ _)) ?_
 refine aq ai (aC hT rfl rfl)<|aI hT rfl<|ag<|aA<|bg (ι:=Int) (fun s=>stL [(1,Z 2),(2,.loc 2 0),(4,.loc 4 0),(7,.loc 7 0)] [(2,⟨false,1,29,[zn (x),zm (x)]⟩),(4,⟨false,1,29,[zn (0),zm (0)]⟩),(7,⟨false,1,29,[zn (s),zm (s)]⟩)]) (fun s=>0 < s∧rootV x≤s∧s≤2*x) (fun s=>s.toNat) (2 ^ ((bn x.natAbs+1) / 2):Nat) ?_ (aD ⟨.refl _,.refl _,.refl _,.refl _,trivial⟩ ⟨rfl,rfl,?_,trivial⟩) ?_
 ·exact py hx1
 ·exact congrArg (fun z=>some (⟨false,1,29,[zn z,zm z]⟩:Blk)) (IX _)
 intro s hs
 have ix:LB x 40:=⟨hx⟩
 have is:LB s 41:=⟨L.of_le (b:=2*x) (lz (by rfl)) (by omega)⟩
 refine aA<|ae hP<|av hT rfl<|av hT rfl<|ak rfl<|ab (bD rfl rfl (by first | exact iW0 _ (by omega) | rfl)) ?_
 refine ab (ah (ym s lz)) ?_
 refine ab (ah (dS x s lz lz (by omega))) ?_
 refine ab (aB (rfl:_=AV.t _))<|ab (aE rfl (v:=.a _) rfl)<|ab (aE rfl (v:=.a _) rfl)<|ab (aE rfl (v:=.c _) rfl)<|aq ai (aC hT rfl rfl)<|aq ai (aC hT rfl rfl)<|aI hT rfl<|aI hT rfl<|aj rfl<|ag<|ae hP<|av hT rfl<|ak rfl<|ab (bD rfl rfl (by first | exact iW0 _ (by omega) | rfl)) ?_
 refine ab (ah (eK _ (by decide))) ?_
 refine ab (ah (dP _ _ lz lz)) ?_
 refine av hT rfl<|ab (ah (dQ _ _ lz lz)) ?_
 refine ak rfl<|ab (ah (eK _ (by decide))) ?_
 refine ab (ah (dS _ 2 lz lz (by decide))) ?_
 refine ab (aB (rfl:_=AV.t _))<|ab (aE rfl (v:=.a _) rfl)<|ab (aE rfl (v:=.a _) rfl)<|ab (aE rfl (v:=.c _) rfl)<|aI hT rfl<|ag<|ao<|ae hP<|av hT rfl<|av hT rfl<|ab (ah (dL _ _)) ?_
 refine ab (dm rfl rfl)<|ag ?_
 refine az rfl (fun hb4=>?_) (fun hb4=>?_)
 ·have hb4_:=dT0 hb4
  have hge:=kY hb4_
  refine ae hP<|av hT rfl<|aI hT rfl<|aj rfl<|ag<|am ?_
  refine cz rfl (.inr rfl) (aS hT rfl rfl rfl rfl (cs:=[_,_]) rfl rfl) (bO rfl) ?_ bu
  have e:=rn hx1 hs.1 hs.2.1 hge
  exact aH (by rw [e,gO hx0])
 have hb4_:=dF0 hb4
 have hge:=jR hb4_
 refine au<|aw hP<|av hT rfl<|aI hT rfl<|ag ?_
 refine ⟨(s*1+x / s) / 2,⟨(kE hx1 hs.1).2,(kE hx1 hs.1).1,Int.le_trans (Int.le_of_lt hge) hs.2.2⟩,?_,aD ⟨.refl _,.refl _,.refl _,.refl _,trivial⟩ ⟨rfl,rfl,rfl,trivial⟩⟩
 have h3:=(kE hx1 hs.1).2
 show ((s*1+x / s) / 2).toNat < s.toNat
 omega
theorem Cq (x:Int) (hx:L 40 x) :
  aJ Tryz.prog 178 [I x] (.t [PI (rootV x),PI (if x < 0 then 0 else x - rootV x*rootV x),PE (jW x)]):=by
 have ix:LB x 40:=⟨hx⟩
 refine aO Tryz.func178 rfl rfl rfl rfl ?_
 refine ae hP<|aq ai (aL rfl rfl)<|aq ai (aC hT rfl rfl)<|aq ai (aC hT rfl rfl)<|aj rfl<|ag<|ae hP<|av hT rfl<|ab (ah (Aa x hx)) ?_
 refine ab (aB (rfl:_=AV.t _))<|ab (aE rfl (v:=.a _) rfl)<|ab (aE rfl (v:=.c _) rfl)<|aq ai (aC hT rfl rfl)<|aI hT rfl<|aj rfl<|ag<|ao<|ae hP<|ak rfl<|ab (bq rfl rfl)<|ag ?_
 refine az rfl (fun hb1=>?_) (fun hb1=>?_)
 ·have hb1_:=bY hb1
  refine ae hP<|ab (a6 hT rfl rfl rfl (es:=[_,_]) rfl)<|ab (a6 hT rfl rfl rfl (es:=[_,_]) rfl)<|ak rfl<|aI hT rfl<|aI hT rfl<|aj rfl<|ag<|am ?_
  refine cG rfl (.inr rfl) (aS hT rfl rfl rfl rfl (cs:=[_,_]) rfl rfl) (aS hT rfl rfl rfl rfl (cs:=[_,_]) rfl rfl) (bO rfl) ?_ bu
  have h0:x < 0:=by
   rcases Int.lt_or_le x 0 with h | h
   ·exact h
   exact absurd (gO (by omega)) hb1_
  exact aH (by rw [(gM h0).1,if_pos h0])
 have hb1_:=bS hb1
 refine au<|ae hP<|av hT rfl<|av hT rfl<|av hT rfl<|av hT rfl<|ab (ah (dP _ _ lz lz)) ?_
 refine ab (ah (ka _ _ lz lz)) ?_
 refine aI hT rfl<|aI hT rfl<|aj rfl<|ag<|am ?_
 refine cG rfl (.inr rfl) (aS hT rfl rfl rfl rfl (cs:=[_,_]) rfl rfl) (aS hT rfl rfl rfl rfl (cs:=[_,_]) rfl rfl) (bO rfl) ?_ bu
 have h0:¬ x < 0:=fun h=>by rw [(gM h).2] at hb1_;cases hb1_
 exact aH (by rw [if_neg h0,gO h0])
end
section
open Go Go.AM
theorem eI (z:Int) (hz:bp z) :
  aJ Tryz.prog 110 [.p (.c (.v (.int .i64 z)))] (I z):=by
 refine aO Tryz.func110 rfl rfl rfl rfl ?_
 refine ae hP<|aq ai (aC hT rfl rfl)<|ag<|ae hP<|ak rfl<|ab (ah (eK z hz)) ?_
 refine aI hT rfl<|ag<|am<|E2 hT rfl rfl rfl rfl rfl rfl rfl ?_
 exact .refl _
theorem db (x y:Int) (hx:L 40 x) (hy:L 40 y) :
  aJ Tryz.prog 109 [.p (.c (.sl 2 [zn x,zm x,zn y,zm y]))] (I (x*y)):=by
 have ix:LB x 40:=⟨hx⟩
 have iy:LB y 40:=⟨hy⟩
 refine aO Tryz.func109 rfl rfl rfl rfl ?_
 refine ae hP<|aq ai (aC hT rfl rfl)<|ag<|ae hP<|ab (ah (eI _ (by first | assumption | decide))) ?_
 refine aq ai (aC hT rfl rfl)<|aI hT rfl<|ag<|ao<|ae hP<|ak rfl<|ab (aU hT rfl rfl rfl rfl)<|ak rfl<|ag<|aA<|dT 3 ?_
 refine ae hP<|ab (bi rfl rfl)<|ag<|ao<|aV rfl (by decide) ?_
 refine au<|ao<|aA<|ae hP<|cK ?_
 refine ab (bf hT rfl rfl rfl (cs:=[_,_]) rfl rfl)<|aq ai (aC hT rfl rfl)<|aI hT rfl<|ag<|aw hP<|av hT rfl<|av hT rfl<|ab (ah (dP _ _ lz lz)) ?_
 refine aI hT rfl<|ag<|aw hP<|bv rfl rfl ?_
 refine ak rfl<|ag<|ae hP<|ab (bi rfl rfl)<|ag<|ao<|aV rfl (by decide) ?_
 refine au<|ao<|aA<|ae hP<|cK ?_
 refine ab (bf hT rfl rfl rfl (cs:=[_,_]) rfl rfl)<|aq ai (aC hT rfl rfl)<|aI hT rfl<|ag<|aw hP<|av hT rfl<|av hT rfl<|ab (ah (dP _ _ lz lz)) ?_
 refine aI hT rfl<|ag<|aw hP<|bv rfl rfl ?_
 refine ak rfl<|ag<|ae hP<|ab (bi rfl rfl)<|ag<|ao<|aQ rfl (by decide) ?_
 refine aZ<|ae hP<|av hT rfl<|aI hT rfl<|ag<|am<|E2 hT rfl rfl rfl rfl rfl rfl rfl ?_
 exact Sub.I (by rw [Int.one_mul])
theorem gk (x y z:Int) (hx:L 40 x) (hy:L 40 y) (hz:L 40 z) :
  aJ Tryz.prog 109 [.p (.c (.sl 3 [zn x,zm x,zn y,zm y,zn z,zm z]))] (I (x*y*z)):=by
 have ix:LB x 40:=⟨hx⟩
 have iy:LB y 40:=⟨hy⟩
 have iz:LB z 40:=⟨hz⟩
 refine aO Tryz.func109 rfl rfl rfl rfl ?_
 refine ae hP<|aq ai (aC hT rfl rfl)<|ag<|ae hP<|ab (ah (eI _ (by first | assumption | decide))) ?_
 refine aq ai (aC hT rfl rfl)<|aI hT rfl<|ag<|ao<|ae hP<|ak rfl<|ab (aU hT rfl rfl rfl rfl)<|ak rfl<|ag<|aA<|dT 4 ?_
 refine ae hP<|ab (bi rfl rfl)<|ag<|ao<|aV rfl (by decide) ?_
 refine au<|ao<|aA<|ae hP<|cK ?_
 refine ab (bf hT rfl rfl rfl (cs:=[_,_]) rfl rfl)<|aq ai (aC hT rfl rfl)<|aI hT rfl<|ag<|aw hP<|av hT rfl<|av hT rfl<|ab (ah (dP _ _ lz lz)) ?_
 refine aI hT rfl<|ag<|aw hP<|bv rfl rfl ?_
 refine ak rfl<|ag<|ae hP<|ab (bi rfl rfl)<|ag<|ao<|aV rfl (by decide) ?_
 refine au<|ao<|aA<|ae hP<|cK ?_
 refine ab (bf hT rfl rfl rfl (cs:=[_,_]) rfl rfl)<|aq ai (aC hT rfl rfl)<|aI hT rfl<|ag<|aw hP<|av hT rfl<|av hT rfl<|ab (ah (dP _ _ lz lz)) ?_
 refine aI hT rfl<|ag<|aw hP<|bv rfl rfl ?_
 refine ak rfl<|ag<|ae hP<|ab (bi rfl rfl)<|ag<|ao<|aV rfl (by decide) ?_
 refine au<|ao<|aA<|ae hP<|cK ?_
 refine ab (bf hT rfl rfl rfl (cs:=[_,_]) rfl rfl)<|aq ai (aC hT rfl rfl)<|aI hT rfl<|ag<|aw hP<|av hT rfl<|av hT rfl<|ab (ah (dP _ _ lz lz)) ?_
 refine aI hT rfl<|ag<|aw hP<|bv rfl rfl ?_
 refine ak rfl<|ag<|ae hP<|ab (bi rfl rfl)<|ag<|ao<|aQ rfl (by decide) ?_
 refine aZ<|ae hP<|av hT rfl<|aI hT rfl<|ag<|am<|E2 hT rfl rfl rfl rfl rfl rfl rfl ?_
 exact Sub.I (by rw [Int.one_mul])
theorem pM (x:Int) (hx:L 40 x) :
  aJ Tryz.prog 126 [I x] (B (fh x)):=by
 have ix:LB x 40:=⟨hx⟩
 refine aO Tryz.func126 rfl rfl rfl rfl ?_
 refine ae hP<|aq ai (aL rfl rfl)<|aj rfl<|ag<|ae hP<|av hT rfl<|ab (ah (Cq _ lz)) ?_
 refine ab (aB (rfl:_=AV.t _))<|ab (aE rfl (v:=.a _) rfl)<|ab (aE rfl (v:=.a _) rfl)<|ab (aE rfl (v:=.c _) rfl)<|aq ai (aC hT rfl rfl)<|aq ai (aC hT rfl rfl)<|aI hT rfl<|aI hT rfl<|aj rfl<|ag<|ae hP<|ak rfl<|ab (bh rfl rfl)<|ak rfl ?_
 refine aW (t:=14) rfl (fun hg1=>?_) (fun hg1=>?_)
 ·have hg1_:=bT hg1
  refine ay hg1 (aF hT rfl rfl rfl rfl (cs:=[_,_]) rfl rfl) ?_
  refine ay hg1 (ah (dp _)) ?_
  refine ay hg1 (bh rfl rfl) ?_
  refine ab (aN rfl hg1 (rfl:_=AV.p (.c _)))<|aj rfl<|ag<|am<|E1 rfl rfl ?_
  exact aT (ur hg1)
 have hg1_:=bF hg1
 iterate 3 refine aX hg1 ?_
 refine ab (aK rfl hg1 (rfl:_=AV.p (.c _)))<|aj rfl<|ag<|am<|E1 rfl rfl ?_
 exact aT (G5 hg1)
theorem fV (a b c:Int) (ha:L 36 a) (hb:L 36 b) (hc:L 36 c) :
  aJ Tryz.prog 40 [FA a b c] (I (dsc a b c)):=by
 have ia:LB a 36:=⟨ha⟩
 have ib:LB b 36:=⟨hb⟩
 have ic:LB c 36:=⟨hc⟩
 refine aO Tryz.func40 rfl rfl rfl rfl ?_
 refine ae hP<|aq ai (aL rfl rfl)<|aq ai (aC hT rfl rfl)<|ag<|ae hP<|aG hT rfl<|av hT rfl<|aG hT rfl<|av hT rfl<|ab (bd hT rfl rfl rfl (es:=[_,_,_,_]) rfl rfl rfl)<|ab (ah (db _ _ lz lz)) ?_
 refine ab (ah (eI _ (by first | assumption | decide))) ?_
 refine aG hT rfl<|av hT rfl<|aG hT rfl<|av hT rfl<|ab (bd hT rfl rfl rfl (es:=[_,_,_,_,_,_]) rfl rfl rfl)<|ab (ah (gk _ _ _ lz lz lz)) ?_
 refine ab (ah (ka _ _ lz lz)) ?_
 refine aI hT rfl<|ag<|am<|E2 hT rfl rfl rfl rfl rfl rfl rfl ?_
 exact .refl _
theorem nN (a b c:Int) (ha:L 34 a) (hb:L 34 b) (hc:L 34 c) :
  aJ Tryz.prog 111 [FA a b c] (Z (ck a b c)):=by
 have ia:LB a 34:=⟨ha⟩
 have ib:LB b 34:=⟨hb⟩
 have ic:LB c 34:=⟨hc⟩
 have cDs:=fV a b c lz lz lz
 have ids:LB (dsc a b c) 40:=⟨lz⟩
 generalize hδ:dsc a b c=δ at cDs ids
 refine aO Tryz.func111 rfl rfl rfl rfl ?_
 refine ae hP<|aq ai (aL rfl rfl)<|aj rfl<|ag<|ao<|ae hP<|aG hT rfl<|av hT rfl<|aG hT rfl<|av hT rfl<|aG hT rfl<|av hT rfl<|ab (dz hT rfl rfl rfl (es:=[_,_,_,_,_,_]) rfl)<|ak rfl<|ag<|aA<|dT 4 ?_
 refine ae hP<|ab (bi rfl rfl)<|ag<|ao<|aV rfl (by decide) ?_
 refine au<|ao<|aA<|ae hP<|ab (jO hT rfl rfl rfl rfl rfl rfl (by decide) (es:=[_,_]) rfl rfl) ?_
 refine aq ai (aC hT rfl rfl)<|aI hT rfl<|ag<|ae hP<|av hT rfl<|ab (ah (mV _ lz)) ?_
 refine ab (bt rfl)<|ag<|aQ rfl rfl<|au<|aw hP<|bv rfl rfl ?_
 refine ak rfl<|ag<|ae hP<|ab (bi rfl rfl)<|ag<|ao<|aV rfl (by decide) ?_
 refine au<|ao<|aA<|ae hP<|ab (jO hT rfl rfl rfl rfl rfl rfl (by decide) (es:=[_,_]) rfl rfl) ?_
 refine aq ai (aC hT rfl rfl)<|aI hT rfl<|ag<|ae hP<|av hT rfl<|ab (ah (mV _ lz)) ?_
 refine ab (bt rfl)<|ag<|aQ rfl rfl<|au<|aw hP<|bv rfl rfl ?_
 refine ak rfl<|ag<|ae hP<|ab (bi rfl rfl)<|ag<|ao<|aV rfl (by decide) ?_
 refine au<|ao<|aA<|ae hP<|ab (jO hT rfl rfl rfl rfl rfl rfl (by decide) (es:=[_,_]) rfl rfl) ?_
 refine aq ai (aC hT rfl rfl)<|aI hT rfl<|ag<|ae hP<|av hT rfl<|ab (ah (mV _ lz)) ?_
 refine ab (bt rfl)<|ag<|aQ rfl rfl<|au<|aw hP<|bv rfl rfl ?_
 refine ak rfl<|ag<|ae hP<|ab (bi rfl rfl)<|ag<|ao<|aQ rfl (by decide) ?_
 refine aZ<|dq (t:=stL [(1,.loc 1 0)] [(1,⟨false,1,46,FL a b c⟩)]) (aD ⟨.refl _,trivial⟩ ⟨rfl,trivial⟩) ?_
 refine ae hP<|br hT rfl rfl rfl rfl rfl rfl<|ab (ah cDs) ?_
 refine aq ai (aC hT rfl rfl)<|aI hT rfl<|ag<|ao<|aA<|ae hP<|av hT rfl<|ab (ah (pM _ lz)) ?_
 refine aj rfl<|ag ?_
 refine az rfl (fun hb1=>?_) (fun hb1=>?_)
 ·refine ae hP<|aj rfl<|ag<|am<|E1 rfl rfl ?_
  exact aM (Ev (by rw [hδ];exact hb1))
 refine ae hP<|av hT rfl<|ab (ah (dp _)) ?_
 refine ab (bi rfl rfl)<|ak rfl ?_
 refine aW (t:=29) rfl (fun hg2=>?_) (fun hg2=>?_)
 ·have hg2_:=dT0 hg2
  refine ay hg2 (aP hT rfl rfl rfl rfl rfl rfl) ?_
  refine ay hg2 (aF hT rfl rfl rfl rfl (cs:=[_,_]) rfl rfl) ?_
  refine ay hg2 (ah (dp _)) ?_
  refine ay hg2 (eX rfl rfl) ?_
  refine ab (aN rfl hg2 (rfl:_=AV.p (.c _)))<|aj rfl<|ag ?_
  refine az rfl (fun hb3=>?_) (fun hb3=>?_)
  ·have hb3_:=dT0 hb3
   refine ae hP<|aj rfl<|ag<|am<|E1 rfl rfl ?_
   exact aM (Au (by rw [hδ];exact hb1) (by rw [hδ];exact hg2_) hb3_)
  have hb3_:=dF0 hb3
  refine au<|ae hP<|aj rfl<|ag<|am<|E1 rfl rfl ?_
  exact aM (Ew (by rw [hδ];exact hb1) (by rw [hδ];exact hg2_) hb3_)
 have hg2_:=dF0 hg2
 iterate 4 refine aX hg2 ?_
 refine ab (aK rfl hg2 (rfl:_=AV.p (.c _)))<|aj rfl<|ag<|aQ rfl rfl<|au<|ae hP<|aj rfl<|ag<|am<|E1 rfl rfl ?_
 exact aM (Ar (by rw [hδ];exact hb1) (by rw [hδ];exact hg2_))
theorem kQ (a b c:Int) (ha:L 44 a) (hb:L 44 b) (hc:L 44 c) :
  aJ Tryz.prog 53 [FA a b c] (B (prim a b c)):=by
 have ia:LB a 44:=⟨ha⟩
 have ib:LB b 44:=⟨hb⟩
 have ic:LB c 44:=⟨hc⟩
 have ig:=AW hb hc
 refine aO Tryz.func53 rfl rfl rfl rfl ?_
 refine ae hP<|aq ai (aL rfl rfl)<|aj rfl<|ag<|ae hP<|aG hT rfl<|av hT rfl<|aG hT rfl<|av hT rfl<|aG hT rfl<|av hT rfl<|ab (ah (nU _ _ lz lz)) ?_
 refine ab (ah (nU _ _ lz lz)) ?_
 refine ab (ah (eI _ (by first | assumption | decide))) ?_
 refine ab (ah (dL _ _)) ?_
 refine ab (bh rfl rfl)<|aj rfl<|ag<|am<|E1 rfl rfl ?_
 exact aT (BX _ _ _)
theorem qw (a b c x y:Int) (ha:L 36 a) (hb:L 36 b) (hc:L 36 c) (hx:L 36 x) (hy:L 36 y) :
  aJ Tryz.prog 44 [FA a b c,I x,I y] (I (vl a b c x y)):=by
 have ia:LB a 36:=⟨ha⟩
 have ib:LB b 36:=⟨hb⟩
 have ic:LB c 36:=⟨hc⟩
 have ix:LB x 36:=⟨hx⟩
 have iy:LB y 36:=⟨hy⟩
 refine aO Tryz.func44 rfl rfl rfl rfl ?_
 refine ae hP<|aq ai (aL rfl rfl)<|aq ai (aL rfl rfl)<|aq ai (aL rfl rfl)<|aq ai (aC hT rfl rfl)<|ag<|ae hP<|aG hT rfl<|av hT rfl<|av hT rfl<|av hT rfl<|ab (bd hT rfl rfl rfl (es:=[_,_,_,_,_,_]) rfl rfl rfl)<|ab (ah (gk _ _ _ lz lz lz)) ?_
 refine aG hT rfl<|av hT rfl<|av hT rfl<|av hT rfl<|ab (bd hT rfl rfl rfl (es:=[_,_,_,_,_,_]) rfl rfl rfl)<|ab (ah (gk _ _ _ lz lz lz)) ?_
 refine ab (ah (dQ _ _ lz lz)) ?_
 refine aG hT rfl<|av hT rfl<|av hT rfl<|av hT rfl<|ab (bd hT rfl rfl rfl (es:=[_,_,_,_,_,_]) rfl rfl rfl)<|ab (ah (gk _ _ _ lz lz lz)) ?_
 refine ab (ah (dQ _ _ lz lz)) ?_
 refine aI hT rfl<|ag<|am<|E2 hT rfl rfl rfl rfl rfl rfl rfl ?_
 exact .refl _
theorem Gj (a b c p q r s:Int) (ha:L 34 a) (hb:L 34 b) (hc:L 34 c) (hp:L 34 p) (hq:L 34 q) (hr:L 34 r) (hs:L 34 s) :
  aJ Tryz.prog 46 [FA a b c,MA p q r s] (FA (vl a b c p r) (apB a b c p q r s) (vl a b c q s)):=by
 have ia:LB a 34:=⟨ha⟩
 have ib:LB b 34:=⟨hb⟩
 have ic:LB c 34:=⟨hc⟩
 have ip:LB p 34:=⟨hp⟩
 have iq:LB q 34:=⟨hq⟩
 have ir:LB r 34:=⟨hr⟩
 have is:LB s 34:=⟨hs⟩
 refine aO Tryz.func46 rfl rfl rfl rfl ?_
 refine ae hP<|aq ai (aL rfl rfl)<|aq ai (aL rfl rfl)<|aq ai (aC hT rfl rfl)<|ag<|ae hP<|aG hT rfl<|av hT rfl<|aG hT rfl<|av hT rfl<|ab (bd hT rfl rfl rfl (es:=[_,_,_,_]) rfl rfl rfl)<|ab (ah (db _ _ lz lz)) ?_
 refine aG hT rfl<|av hT rfl<|aG hT rfl<|av hT rfl<|ab (bd hT rfl rfl rfl (es:=[_,_,_,_]) rfl rfl rfl)<|ab (ah (db _ _ lz lz)) ?_
 refine ab (ah (dQ _ _ lz lz)) ?_
 refine aq ai (aC hT rfl rfl)<|aI hT rfl<|ag<|ae hP<|aG hT rfl<|av hT rfl<|aG hT rfl<|av hT rfl<|aG hT rfl<|av hT rfl<|ab (bd hT rfl rfl rfl (es:=[_,_,_,_,_,_]) rfl rfl rfl)<|ab (ah (gk _ _ _ lz lz lz)) ?_
 refine aG hT rfl<|av hT rfl<|aG hT rfl<|av hT rfl<|aG hT rfl<|av hT rfl<|ab (bd hT rfl rfl rfl (es:=[_,_,_,_,_,_]) rfl rfl rfl)<|ab (ah (gk _ _ _ lz lz lz)) ?_
 refine ab (ah (dQ _ _ lz lz)) ?_
 refine aq ai (aC hT rfl rfl)<|aI hT rfl<|ag<|ae hP<|br hT rfl rfl rfl rfl rfl rfl<|aG hT rfl<|av hT rfl<|aG hT rfl<|av hT rfl<|ab (ah (qw _ _ _ _ _ lz lz lz lz lz)) ?_
 refine ab (ah (eI _ (by first | assumption | decide))) ?_
 refine av hT rfl<|ab (bd hT rfl rfl rfl (es:=[_,_,_,_]) rfl rfl rfl)<|ab (ah (db _ _ lz lz)) ?_
 refine aG hT rfl<|av hT rfl<|av hT rfl<|ab (bd hT rfl rfl rfl (es:=[_,_,_,_]) rfl rfl rfl)<|ab (ah (db _ _ lz lz)) ?_
 refine ab (ah (dQ _ _ lz lz)) ?_
 refine br hT rfl rfl rfl rfl rfl rfl<|aG hT rfl<|av hT rfl<|aG hT rfl<|av hT rfl<|ab (ah (qw _ _ _ _ _ lz lz lz lz lz)) ?_
 refine ab (a6 hT rfl rfl rfl (es:=[_,_,_,_,_,_]) rfl)<|aI hT rfl<|ag<|am ?_
 refine bW rfl (.inr rfl) (aS hT rfl rfl rfl rfl (cs:=[_,_,_,_,_,_]) rfl rfl) ?_ bu
 exact .refl _
theorem zy (p q r s:Int) :
  aJ Tryz.prog 209 [MA p q r s] (MA p q r s):=by
 refine aO Tryz.func209 rfl rfl rfl rfl ?_
 refine ae hP<|aq ai (aL rfl rfl)<|aq ai (aC hT rfl rfl)<|ag<|ae hP<|aG hT rfl<|av hT rfl<|aG hT rfl<|av hT rfl<|ab (dz hT rfl rfl rfl (es:=[_,_,_,_]) rfl)<|aG hT rfl<|av hT rfl<|aG hT rfl<|av hT rfl<|ab (dz hT rfl rfl rfl (es:=[_,_,_,_]) rfl)<|ab (dz hT rfl rfl rfl (es:=[_,_,_,_,_,_,_,_]) rfl)<|aI hT rfl<|ag<|am ?_
 refine bW rfl (.inr rfl) (aS hT rfl rfl rfl rfl (cs:=[_,_,_,_,_,_,_,_]) rfl rfl) ?_ bu
 exact .refl _
theorem wn (p q r s t u v w:Int) (hp:L 38 p) (hq:L 38 q) (hr:L 38 r) (hs:L 38 s) (ht:L 38 t) (hu:L 38 u) (hv:L 38 v) (hw:L 38 w) :
  aJ Tryz.prog 172 [MA p q r s,MA t u v w] (MA (p*t+q*v) (p*u+q*w) (r*t+s*v) (r*u+s*w)):=by
 have ip:LB p 38:=⟨hp⟩
 have iq:LB q 38:=⟨hq⟩
 have ir:LB r 38:=⟨hr⟩
 have is:LB s 38:=⟨hs⟩
 have it:LB t 38:=⟨ht⟩
 have iu:LB u 38:=⟨hu⟩
 have iv:LB v 38:=⟨hv⟩
 have iw:LB w 38:=⟨hw⟩
 refine aO Tryz.func172 rfl rfl rfl rfl ?_
 refine ae hP<|aq ai (aL rfl rfl)<|aq ai (aL rfl rfl)<|aq ai (aC hT rfl rfl)<|ag<|ae hP<|ab (aF hT rfl rfl rfl rfl (cs:=[_,_,_,_,_,_,_,_]) rfl rfl)<|ab (ah (zy _ _ _ _)) ?_
 refine ab (aF hT rfl rfl rfl rfl (cs:=[_,_,_,_,_,_,_,_]) rfl rfl)<|ab (ah (zy _ _ _ _)) ?_
 refine aq ai (aC hT rfl rfl)<|aq ai (aC hT rfl rfl)<|aI hT rfl<|aI hT rfl<|ag<|ae hP<|aq ai (aC hT rfl rfl)<|ag<|ao<|ae hP<|ak rfl<|ag<|aA<|dT 3 ?_
 refine ae hP<|ab (bi rfl rfl)<|ag<|ao<|aV rfl (by decide) ?_
 refine au<|ao<|aA<|ae hP<|ak rfl<|aj rfl<|ag<|ae hP<|ak rfl<|ag<|aA<|dT 3 ?_
 refine ae hP<|ab (bi rfl rfl)<|ag<|ao<|aV rfl (by decide) ?_
 refine au<|ao<|aA<|ae hP<|ak rfl<|aj rfl<|ag<|aw hP<|ak rfl<|ak rfl<|ak rfl<|ab (aY hT rfl rfl rfl rfl rfl (by first | decide | omega)) ?_
 refine ab (aY hT rfl rfl rfl rfl rfl (by first | decide | omega)) ?_
 refine av hT rfl<|ak rfl<|ab (aY hT rfl rfl rfl rfl rfl (by first | decide | omega)) ?_
 refine ab (aY hT rfl rfl rfl rfl rfl (by first | decide | omega)) ?_
 refine av hT rfl<|ab (bd hT rfl rfl rfl (es:=[_,_,_,_]) rfl rfl rfl)<|ab (ah (db _ _ lz lz)) ?_
 refine ak rfl<|ab (aY hT rfl rfl rfl rfl rfl (by first | decide | omega)) ?_
 refine ab (aY hT rfl rfl rfl rfl rfl (by first | decide | omega)) ?_
 refine av hT rfl<|ak rfl<|ab (aY hT rfl rfl rfl rfl rfl (by first | decide | omega)) ?_
 refine ab (aY hT rfl rfl rfl rfl rfl (by first | decide | omega)) ?_
 refine av hT rfl<|ab (bd hT rfl rfl rfl (es:=[_,_,_,_]) rfl rfl rfl)<|ab (ah (db _ _ lz lz)) ?_
 refine ab (ah (dQ _ _ lz lz)) ?_
 refine ab (aY hT rfl rfl rfl rfl rfl (by first | decide | omega)) ?_
 refine ab (aY hT rfl rfl rfl rfl rfl (by first | decide | omega)) ?_
 refine aI hT rfl<|ag<|aw hP<|bv rfl rfl ?_
 refine ak rfl<|ag<|ae hP<|ab (bi rfl rfl)<|ag<|ao<|aV rfl (by decide) ?_
 refine au<|ao<|aA<|ae hP<|ak rfl<|aj rfl<|ag<|aw hP<|ak rfl<|ak rfl<|ak rfl<|ab (aY hT rfl rfl rfl rfl rfl (by first | decide | omega)) ?_
 refine ab (aY hT rfl rfl rfl rfl rfl (by first | decide | omega)) ?_
 refine av hT rfl<|ak rfl<|ab (aY hT rfl rfl rfl rfl rfl (by first | decide | omega)) ?_
 refine ab (aY hT rfl rfl rfl rfl rfl (by first | decide | omega)) ?_
 refine av hT rfl<|ab (bd hT rfl rfl rfl (es:=[_,_,_,_]) rfl rfl rfl)<|ab (ah (db _ _ lz lz)) ?_
 refine ak rfl<|ab (aY hT rfl rfl rfl rfl rfl (by first | decide | omega)) ?_
 refine ab (aY hT rfl rfl rfl rfl rfl (by first | decide | omega)) ?_
 refine av hT rfl<|ak rfl<|ab (aY hT rfl rfl rfl rfl rfl (by first | decide | omega)) ?_
 refine ab (aY hT rfl rfl rfl rfl rfl (by first | decide | omega)) ?_
 refine av hT rfl<|ab (bd hT rfl rfl rfl (es:=[_,_,_,_]) rfl rfl rfl)<|ab (ah (db _ _ lz lz)) ?_
 refine ab (ah (dQ _ _ lz lz)) ?_
 refine ab (aY hT rfl rfl rfl rfl rfl (by first | decide | omega)) ?_
 refine ab (aY hT rfl rfl rfl rfl rfl (by first | decide | omega)) ?_
 refine aI hT rfl<|ag<|aw hP<|bv rfl rfl ?_
 refine ak rfl<|ag<|ae hP<|ab (bi rfl rfl)<|ag<|ao<|aQ rfl (by decide) ?_
 refine aZ<|aw hP<|bv rfl rfl ?_
 refine ak rfl<|ag<|ae hP<|ab (bi rfl rfl)<|ag<|ao<|aV rfl (by decide) ?_
 refine au<|ao<|aA<|ae hP<|ak rfl<|aj rfl<|ag<|ae hP<|ak rfl<|ag<|aA<|dT 3 ?_
 refine ae hP<|ab (bi rfl rfl)<|ag<|ao<|aV rfl (by decide) ?_
 refine au<|ao<|aA<|ae hP<|ak rfl<|aj rfl<|ag<|aw hP<|ak rfl<|ak rfl<|ak rfl<|ab (aY hT rfl rfl rfl rfl rfl (by first | decide | omega)) ?_
 refine ab (aY hT rfl rfl rfl rfl rfl (by first | decide | omega)) ?_
 refine av hT rfl<|ak rfl<|ab (aY hT rfl rfl rfl rfl rfl (by first | decide | omega)) ?_
 refine ab (aY hT rfl rfl rfl rfl rfl (by first | decide | omega)) ?_
 refine av hT rfl<|ab (bd hT rfl rfl rfl (es:=[_,_,_,_]) rfl rfl rfl)<|ab (ah (db _ _ lz lz)) ?_
 refine ak rfl<|ab (aY hT rfl rfl rfl rfl rfl (by first | decide | omega)) ?_
 refine ab (aY hT rfl rfl rfl rfl rfl (by first | decide | omega)) ?_
 refine av hT rfl<|ak rfl<|ab (aY hT rfl rfl rfl rfl rfl (by first | decide | omega)) ?_
 refine ab (aY hT rfl rfl rfl rfl rfl (by first | decide | omega)) ?_
 refine av hT rfl<|ab (bd hT rfl rfl rfl (es:=[_,_,_,_]) rfl rfl rfl)<|ab (ah (db _ _ lz lz)) ?_
 refine ab (ah (dQ _ _ lz lz)) ?_
 refine ab (aY hT rfl rfl rfl rfl rfl (by first | decide | omega)) ?_
 refine ab (aY hT rfl rfl rfl rfl rfl (by first | decide | omega)) ?_
 refine aI hT rfl<|ag<|aw hP<|bv rfl rfl ?_
 refine ak rfl<|ag<|ae hP<|ab (bi rfl rfl)<|ag<|ao<|aV rfl (by decide) ?_
 refine au<|ao<|aA<|ae hP<|ak rfl<|aj rfl<|ag<|aw hP<|ak rfl<|ak rfl<|ak rfl<|ab (aY hT rfl rfl rfl rfl rfl (by first | decide | omega)) ?_
 refine ab (aY hT rfl rfl rfl rfl rfl (by first | decide | omega)) ?_
 refine av hT rfl<|ak rfl<|ab (aY hT rfl rfl rfl rfl rfl (by first | decide | omega)) ?_
 refine ab (aY hT rfl rfl rfl rfl rfl (by first | decide | omega)) ?_
 refine av hT rfl<|ab (bd hT rfl rfl rfl (es:=[_,_,_,_]) rfl rfl rfl)<|ab (ah (db _ _ lz lz)) ?_
 refine ak rfl<|ab (aY hT rfl rfl rfl rfl rfl (by first | decide | omega)) ?_
 refine ab (aY hT rfl rfl rfl rfl rfl (by first | decide | omega)) ?_
 refine av hT rfl<|ak rfl<|ab (aY hT rfl rfl rfl rfl rfl (by first | decide | omega)) ?_
 refine ab (aY hT rfl rfl rfl rfl rfl (by first | decide | omega)) ?_
 refine av hT rfl<|ab (bd hT rfl rfl rfl (es:=[_,_,_,_]) rfl rfl rfl)<|ab (ah (db _ _ lz lz)) ?_
 refine ab (ah (dQ _ _ lz lz)) ?_
 refine ab (aY hT rfl rfl rfl rfl rfl (by first | decide | omega)) ?_
 refine ab (aY hT rfl rfl rfl rfl rfl (by first | decide | omega)) ?_
 refine aI hT rfl<|ag<|aw hP<|bv rfl rfl ?_
 refine ak rfl<|ag<|ae hP<|ab (bi rfl rfl)<|ag<|ao<|aQ rfl (by decide) ?_
 refine aZ<|aw hP<|bv rfl rfl ?_
 refine ak rfl<|ag<|ae hP<|ab (bi rfl rfl)<|ag<|ao<|aQ rfl (by decide) ?_
 refine aZ<|ae hP<|ab (aY hT rfl rfl rfl rfl rfl (by first | decide | omega)) ?_
 refine ab (aY hT rfl rfl rfl rfl rfl (by first | decide | omega)) ?_
 refine av hT rfl<|ab (aY hT rfl rfl rfl rfl rfl (by first | decide | omega)) ?_
 refine ab (aY hT rfl rfl rfl rfl rfl (by first | decide | omega)) ?_
 refine av hT rfl<|ab (aY hT rfl rfl rfl rfl rfl (by first | decide | omega)) ?_
 refine ab (aY hT rfl rfl rfl rfl rfl (by first | decide | omega)) ?_
 refine av hT rfl<|ab (aY hT rfl rfl rfl rfl rfl (by first | decide | omega)) ?_
 refine ab (aY hT rfl rfl rfl rfl rfl (by first | decide | omega)) ?_
 refine av hT rfl<|ab (a6 hT rfl rfl rfl (es:=[_,_,_,_,_,_,_,_]) rfl)<|aI hT rfl<|ag<|am ?_
 refine bW rfl (.inr rfl) (aS hT rfl rfl rfl rfl (cs:=[_,_,_,_,_,_,_,_]) rfl rfl) ?_ bu
 exact .refl _
theorem rB (a b c:Int) (ha:L 34 a) (hb:L 34 b) (hc:L 34 c) :
  aJ Tryz.prog 112 [FA a b c] (B (rdd a b c)):=by
 have ia:LB a 34:=⟨ha⟩
 have ib:LB b 34:=⟨hb⟩
 have ic:LB c 34:=⟨hc⟩
 refine aO Tryz.func112 rfl rfl rfl rfl ?_
 refine ae hP<|aq ai (aL rfl rfl)<|aj rfl<|ag<|ao<|ae hP<|br hT rfl rfl rfl rfl rfl rfl<|ab (ah (nN _ _ _ lz lz lz)) ?_
 refine ab (bq rfl rfl)<|ak rfl ?_
 refine aW (t:=8) rfl (fun hg1=>?_) (fun hg1=>?_)
 ·have hg1_:=bY hg1
  iterate 4 refine aX hg1 ?_
  refine ab (aN rfl hg1 (rfl:_=AV.p (.c _)))<|ag<|aV rfl rfl<|ae hP<|aj rfl<|ag<|am<|E1 rfl rfl ?_
  exact aT (LL hg1_)
 have hg1_:=bS hg1
 refine ay hg1 (aF hT rfl rfl rfl rfl (cs:=[_,_,_,_,_,_]) rfl rfl) ?_
 refine ay hg1 (ah (fV _ _ _ lz lz lz)) ?_
 refine ay hg1 (ah (dp _)) ?_
 refine ay hg1 (bK rfl rfl) ?_
 refine ab (aK rfl hg1 (rfl:_=AV.p (.c _)))<|ag ?_
 refine az rfl (fun hb2=>?_) (fun hb2=>?_)
 ·have hb2_:=dT0 hb2
  refine ae hP<|aj rfl<|ag<|am<|E1 rfl rfl ?_
  exact aT (LJ hb2_)
 have hb2_:=dF0 hb2
 refine au<|ae hP<|aG hT rfl<|av hT rfl<|ab (ah (nV _)) ?_
 refine aG hT rfl<|av hT rfl<|ab (ah (dL _ _)) ?_
 refine aG hT rfl<|av hT rfl<|aG hT rfl<|av hT rfl<|ab (ah (dL _ _)) ?_
 refine aj rfl<|aj rfl<|ag<|ae hP<|ak rfl<|ab (eX rfl rfl)<|ak rfl ?_
 refine aW (t:=27) rfl (fun hg3=>?_) (fun hg3=>?_)
 ·have hg3_:=dT0 hg3
  refine ay hg3 (aB (rfl:_=AV.p (.c _))) ?_
  refine ay hg3 (eX rfl rfl) ?_
  refine ab (aN rfl hg3 (rfl:_=AV.p (.c _)))<|ak rfl ?_
  refine aW (t:=31) rfl (fun hg4=>?_) (fun hg4=>?_)
  ·have hg4_:=dT0 hg4
   refine ay hg4 (aB (rfl:_=AV.p (.c _))) ?_
   refine ay hg4 (bi rfl rfl) ?_
   refine ay hg4 (aB (rfl:_=AV.p (.c _))) ?_
   refine aW (t:=34) rfl (fun hg5=>?_) (fun hg5=>?_)
   ·have hg5_:=dT0 hg5
    refine ay hg5 (aB (rfl:_=AV.p (.c _))) ?_
    refine ay hg5 (bi rfl rfl) ?_
    refine ay hg4 (aN rfl hg5 (rfl:_=AV.p (.c _))) ?_
    refine ay hg4 (aB (rfl:_=AV.p (.c _))) ?_
    refine aW (t:=38) rfl (fun hg6=>?_) (fun hg6=>?_)
    ·have hg6_:=dT0 hg6
     iterate 4 refine aX hg6 ?_
     refine ay hg4 (aN rfl hg6 (rfl:_=AV.p (.c _))) ?_
     refine ab (aN rfl hg4 (rfl:_=AV.p (.c _)))<|aj rfl<|ag<|am<|E1 rfl rfl ?_
     exact aT (LI hg1_ hb2_ hg5_ hg6_)
    have hg6_:=dF0 hg6
    refine ay hg6 (aP hT rfl rfl rfl rfl rfl rfl) ?_
    refine ay hg6 (aF hT rfl rfl rfl rfl (cs:=[_,_]) rfl rfl) ?_
    refine ay hg6 (ah (dp _)) ?_
    refine ay hg6 (dm rfl rfl) ?_
    refine ay hg4 (aK rfl hg6 (rfl:_=AV.p (.c _))) ?_
    refine ab (aN rfl hg4 (rfl:_=AV.p (.c _)))<|aj rfl<|ag<|am<|E1 rfl rfl ?_
    exact aT (D0 hg1_ hb2_ hg3_ hg4_ (fun h=>hg6_ h.2))
   have hg5_:=dF0 hg5
   refine aX hg5 ?_
   refine aX hg5 ?_
   refine ay hg4 (aK rfl hg5 (rfl:_=AV.p (.c _))) ?_
   refine ay hg4 (aB (rfl:_=AV.p (.c _))) ?_
   refine ay rfl (aP hT rfl rfl rfl rfl rfl rfl) ?_
   refine ay rfl (aF hT rfl rfl rfl rfl (cs:=[_,_]) rfl rfl) ?_
   refine ay rfl (ah (dp _)) ?_
   refine ay rfl (dm rfl rfl) ?_
   refine ay hg4 (aK rfl rfl (rfl:_=AV.p (.c _))) ?_
   refine ab (aN rfl hg4 (rfl:_=AV.p (.c _)))<|aj rfl<|ag<|am<|E1 rfl rfl ?_
   exact aT (D0 hg1_ hb2_ hg3_ hg4_ (fun h=>hg5_ h.1))
  have hg4_:=dF0 hg4
  iterate 3 refine aX hg4 ?_
  refine fk ?_
  refine fk ?_
  refine aX hg4 ?_
  refine aX hg4 ?_
  iterate 4 refine fk ?_
  refine aX hg4 ?_
  refine ab (aK rfl hg4 (rfl:_=AV.p (.c _)))<|aj rfl<|ag<|am<|E1 rfl rfl ?_
  exact aT (LH hg4_)
 have hg3_:=dF0 hg3
 refine aX hg3 ?_
 refine aX hg3 ?_
 refine ab (aK rfl hg3 (rfl:_=AV.p (.c _)))<|ak rfl<|aX rfl ?_
 refine aX rfl ?_
 refine aX rfl ?_
 refine fk ?_
 refine fk ?_
 refine aX rfl ?_
 refine aX rfl ?_
 iterate 4 refine fk ?_
 refine aX rfl ?_
 refine ab (aK rfl rfl (rfl:_=AV.p (.c _)))<|aj rfl<|ag<|am<|E1 rfl rfl ?_
 exact aT (LG hg3_)
end
end Go.Proofs.YthaiejfjnllglaaGreatDoor

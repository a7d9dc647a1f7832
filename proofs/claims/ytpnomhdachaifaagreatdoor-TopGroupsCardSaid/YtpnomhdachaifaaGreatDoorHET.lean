import Derived.Test.YtpnomhdachaifaaGreatDoorHEB
import Derived.Test.YtpnomhdachaifaaGreatDoorHES
import Derived.Test.YtpnomhdachaifaaGreatDoorHEC
import Derived.Test.YtpnomhdachaifaaGreatDoorProg
import Derived.KernelRfl
set_option maxRecDepth 100000
set_option maxHeartbeats 2000000
namespace Go.Proofs.YtpnomhdachaifaaGreatDoor
section
open Go Go.AM
def ty2:TyI:=⟨.int .i64,1,8,[.v (.int .i64 0)]⟩
theorem M6:TyOK Tryz.prog 2 ty2:=TyOK.mk' (z:=.int .i64 0) (by kernel_rfl) Tryz.underlying2 rfl rfl ⟨z_v _ rfl,trivial⟩
def ty3:TyI:=⟨.int .i64,1,8,[.v (.int .i64 0)]⟩
theorem MX:TyOK Tryz.prog 3 ty3:=TyOK.mk' (z:=.int .i64 0) (by kernel_rfl) Tryz.underlying3 rfl rfl ⟨z_v _ rfl,trivial⟩
def ty4:TyI:=⟨.bool,1,1,[.v (.bool false)]⟩
theorem MV:TyOK Tryz.prog 4 ty4:=TyOK.mk' (z:=.bool false) (by kernel_rfl) Tryz.underlying4 trivial rfl ⟨z_v _ rfl,trivial⟩
def ty5:TyI:=⟨.int .u8,1,1,[.v (.int .u8 0)]⟩
theorem MR:TyOK Tryz.prog 5 ty5:=TyOK.mk' (z:=.int .u8 0) (by kernel_rfl) Tryz.underlying5 rfl rfl ⟨z_v _ rfl,trivial⟩
def ty9:TyI:=⟨.str,1,16,[.v (.string ⟨#[]⟩)]⟩
theorem MC:TyOK Tryz.prog 9 ty9:=TyOK.mk' (z:=.string ⟨#[]⟩) (by kernel_rfl) Tryz.underlying9 trivial rfl ⟨z_v _ rfl,trivial⟩
def Ni:TyI:=⟨.int .u64,1,8,[.v (.int .u64 0)]⟩
theorem Ji:TyOK Tryz.prog 12 Ni:=TyOK.mk' (z:=.int .u64 0) (by kernel_rfl) Tryz.underlying12 rfl rfl ⟨z_v _ rfl,trivial⟩
def Nh:TyI:=⟨.int .i32,1,4,[.v (.int .i32 0)]⟩
theorem Jh:TyOK Tryz.prog 21 Nh:=TyOK.mk' (z:=.int .i32 0) (by kernel_rfl) Tryz.underlying21 rfl rfl ⟨z_v _ rfl,trivial⟩
def Ng:TyI:=⟨.int .u16,1,2,[.v (.int .u16 0)]⟩
theorem Jg:TyOK Tryz.prog 22 Ng:=TyOK.mk' (z:=.int .u16 0) (by kernel_rfl) Tryz.underlying22 rfl rfl ⟨z_v _ rfl,trivial⟩
def Nf:TyI:=⟨.ar 4 22,4,8,[.v (.int .u16 0),.v (.int .u16 0),.v (.int .u16 0),.v (.int .u16 0)]⟩
theorem Jf:TyOK Tryz.prog 23 Nf:=TyOK.mk' (z:=.agg #[.int .u16 0,.int .u16 0,.int .u16 0,.int .u16 0]) (by kernel_rfl) Tryz.underlying23 ⟨rfl,rfl⟩ rfl ⟨z_v _ rfl,z_v _ rfl,z_v _ rfl,z_v _ rfl,trivial⟩
def Nc:TyI:=⟨.ar 4 5,4,4,[.v (.int .u8 0),.v (.int .u8 0),.v (.int .u8 0),.v (.int .u8 0)]⟩
theorem Je:TyOK Tryz.prog 24 Nc:=TyOK.mk' (z:=.agg #[.int .u8 0,.int .u8 0,.int .u8 0,.int .u8 0]) (by kernel_rfl) Tryz.underlying24 ⟨rfl,rfl⟩ rfl ⟨z_v _ rfl,z_v _ rfl,z_v _ rfl,z_v _ rfl,trivial⟩
def Nb:TyI:=⟨.st [(0,22),(1,23),(5,24)],9,14,[.v (.int .u16 0),.v (.int .u16 0),.v (.int .u16 0),.v (.int .u16 0),.v (.int .u16 0),.v (.int .u8 0),.v (.int .u8 0),.v (.int .u8 0),.v (.int .u8 0)]⟩
theorem Jd:TyOK Tryz.prog 25 Nb:=TyOK.mk' (z:=.agg #[.int .u16 0,.int .u16 0,.int .u16 0,.int .u16 0,.int .u16 0,.int .u8 0,.int .u8 0,.int .u8 0,.int .u8 0]) (by kernel_rfl) Tryz.underlying25 rfl rfl ⟨z_v _ rfl,z_v _ rfl,z_v _ rfl,z_v _ rfl,z_v _ rfl,z_v _ rfl,z_v _ rfl,z_v _ rfl,z_v _ rfl,trivial⟩
def Na:TyI:=⟨.st [(0,22),(1,23),(5,24)],9,14,[.v (.int .u16 0),.v (.int .u16 0),.v (.int .u16 0),.v (.int .u16 0),.v (.int .u16 0),.v (.int .u8 0),.v (.int .u8 0),.v (.int .u8 0),.v (.int .u8 0)]⟩
theorem Jc:TyOK Tryz.prog 26 Na:=TyOK.mk' (z:=.agg #[.int .u16 0,.int .u16 0,.int .u16 0,.int .u16 0,.int .u16 0,.int .u8 0,.int .u8 0,.int .u8 0,.int .u8 0]) (by kernel_rfl) Tryz.underlying26 rfl rfl ⟨z_v _ rfl,z_v _ rfl,z_v _ rfl,z_v _ rfl,z_v _ rfl,z_v _ rfl,z_v _ rfl,z_v _ rfl,z_v _ rfl,trivial⟩
def M9:TyI:=⟨.sl 60,1,24,[.sl 0 []]⟩
theorem Jb:TyOK Tryz.prog 27 M9:=TyOK.mk' (z:=.slice none 0 0) (by kernel_rfl) Tryz.underlying27 rfl rfl ⟨dH,trivial⟩
def M8:TyI:=⟨.st [(0,4),(1,27)],2,32,[.v (.bool false),.sl 0 []]⟩
theorem Ja:TyOK Tryz.prog 28 M8:=TyOK.mk' (z:=.agg #[.bool false,.slice none 0 0]) (by kernel_rfl) Tryz.underlying28 rfl rfl ⟨z_v _ rfl,dH,trivial⟩
def M7:TyI:=⟨.st [(0,4),(1,27)],2,32,[zn 0,zm 0]⟩
theorem I9:TyOK Tryz.prog 29 M7:=TyOK.mk' (z:=.agg #[.bool false,.slice none 0 0]) (by kernel_rfl) Tryz.underlying29 rfl rfl ⟨bY,bZ,trivial⟩
def M5:TyI:=⟨.sl 52,1,24,[.sl 0 []]⟩
theorem I8:TyOK Tryz.prog 32 M5:=TyOK.mk' (z:=.slice none 0 0) (by kernel_rfl) Tryz.underlying32 rfl rfl ⟨dH,trivial⟩
def M4:TyI:=⟨.int .i64,1,8,[.v (.int .i64 0)]⟩
theorem I7:TyOK Tryz.prog 33 M4:=TyOK.mk' (z:=.int .i64 0) (by kernel_rfl) Tryz.underlying33 rfl rfl ⟨z_v _ rfl,trivial⟩
def M3:TyI:=⟨.sl 42,1,24,[.sl 0 []]⟩
theorem I6:TyOK Tryz.prog 36 M3:=TyOK.mk' (z:=.slice none 0 0) (by kernel_rfl) Tryz.underlying36 rfl rfl ⟨dH,trivial⟩
def M0:TyI:=⟨.sl 42,1,24,[.sl 0 []]⟩
theorem I5:TyOK Tryz.prog 37 M0:=TyOK.mk' (z:=.slice none 0 0) (by kernel_rfl) Tryz.underlying37 rfl rfl ⟨dH,trivial⟩
def MZ:TyI:=⟨.st [(0,29),(2,32),(3,37),(4,3)],5,88,[zn 0,zm 0,.sl 0 [],.sl 0 [],.v (.int .i64 0)]⟩
theorem I4:TyOK Tryz.prog 38 MZ:=TyOK.mk' (z:=.agg #[.bool false,.slice none 0 0,.slice none 0 0,.slice none 0 0,.int .i64 0]) (by kernel_rfl) Tryz.underlying38 rfl rfl ⟨bY,bZ,dH,dH,z_v _ rfl,trivial⟩
def MY:TyI:=⟨.st [(0,29),(2,32),(3,37),(4,3)],5,88,[zn 0,zm 0,.sl 0 [],.sl 0 [],.v (.int .i64 0)]⟩
theorem I3:TyOK Tryz.prog 39 MY:=TyOK.mk' (z:=.agg #[.bool false,.slice none 0 0,.slice none 0 0,.slice none 0 0,.int .i64 0]) (by kernel_rfl) Tryz.underlying39 rfl rfl ⟨bY,bZ,dH,dH,z_v _ rfl,trivial⟩
def MW:TyI:=⟨.sl 29,1,24,[.sl 0 []]⟩
theorem I2:TyOK Tryz.prog 42 MW:=TyOK.mk' (z:=.slice none 0 0) (by kernel_rfl) Tryz.underlying42 rfl rfl ⟨dH,trivial⟩
def MU:TyI:=⟨.st [(0,29),(2,29),(4,29)],6,96,[zn 0,zm 0,zn 0,zm 0,zn 0,zm 0]⟩
theorem I0:TyOK Tryz.prog 51 MU:=TyOK.mk' (z:=.agg #[.bool false,.slice none 0 0,.bool false,.slice none 0 0,.bool false,.slice none 0 0]) (by kernel_rfl) Tryz.underlying51 rfl rfl ⟨bY,bZ,bY,bZ,bY,bZ,trivial⟩
def MT:TyI:=⟨.st [(0,29),(2,29),(4,29)],6,96,[zn 0,zm 0,zn 0,zm 0,zn 0,zm 0]⟩
theorem IZ:TyOK Tryz.prog 52 MT:=TyOK.mk' (z:=.agg #[.bool false,.slice none 0 0,.bool false,.slice none 0 0,.bool false,.slice none 0 0]) (by kernel_rfl) Tryz.underlying52 rfl rfl ⟨bY,bZ,bY,bZ,bY,bZ,trivial⟩
def MS:TyI:=⟨.int .u64,1,8,[.v (.int .u64 0)]⟩
theorem IY:TyOK Tryz.prog 58 MS:=TyOK.mk' (z:=.int .u64 0) (by kernel_rfl) Tryz.underlying58 rfl rfl ⟨z_v _ rfl,trivial⟩
def MQ:TyI:=⟨.int .u32,1,4,[.v (.int .u32 0)]⟩
theorem IX:TyOK Tryz.prog 60 MQ:=TyOK.mk' (z:=.int .u32 0) (by kernel_rfl) Tryz.underlying60 rfl rfl ⟨z_v _ rfl,trivial⟩
def MO:TyI:=⟨.int .u64,1,8,[.v (.int .u64 0)]⟩
theorem IW:TyOK Tryz.prog 61 MO:=TyOK.mk' (z:=.int .u64 0) (by kernel_rfl) Tryz.underlying61 rfl rfl ⟨z_v _ rfl,trivial⟩
def MK:TyI:=⟨.pt 71,1,8,[.v (.pointer none)]⟩
theorem IU:TyOK Tryz.prog 67 MK:=TyOK.mk' (z:=.pointer none) (by kernel_rfl) Tryz.underlying67 rfl rfl ⟨z_v _ rfl,trivial⟩
def MJ:TyI:=⟨.st [(0,39),(5,69),(6,32)],7,120,[zn 0,zm 0,.sl 0 [],.sl 0 [],.v (.int .i64 0),.v (.map none),.sl 0 []]⟩
theorem IR:TyOK Tryz.prog 70 MJ:=TyOK.mk' (z:=.agg #[.bool false,.slice none 0 0,.slice none 0 0,.slice none 0 0,.int .i64 0,.map none,.slice none 0 0]) (by kernel_rfl) Tryz.underlying70 rfl rfl ⟨bY,bZ,dH,dH,z_v _ rfl,z_v _ rfl,dH,trivial⟩
def MI:TyI:=⟨.st [(0,39),(5,69),(6,32)],7,120,[zn 0,zm 0,.sl 0 [],.sl 0 [],.v (.int .i64 0),.v (.map none),.sl 0 []]⟩
theorem IQ:TyOK Tryz.prog 71 MI:=TyOK.mk' (z:=.agg #[.bool false,.slice none 0 0,.slice none 0 0,.slice none 0 0,.int .i64 0,.map none,.slice none 0 0]) (by kernel_rfl) Tryz.underlying71 rfl rfl ⟨bY,bZ,dH,dH,z_v _ rfl,z_v _ rfl,dH,trivial⟩
def MH:TyI:=⟨.sl 3,1,24,[.sl 0 []]⟩
theorem IP:TyOK Tryz.prog 72 MH:=TyOK.mk' (z:=.slice none 0 0) (by kernel_rfl) Tryz.underlying72 rfl rfl ⟨dH,trivial⟩
def MG:TyI:=⟨.sl 92,1,24,[.sl 0 []]⟩
theorem IN:TyOK Tryz.prog 91 MG:=TyOK.mk' (z:=.slice none 0 0) (by kernel_rfl) Tryz.underlying91 rfl rfl ⟨dH,trivial⟩
def MF:TyI:=⟨.ar 3 2,3,24,[.v (.int .i64 0),.v (.int .i64 0),.v (.int .i64 0)]⟩
theorem IM:TyOK Tryz.prog 92 MF:=TyOK.mk' (z:=.agg #[.int .i64 0,.int .i64 0,.int .i64 0]) (by kernel_rfl) Tryz.underlying92 ⟨rfl,rfl⟩ rfl ⟨z_v _ rfl,z_v _ rfl,z_v _ rfl,trivial⟩
def MD:TyI:=⟨.sl 93,1,24,[.sl 0 []]⟩
theorem IK:TyOK Tryz.prog 94 MD:=TyOK.mk' (z:=.slice none 0 0) (by kernel_rfl) Tryz.underlying94 rfl rfl ⟨dH,trivial⟩
def HM:TyI:=⟨.sl 60,1,24,[.sl 0 []]⟩
theorem EU:TyOK Tryz.prog 101 HM:=TyOK.mk' (z:=.slice none 0 0) (by kernel_rfl) Tryz.underlying101 rfl rfl ⟨dH,trivial⟩
def HL:TyI:=⟨.st [(0,2),(1,2),(2,2)],3,24,[.v (.int .i64 0),.v (.int .i64 0),.v (.int .i64 0)]⟩
theorem ET:TyOK Tryz.prog 124 HL:=TyOK.mk' (z:=.agg #[.int .i64 0,.int .i64 0,.int .i64 0]) (by kernel_rfl) Tryz.underlying124 rfl rfl ⟨z_v _ rfl,z_v _ rfl,z_v _ rfl,trivial⟩
def HK:TyI:=⟨.st [(0,2),(1,2),(2,2)],3,24,[.v (.int .i64 0),.v (.int .i64 0),.v (.int .i64 0)]⟩
theorem ES:TyOK Tryz.prog 125 HK:=TyOK.mk' (z:=.agg #[.int .i64 0,.int .i64 0,.int .i64 0]) (by kernel_rfl) Tryz.underlying125 rfl rfl ⟨z_v _ rfl,z_v _ rfl,z_v _ rfl,trivial⟩
def HJ:TyI:=⟨.sl 9,1,24,[.sl 0 []]⟩
theorem ER:TyOK Tryz.prog 127 HJ:=TyOK.mk' (z:=.slice none 0 0) (by kernel_rfl) Tryz.underlying127 rfl rfl ⟨dH,trivial⟩
def HH:TyI:=⟨.sl 159,1,24,[.sl 0 []]⟩
theorem EP:TyOK Tryz.prog 155 HH:=TyOK.mk' (z:=.slice none 0 0) (by kernel_rfl) Tryz.underlying155 rfl rfl ⟨dH,trivial⟩
def HF:TyI:=⟨.st [(0,3),(1,157)],2,16,[.v (.int .i64 0),.v (.nilFunc)]⟩
theorem EN:TyOK Tryz.prog 158 HF:=TyOK.mk' (z:=.agg #[.int .i64 0,.nilFunc]) (by kernel_rfl) Tryz.underlying158 rfl rfl ⟨z_v _ rfl,z_v _ rfl,trivial⟩
def HE:TyI:=⟨.st [(0,3),(1,157)],2,16,[.v (.int .i64 0),.v (.nilFunc)]⟩
theorem EM:TyOK Tryz.prog 159 HE:=TyOK.mk' (z:=.agg #[.int .i64 0,.nilFunc]) (by kernel_rfl) Tryz.underlying159 rfl rfl ⟨z_v _ rfl,z_v _ rfl,trivial⟩
def HD:TyI:=⟨.st [(0,29),(2,29),(4,29),(6,29)],8,128,[zn 0,zm 0,zn 0,zm 0,zn 0,zm 0,zn 0,zm 0]⟩
theorem EL:TyOK Tryz.prog 172 HD:=TyOK.mk' (z:=.agg #[.bool false,.slice none 0 0,.bool false,.slice none 0 0,.bool false,.slice none 0 0,.bool false,.slice none 0 0]) (by kernel_rfl) Tryz.underlying172 rfl rfl ⟨bY,bZ,bY,bZ,bY,bZ,bY,bZ,trivial⟩
def HC:TyI:=⟨.st [(0,29),(2,29),(4,29),(6,29)],8,128,[zn 0,zm 0,zn 0,zm 0,zn 0,zm 0,zn 0,zm 0]⟩
theorem EK:TyOK Tryz.prog 173 HC:=TyOK.mk' (z:=.agg #[.bool false,.slice none 0 0,.bool false,.slice none 0 0,.bool false,.slice none 0 0,.bool false,.slice none 0 0]) (by kernel_rfl) Tryz.underlying173 rfl rfl ⟨bY,bZ,bY,bZ,bY,bZ,bY,bZ,trivial⟩
def HB:TyI:=⟨.pt 193,1,8,[.v (.pointer none)]⟩
theorem EJ:TyOK Tryz.prog 190 HB:=TyOK.mk' (z:=.pointer none) (by kernel_rfl) Tryz.underlying190 rfl rfl ⟨z_v _ rfl,trivial⟩
def HA:TyI:=⟨.sl 5,1,24,[.sl 0 []]⟩
theorem EI:TyOK Tryz.prog 191 HA:=TyOK.mk' (z:=.slice none 0 0) (by kernel_rfl) Tryz.underlying191 rfl rfl ⟨dH,trivial⟩
def Hz:TyI:=⟨.st [(0,190),(1,191)],2,32,[.v (.pointer none),.sl 0 []]⟩
theorem EH:TyOK Tryz.prog 192 Hz:=TyOK.mk' (z:=.agg #[.pointer none,.slice none 0 0]) (by kernel_rfl) Tryz.underlying192 rfl rfl ⟨z_v _ rfl,dH,trivial⟩
def Hy:TyI:=⟨.st [(0,190),(1,191)],2,32,[.v (.pointer none),.sl 0 []]⟩
theorem EG:TyOK Tryz.prog 193 Hy:=TyOK.mk' (z:=.agg #[.pointer none,.slice none 0 0]) (by kernel_rfl) Tryz.underlying193 rfl rfl ⟨z_v _ rfl,dH,trivial⟩
def Hx:TyI:=⟨.ar 3 29,6,96,[zn 0,zm 0,zn 0,zm 0,zn 0,zm 0]⟩
theorem EF:TyOK Tryz.prog 200 Hx:=TyOK.mk' (z:=.agg #[.bool false,.slice none 0 0,.bool false,.slice none 0 0,.bool false,.slice none 0 0]) (by kernel_rfl) Tryz.underlying200 ⟨rfl,rfl⟩ rfl ⟨bY,bZ,bY,bZ,bY,bZ,trivial⟩
def Hu:TyI:=⟨.int .i64,1,8,[.v (.int .i64 0)]⟩
theorem EC:TyOK Tryz.prog 218 Hu:=TyOK.mk' (z:=.int .i64 0) (by kernel_rfl) Tryz.underlying218 rfl rfl ⟨z_v _ rfl,trivial⟩
def Ht:TyI:=⟨.pt 227,1,8,[.v (.pointer none)]⟩
theorem EB:TyOK Tryz.prog 225 Ht:=TyOK.mk' (z:=.pointer none) (by kernel_rfl) Tryz.underlying225 rfl rfl ⟨z_v _ rfl,trivial⟩
def Hs:TyI:=⟨.st [(0,52),(6,173)],14,224,[zn 0,zm 0,zn 0,zm 0,zn 0,zm 0,zn 0,zm 0,zn 0,zm 0,zn 0,zm 0,zn 0,zm 0]⟩
theorem EA:TyOK Tryz.prog 226 Hs:=TyOK.mk' (z:=.agg #[.bool false,.slice none 0 0,.bool false,.slice none 0 0,.bool false,.slice none 0 0,.bool false,.slice none 0 0,.bool false,.slice none 0 0,.bool false,.slice none 0 0,.bool false,.slice none 0 0]) (by kernel_rfl) Tryz.underlying226 rfl rfl ⟨bY,bZ,bY,bZ,bY,bZ,bY,bZ,bY,bZ,bY,bZ,bY,bZ,trivial⟩
def Hr:TyI:=⟨.st [(0,52),(6,173)],14,224,[zn 0,zm 0,zn 0,zm 0,zn 0,zm 0,zn 0,zm 0,zn 0,zm 0,zn 0,zm 0,zn 0,zm 0]⟩
theorem Ez:TyOK Tryz.prog 227 Hr:=TyOK.mk' (z:=.agg #[.bool false,.slice none 0 0,.bool false,.slice none 0 0,.bool false,.slice none 0 0,.bool false,.slice none 0 0,.bool false,.slice none 0 0,.bool false,.slice none 0 0,.bool false,.slice none 0 0]) (by kernel_rfl) Tryz.underlying227 rfl rfl ⟨bY,bZ,bY,bZ,bY,bZ,bY,bZ,bY,bZ,bY,bZ,bY,bZ,trivial⟩
def Hq:TyI:=⟨.pt 5,1,8,[.v (.pointer none)]⟩
theorem Ey:TyOK Tryz.prog 239 Hq:=TyOK.mk' (z:=.pointer none) (by kernel_rfl) Tryz.underlying239 rfl rfl ⟨z_v _ rfl,trivial⟩
def Ho:TyI:=⟨.sl 4,1,24,[.sl 0 []]⟩
theorem Ex:TyOK Tryz.prog 241 Ho:=TyOK.mk' (z:=.slice none 0 0) (by kernel_rfl) Tryz.underlying241 rfl rfl ⟨dH,trivial⟩
def Hn:TyI:=⟨.sl 2,1,24,[.sl 0 []]⟩
theorem Ew:TyOK Tryz.prog 245 Hn:=TyOK.mk' (z:=.slice none 0 0) (by kernel_rfl) Tryz.underlying245 rfl rfl ⟨dH,trivial⟩
def Hm:TyI:=⟨.int .u64,1,8,[.v (.int .u64 0)]⟩
theorem Ev:TyOK Tryz.prog 248 Hm:=TyOK.mk' (z:=.int .u64 0) (by kernel_rfl) Tryz.underlying248 rfl rfl ⟨z_v _ rfl,trivial⟩
def Hl:TyI:=⟨.pt 3,1,8,[.v (.pointer none)]⟩
theorem Eu:TyOK Tryz.prog 252 Hl:=TyOK.mk' (z:=.pointer none) (by kernel_rfl) Tryz.underlying252 rfl rfl ⟨z_v _ rfl,trivial⟩
def Hk:TyI:=⟨.ar 8 3,8,64,[.v (.int .i64 0),.v (.int .i64 0),.v (.int .i64 0),.v (.int .i64 0),.v (.int .i64 0),.v (.int .i64 0),.v (.int .i64 0),.v (.int .i64 0)]⟩
theorem Et:TyOK Tryz.prog 267 Hk:=TyOK.mk' (z:=.agg #[.int .i64 0,.int .i64 0,.int .i64 0,.int .i64 0,.int .i64 0,.int .i64 0,.int .i64 0,.int .i64 0]) (by kernel_rfl) Tryz.underlying267 ⟨rfl,rfl⟩ rfl ⟨z_v _ rfl,z_v _ rfl,z_v _ rfl,z_v _ rfl,z_v _ rfl,z_v _ rfl,z_v _ rfl,z_v _ rfl,trivial⟩
def Hj:TyI:=⟨.pt 248,1,8,[.v (.pointer none)]⟩
theorem Es:TyOK Tryz.prog 270 Hj:=TyOK.mk' (z:=.pointer none) (by kernel_rfl) Tryz.underlying270 rfl rfl ⟨z_v _ rfl,trivial⟩
def Hi:TyI:=⟨.ar 2 29,4,64,[zn 0,zm 0,zn 0,zm 0]⟩
theorem Er:TyOK Tryz.prog 273 Hi:=TyOK.mk' (z:=.agg #[.bool false,.slice none 0 0,.bool false,.slice none 0 0]) (by kernel_rfl) Tryz.underlying273 ⟨rfl,rfl⟩ rfl ⟨bY,bZ,bY,bZ,trivial⟩
def Hh:TyI:=⟨.ar 2 273,8,128,[zn 0,zm 0,zn 0,zm 0,zn 0,zm 0,zn 0,zm 0]⟩
theorem Ep:TyOK Tryz.prog 274 Hh:=TyOK.mk' (z:=.agg #[.bool false,.slice none 0 0,.bool false,.slice none 0 0,.bool false,.slice none 0 0,.bool false,.slice none 0 0]) (by kernel_rfl) Tryz.underlying274 ⟨rfl,rfl⟩ rfl ⟨bY,bZ,bY,bZ,bY,bZ,bY,bZ,trivial⟩
def Hg:TyI:=⟨.ar 24 5,24,24,[.v (.int .u8 0),.v (.int .u8 0),.v (.int .u8 0),.v (.int .u8 0),.v (.int .u8 0),.v (.int .u8 0),.v (.int .u8 0),.v (.int .u8 0),.v (.int .u8 0),.v (.int .u8 0),.v (.int .u8 0),.v (.int .u8 0),.v (.int .u8 0),.v (.int .u8 0),.v (.int .u8 0),.v (.int .u8 0),.v (.int .u8 0),.v (.int .u8 0),.v (.int .u8 0),.v (.int .u8 0),.v (.int .u8 0),.v (.int .u8 0),.v (.int .u8 0),.v (.int .u8 0)]⟩
theorem Eo:TyOK Tryz.prog 276 Hg:=TyOK.mk' (z:=.agg #[.int .u8 0,.int .u8 0,.int .u8 0,.int .u8 0,.int .u8 0,.int .u8 0,.int .u8 0,.int .u8 0,.int .u8 0,.int .u8 0,.int .u8 0,.int .u8 0,.int .u8 0,.int .u8 0,.int .u8 0,.int .u8 0,.int .u8 0,.int .u8 0,.int .u8 0,.int .u8 0,.int .u8 0,.int .u8 0,.int .u8 0,.int .u8 0]) (by kernel_rfl) Tryz.underlying276 ⟨rfl,rfl⟩ rfl ⟨z_v _ rfl,z_v _ rfl,z_v _ rfl,z_v _ rfl,z_v _ rfl,z_v _ rfl,z_v _ rfl,z_v _ rfl,z_v _ rfl,z_v _ rfl,z_v _ rfl,z_v _ rfl,z_v _ rfl,z_v _ rfl,z_v _ rfl,z_v _ rfl,z_v _ rfl,z_v _ rfl,z_v _ rfl,z_v _ rfl,z_v _ rfl,z_v _ rfl,z_v _ rfl,z_v _ rfl,trivial⟩
def Hf:TyI:=⟨.ar 20 58,20,160,[.v (.int .u64 0),.v (.int .u64 0),.v (.int .u64 0),.v (.int .u64 0),.v (.int .u64 0),.v (.int .u64 0),.v (.int .u64 0),.v (.int .u64 0),.v (.int .u64 0),.v (.int .u64 0),.v (.int .u64 0),.v (.int .u64 0),.v (.int .u64 0),.v (.int .u64 0),.v (.int .u64 0),.v (.int .u64 0),.v (.int .u64 0),.v (.int .u64 0),.v (.int .u64 0),.v (.int .u64 0)]⟩
theorem Em:TyOK Tryz.prog 289 Hf:=TyOK.mk' (z:=.agg #[.int .u64 0,.int .u64 0,.int .u64 0,.int .u64 0,.int .u64 0,.int .u64 0,.int .u64 0,.int .u64 0,.int .u64 0,.int .u64 0,.int .u64 0,.int .u64 0,.int .u64 0,.int .u64 0,.int .u64 0,.int .u64 0,.int .u64 0,.int .u64 0,.int .u64 0,.int .u64 0]) (by kernel_rfl) Tryz.underlying289 ⟨rfl,rfl⟩ rfl ⟨z_v _ rfl,z_v _ rfl,z_v _ rfl,z_v _ rfl,z_v _ rfl,z_v _ rfl,z_v _ rfl,z_v _ rfl,z_v _ rfl,z_v _ rfl,z_v _ rfl,z_v _ rfl,z_v _ rfl,z_v _ rfl,z_v _ rfl,z_v _ rfl,z_v _ rfl,z_v _ rfl,z_v _ rfl,z_v _ rfl,trivial⟩
def He:TyI:=⟨.ar 32 5,32,32,[.v (.int .u8 0),.v (.int .u8 0),.v (.int .u8 0),.v (.int .u8 0),.v (.int .u8 0),.v (.int .u8 0),.v (.int .u8 0),.v (.int .u8 0),.v (.int .u8 0),.v (.int .u8 0),.v (.int .u8 0),.v (.int .u8 0),.v (.int .u8 0),.v (.int .u8 0),.v (.int .u8 0),.v (.int .u8 0),.v (.int .u8 0),.v (.int .u8 0),.v (.int .u8 0),.v (.int .u8 0),.v (.int .u8 0),.v (.int .u8 0),.v (.int .u8 0),.v (.int .u8 0),.v (.int .u8 0),.v (.int .u8 0),.v (.int .u8 0),.v (.int .u8 0),.v (.int .u8 0),.v (.int .u8 0),.v (.int .u8 0),.v (.int .u8 0)]⟩
theorem Ek:TyOK Tryz.prog 294 He:=TyOK.mk' (z:=.agg #[.int .u8 0,.int .u8 0,.int .u8 0,.int .u8 0,.int .u8 0,.int .u8 0,.int .u8 0,.int .u8 0,.int .u8 0,.int .u8 0,.int .u8 0,.int .u8 0,.int .u8 0,.int .u8 0,.int .u8 0,.int .u8 0,.int .u8 0,.int .u8 0,.int .u8 0,.int .u8 0,.int .u8 0,.int .u8 0,.int .u8 0,.int .u8 0,.int .u8 0,.int .u8 0,.int .u8 0,.int .u8 0,.int .u8 0,.int .u8 0,.int .u8 0,.int .u8 0]) (by kernel_rfl) Tryz.underlying294 ⟨rfl,rfl⟩ rfl ⟨z_v _ rfl,z_v _ rfl,z_v _ rfl,z_v _ rfl,z_v _ rfl,z_v _ rfl,z_v _ rfl,z_v _ rfl,z_v _ rfl,z_v _ rfl,z_v _ rfl,z_v _ rfl,z_v _ rfl,z_v _ rfl,z_v _ rfl,z_v _ rfl,z_v _ rfl,z_v _ rfl,z_v _ rfl,z_v _ rfl,z_v _ rfl,z_v _ rfl,z_v _ rfl,z_v _ rfl,z_v _ rfl,z_v _ rfl,z_v _ rfl,z_v _ rfl,z_v _ rfl,z_v _ rfl,z_v _ rfl,z_v _ rfl,trivial⟩
def Hd:TyI:=⟨.st [(0,9)],1,16,[.v (.string ⟨#[]⟩)]⟩
theorem Ej:TyOK Tryz.prog 309 Hd:=TyOK.mk' (z:=.agg #[.string ⟨#[]⟩]) (by kernel_rfl) Tryz.underlying309 rfl rfl ⟨z_v _ rfl,trivial⟩
def MN:TyI:=⟨.ot,1,8,[.v (.nilFunc)]⟩
theorem IV:TyOK Tryz.prog 63 MN:=TyOK.mk' (z:=.nilFunc) (by kernel_rfl) Tryz.underlying63 trivial rfl ⟨z_v _ rfl,trivial⟩
def sH:TyI:=⟨.mp 9 72,1,8,[.v (.map none)]⟩
theorem IT:TyOK Tryz.prog 69 sH:=TyOK.mk' (z:=.map none) (by kernel_rfl) Tryz.underlying69 ⟨rfl,rfl⟩ rfl ⟨z_v _ rfl,trivial⟩
def ME:TyI:=⟨.ot,1,8,[.v (.nilFunc)]⟩
theorem IL:TyOK Tryz.prog 93 ME:=TyOK.mk' (z:=.nilFunc) (by kernel_rfl) Tryz.underlying93 trivial rfl ⟨z_v _ rfl,trivial⟩
def HI:TyI:=⟨.mp 9 4,1,8,[.v (.map none)]⟩
theorem EQ:TyOK Tryz.prog 146 HI:=TyOK.mk' (z:=.map none) (by kernel_rfl) Tryz.underlying146 ⟨rfl,rfl⟩ rfl ⟨z_v _ rfl,trivial⟩
def HG:TyI:=⟨.ot,1,8,[.v (.nilFunc)]⟩
theorem EO:TyOK Tryz.prog 157 HG:=TyOK.mk' (z:=.nilFunc) (by kernel_rfl) Tryz.underlying157 trivial rfl ⟨z_v _ rfl,trivial⟩
def Hw:TyI:=⟨.ot,1,8,[.v (.nilFunc)]⟩
theorem EE:TyOK Tryz.prog 203 Hw:=TyOK.mk' (z:=.nilFunc) (by kernel_rfl) Tryz.underlying203 trivial rfl ⟨z_v _ rfl,trivial⟩
def Hv:TyI:=⟨.ot,1,8,[.v (.nilFunc)]⟩
theorem ED:TyOK Tryz.prog 206 Hv:=TyOK.mk' (z:=.nilFunc) (by kernel_rfl) Tryz.underlying206 trivial rfl ⟨z_v _ rfl,trivial⟩
def tt:TT:=vg [(2,ty2),(3,ty3),(4,ty4),(5,ty5),(9,ty9),(12,Ni),(21,Nh),(22,Ng),(23,Nf),(24,Nc),(25,Nb),(26,Na),(27,M9),(28,M8),(29,M7),(32,M5),(33,M4),(36,M3),(37,M0),(38,MZ),(39,MY),(42,MW),(51,MU),(52,MT),(58,MS),(60,MQ),(61,MO),(67,MK),(70,MJ),(71,MI),(72,MH),(91,MG),(92,MF),(94,MD),(101,HM),(124,HL),(125,HK),(127,HJ),(155,HH),(158,HF),(159,HE),(172,HD),(173,HC),(190,HB),(191,HA),(192,Hz),(193,Hy),(200,Hx),(218,Hu),(225,Ht),(226,Hs),(227,Hr),(239,Hq),(241,Ho),(245,Hn),(248,Hm),(252,Hl),(267,Hk),(270,Hj),(273,Hi),(274,Hh),(276,Hg),(289,Hf),(294,He),(309,Hd),(63,MN),(69,sH),(93,ME),(146,HI),(157,HG),(203,Hw),(206,Hv)]
theorem hT:bM Tryz.prog tt:=AllT.ok ⟨M6,MX,MV,MR,MC,Ji,Jh,Jg,Jf,Je,Jd,Jc,Jb,Ja,I9,I8,I7,I6,I5,I4,I3,I2,I0,IZ,IY,IX,IW,IU,IR,IQ,IP,IN,IM,IK,EU,ET,ES,ER,EP,EN,EM,EL,EK,EJ,EI,EH,EG,EF,EC,EB,EA,Ez,Ey,Ex,Ew,Ev,Eu,Et,Es,Er,Ep,Eo,Em,Ek,Ej,IV,IT,IL,EQ,EO,EE,ED,trivial⟩
theorem hP:Tryz.prog.follows .mixedOrders=true:=by kernel_rfl
attribute [local irreducible] RK Eff AWp
section
variable {P:Program}{N np:Nat}{ops:Array Oper}{draw:Bool}{os:List Oper}{s:St}{acc:List Io}{K:St->Prop}{op:Op}{ty:TypeId}{pos:String}{af:Array Edge}{t:Nat}
theorem Zm{x:Operand}(h:RK P N np ops draw (⟨some t,.move x,ty,pos,af,none⟩::os) s acc K):RK P N np ops draw (⟨some t,.move x,ty,pos,af,none⟩::os) s acc K:=h
theorem Za{x:Operand}(h:RK P N np ops draw (⟨some t,.assign x,ty,pos,af,none⟩::os) s acc K):RK P N np ops draw (⟨some t,.assign x,ty,pos,af,none⟩::os) s acc K:=h
theorem Zl{T:TypeId}{x:Operand}(h:RK P N np ops draw (⟨some t,.load T x,ty,pos,af,none⟩::os) s acc K):RK P N np ops draw (⟨some t,.load T x,ty,pos,af,none⟩::os) s acc K:=h
theorem Zs{T:TypeId}{x y:Operand}(h:RK P N np ops draw (⟨none,.store T x y,ty,pos,af,none⟩::os) s acc K):RK P N np ops draw (⟨none,.store T x y,ty,pos,af,none⟩::os) s acc K:=h
theorem Zb{o:BinOp}{T T2:TypeId}{x y:Operand}(h:RK P N np ops draw (⟨some t,.binOp o T x y T2,ty,pos,af,none⟩::os) s acc K):RK P N np ops draw (⟨some t,.binOp o T x y T2,ty,pos,af,none⟩::os) s acc K:=h
theorem Zc{c:Call}(h:RK P N np ops draw (⟨some t,.call c,ty,pos,af,none⟩::os) s acc K):RK P N np ops draw (⟨some t,.call c,ty,pos,af,none⟩::os) s acc K:=h
theorem Zf{f:Fn}{x y:Array Operand}(h:RK P N np ops draw (⟨some t,.makeFunc f x y,ty,pos,af,none⟩::os) s acc K):RK P N np ops draw (⟨some t,.makeFunc f x y,ty,pos,af,none⟩::os) s acc K:=h
theorem Ze{T:TypeId}{x:Array (Nat×Operand)}(h:RK P N np ops draw (⟨some t,.build T x,ty,pos,af,none⟩::os) s acc K):RK P N np ops draw (⟨some t,.build T x,ty,pos,af,none⟩::os) s acc K:=h
theorem Zi{T:TypeId}{n:Nat}{x:Array (Nat×Operand)}(h:RK P N np ops draw (⟨some t,.buildSlice T n x,ty,pos,af,none⟩::os) s acc K):RK P N np ops draw (⟨some t,.buildSlice T n x,ty,pos,af,none⟩::os) s acc K:=h
theorem Zp{c x y:Operand}(h:RK P N np ops draw (⟨some t,.pick c x y,ty,pos,af,none⟩::os) s acc K):RK P N np ops draw (⟨some t,.pick c x y,ty,pos,af,none⟩::os) s acc K:=h
theorem Zg{g:Nat×Bool}(h:RK P N np ops draw (⟨some t,op,ty,pos,af,some g⟩::os) s acc K):RK P N np ops draw (⟨some t,op,ty,pos,af,some g⟩::os) s acc K:=h
end
structure Zx(A:Prop):Prop where
 k:A
theorem Zz{A B:Prop}(k:A)(h:Zx A->B:=by
 intro h;repeat first
  |(refine Zm ?_;first|refine an ag (aK (rfl:_=AV.p (.c _))) ?_|refine an ag (aK (rfl:_=AV.vec _)) ?_|refine an ag (aK (rfl:_=AV.t _)) ?_|refine an ag (aK (rfl:_=AV.loc _ _)) ?_|refine an ag (aK (rfl:_=AV.fn _ _)) ?_|refine an ag (aK (rfl:_=AV.axm _ _)) ?_|refine an ag (aK (rfl:_=AV.ax _)) ?_|refine an ag (aK (rfl:_=AV.ip _)) ?_|refine an ag (aK (rfl:_=AV.axl _ _)) ?_)
  |(refine Za ?_;first|refine an ag (bW (rfl:_=AV.p (.c _))) ?_|refine an ag (bW (rfl:_=AV.vec _)) ?_|refine an ag (bW (rfl:_=AV.fn _ _)) ?_|refine an ag (bW (rfl:_=AV.ax _)) ?_|refine an ag (bW (rfl:_=AV.axm _ _)) ?_|refine an ag (bW (rfl:_=AV.loc _ _)) ?_|refine an ag (bW (rfl:_=AV.fnl _ _)) ?_)
  |refine RK.done (by kernel_rfl) ?_
  |(refine Zl ?_;first|refine an ag (aN hT rfl rfl rfl rfl (cs:=[_,_]) rfl rfl) ?_|refine an ag (bq hT rfl rfl rfl rfl (by first|rfl|exact gD (by omega))) ?_|refine an ag (aM hT rfl rfl rfl (by first|rfl|exact jP (by omega))) ?_|refine an ag (aN hT rfl rfl rfl rfl (cs:=[_,_,_,_,_,_]) rfl rfl) ?_|refine an ag (aN hT rfl rfl rfl rfl (cs:=[_,_,_,_,_]) rfl rfl) ?_|refine an ag (aN hT rfl rfl rfl rfl (cs:=[_,_,_,_,_,_,_,_]) rfl rfl) ?_|refine an ag (aN hT rfl rfl rfl rfl (cs:=[_,_,_]) rfl rfl) ?_|refine an ag (uc hT rfl rfl rfl) ?_|refine an ag (dY hT rfl rfl rfl rfl rfl rfl) ?_)
  |refine bD ag (wt hT rfl rfl) ?_
  |(refine Zs ?_;first|refine aZ ag (dO hT rfl rfl rfl rfl rfl rfl (cs:=[_,_]) rfl) ?_|refine aZ ag (dO hT rfl rfl rfl rfl rfl rfl (cs:=[_,_,_,_,_,_]) rfl) ?_|refine aZ ag (dO hT rfl rfl rfl rfl rfl rfl (cs:=[_,_,_,_,_,_,_,_]) rfl) ?_|refine aZ ag (dO hT rfl rfl rfl rfl rfl rfl (cs:=[_]) rfl) ?_|refine aZ ag (dO hT rfl rfl rfl rfl rfl rfl (cs:=[_,_,_]) rfl) ?_|refine aZ ag (dO hT rfl rfl rfl rfl rfl rfl (cs:=[_,_,_,_,_]) rfl) ?_)
  |refine an ag (dU hT rfl rfl rfl rfl rfl rfl) ?_
  |refine bD ag (wo rfl rfl) ?_
  |refine an ag (kR rfl (v:=.c _) rfl) ?_
  |refine an ag (kR rfl (v:=.a _) rfl) ?_
  |(refine Zb ?_;first|refine an ag (ed rfl rfl) ?_|refine an ag (kz rfl rfl) ?_|refine an ag (eZ rfl rfl) ?_|refine an ag (iL rfl rfl) ?_|refine an ag (rN rfl rfl) ?_|refine an ag (kx rfl rfl) ?_)
  |(refine Zg ?_;first|refine BH rfl ?_|refine Is ?_|refine nc (jX rfl rfl (by first|exact hg1|exact hg2|exact hg3|exact hg4|exact hg5|exact hg6|exact hg7|exact hg8|exact hg9)) ?_|refine az rfl (aK (rfl:_=AV.p (.c _))) ?_|refine an (aw rfl rfl (by first|exact hg1|exact hg2|exact hg3|exact hg4|exact hg5|exact hg6|exact hg7|exact hg8|exact hg9)) (aK (rfl:_=AV.p (.c _))) ?_|refine az rfl (eZ rfl rfl) ?_|refine an (aw rfl rfl (by first|exact hg1|exact hg2|exact hg3|exact hg4|exact hg5|exact hg6|exact hg7|exact hg8|exact hg9)) (eZ rfl rfl) ?_|refine an (aw rfl rfl (by first|exact hg1|exact hg2|exact hg3|exact hg4|exact hg5|exact hg6|exact hg7|exact hg8|exact hg9)) (kz rfl rfl) ?_|refine an (aw rfl rfl (by first|exact hg1|exact hg2|exact hg3|exact hg4|exact hg5|exact hg6|exact hg7|exact hg8|exact hg9)) (iL rfl rfl) ?_|refine an (aw rfl rfl (by first|exact hg1|exact hg2|exact hg3|exact hg4|exact hg5|exact hg6|exact hg7|exact hg8|exact hg9)) (dU hT rfl rfl rfl rfl rfl rfl) ?_)
  |refine an ag (de hT rfl rfl rfl rfl rfl (by first|decide|omega)) ?_
  |(refine Zc ?_;first|refine an ag (dy hT rfl rfl rfl rfl) ?_|refine an ag (dy hT rfl rfl rfl (by rfl)) ?_|refine an ag (Cz rfl rfl) ?_)
  |refine an ag (cZ rfl) ?_
  |refine an ag (cG rfl) ?_
  |(refine Zp ?_;first|refine an ag (bA rfl rfl (rfl:_=AV.p (.c _))) ?_|refine an ag (cQ rfl rfl (rfl:_=AV.p (.c _))) ?_|refine an ag (cQ rfl (by first|exact hg1|exact hg2|exact hg3|exact hg4|exact hg5|exact hg6|exact hg7|exact hg8|exact hg9) (rfl:_=AV.p (.c _))) ?_|refine an ag (bA rfl (by first|exact hg1|exact hg2|exact hg3|exact hg4|exact hg5|exact hg6|exact hg7|exact hg8|exact hg9) (rfl:_=AV.p (.c _))) ?_)
  |(refine Ze ?_;first|refine an ag (dh hT rfl rfl rfl (es:=[_,_,_,_,_,_]) rfl) ?_|refine an ag (dh hT rfl rfl rfl (es:=[_,_]) rfl) ?_|refine an ag (dh hT rfl rfl rfl (es:=[_,_,_,_,_,_,_,_]) rfl) ?_)
  |(refine Zi ?_;first|refine an ag (db hT rfl rfl rfl (es:=[_,_]) rfl rfl rfl) ?_|refine an ag (db hT rfl rfl rfl (es:=[_,_,_,_]) rfl rfl rfl) ?_|refine an ag (db hT rfl rfl rfl (es:=[_,_,_,_,_,_]) rfl rfl rfl) ?_|refine an ag (db hT rfl rfl rfl (es:=[_]) rfl rfl rfl) ?_|refine an ag (db hT rfl rfl rfl (es:=[_,_,_]) rfl rfl rfl) ?_)
  |(refine Zf ?_;first|refine an ag (ol rfl) ?_|refine an ag (iJ rfl) ?_|refine an ag (om rfl rfl) ?_)
 exact h.k):B:=h ⟨k⟩
theorem Yy{A B:Prop}(k:A)(h:Zx A->B:=by
 intro h;repeat first
  |refine bi ?_
  |refine bp hP ?_
  |(refine Zm ?_;first|refine an ag (aK (rfl:_=AV.p (.c _))) ?_|refine an ag (aK (rfl:_=AV.vec _)) ?_|refine an ag (aK (rfl:_=AV.t _)) ?_|refine an ag (aK (rfl:_=AV.loc _ _)) ?_|refine an ag (aK (rfl:_=AV.fn _ _)) ?_|refine an ag (aK (rfl:_=AV.axm _ _)) ?_|refine an ag (aK (rfl:_=AV.ax _)) ?_|refine an ag (aK (rfl:_=AV.ip _)) ?_|refine an ag (aK (rfl:_=AV.axl _ _)) ?_)
  |(refine Za ?_;first|refine an ag (bW (rfl:_=AV.p (.c _))) ?_|refine an ag (bW (rfl:_=AV.vec _)) ?_|refine an ag (bW (rfl:_=AV.fn _ _)) ?_|refine an ag (bW (rfl:_=AV.ax _)) ?_|refine an ag (bW (rfl:_=AV.axm _ _)) ?_|refine an ag (bW (rfl:_=AV.loc _ _)) ?_|refine an ag (bW (rfl:_=AV.fnl _ _)) ?_)
  |refine RK.done (by kernel_rfl) ?_
  |(refine Zl ?_;first|refine an ag (aN hT rfl rfl rfl rfl (cs:=[_,_]) rfl rfl) ?_|refine an ag (bq hT rfl rfl rfl rfl (by first|rfl|exact gD (by omega))) ?_|refine an ag (aM hT rfl rfl rfl (by first|rfl|exact jP (by omega))) ?_|refine an ag (aN hT rfl rfl rfl rfl (cs:=[_,_,_,_,_,_]) rfl rfl) ?_|refine an ag (aN hT rfl rfl rfl rfl (cs:=[_,_,_,_,_]) rfl rfl) ?_|refine an ag (aN hT rfl rfl rfl rfl (cs:=[_,_,_,_,_,_,_,_]) rfl rfl) ?_|refine an ag (aN hT rfl rfl rfl rfl (cs:=[_,_,_]) rfl rfl) ?_|refine an ag (uc hT rfl rfl rfl) ?_|refine an ag (dY hT rfl rfl rfl rfl rfl rfl) ?_)
  |refine bD ag (wt hT rfl rfl) ?_
  |(refine Zs ?_;first|refine aZ ag (dO hT rfl rfl rfl rfl rfl rfl (cs:=[_,_]) rfl) ?_|refine aZ ag (dO hT rfl rfl rfl rfl rfl rfl (cs:=[_,_,_,_,_,_]) rfl) ?_|refine aZ ag (dO hT rfl rfl rfl rfl rfl rfl (cs:=[_,_,_,_,_,_,_,_]) rfl) ?_|refine aZ ag (dO hT rfl rfl rfl rfl rfl rfl (cs:=[_]) rfl) ?_|refine aZ ag (dO hT rfl rfl rfl rfl rfl rfl (cs:=[_,_,_]) rfl) ?_|refine aZ ag (dO hT rfl rfl rfl rfl rfl rfl (cs:=[_,_,_,_,_]) rfl) ?_)
  |refine an ag (dU hT rfl rfl rfl rfl rfl rfl) ?_
  |refine bD ag (wo rfl rfl) ?_
  |refine an ag (kR rfl (v:=.c _) rfl) ?_
  |refine an ag (kR rfl (v:=.a _) rfl) ?_
  |refine aT ?_
  |refine aR ?_
  |refine aS ?_
  |refine bC ?_
  |refine aJ rfl (by first|exact rfl|decide) ?_
  |refine bH rfl (by first|exact rfl|decide) ?_
  |(refine Zb ?_;first|refine an ag (ed rfl rfl) ?_|refine an ag (kz rfl rfl) ?_|refine an ag (eZ rfl rfl) ?_|refine an ag (iL rfl rfl) ?_|refine an ag (rN rfl rfl) ?_|refine an ag (kx rfl rfl) ?_)
  |(refine Zg ?_;first|refine BH rfl ?_|refine Is ?_|refine nc (jX rfl rfl (by first|exact hg1|exact hg2|exact hg3|exact hg4|exact hg5|exact hg6|exact hg7|exact hg8|exact hg9)) ?_|refine az rfl (aK (rfl:_=AV.p (.c _))) ?_|refine an (aw rfl rfl (by first|exact hg1|exact hg2|exact hg3|exact hg4|exact hg5|exact hg6|exact hg7|exact hg8|exact hg9)) (aK (rfl:_=AV.p (.c _))) ?_|refine az rfl (eZ rfl rfl) ?_|refine an (aw rfl rfl (by first|exact hg1|exact hg2|exact hg3|exact hg4|exact hg5|exact hg6|exact hg7|exact hg8|exact hg9)) (eZ rfl rfl) ?_|refine an (aw rfl rfl (by first|exact hg1|exact hg2|exact hg3|exact hg4|exact hg5|exact hg6|exact hg7|exact hg8|exact hg9)) (kz rfl rfl) ?_|refine an (aw rfl rfl (by first|exact hg1|exact hg2|exact hg3|exact hg4|exact hg5|exact hg6|exact hg7|exact hg8|exact hg9)) (iL rfl rfl) ?_|refine an (aw rfl rfl (by first|exact hg1|exact hg2|exact hg3|exact hg4|exact hg5|exact hg6|exact hg7|exact hg8|exact hg9)) (dU hT rfl rfl rfl rfl rfl rfl) ?_)
  |refine an ag (de hT rfl rfl rfl rfl rfl (by first|decide|omega)) ?_
  |(refine Zc ?_;first|refine an ag (dy hT rfl rfl rfl rfl) ?_|refine an ag (dy hT rfl rfl rfl (by rfl)) ?_|refine an ag (Cz rfl rfl) ?_)
  |refine an ag (cZ rfl) ?_
  |refine an ag (cG rfl) ?_
  |(refine Zp ?_;first|refine an ag (bA rfl rfl (rfl:_=AV.p (.c _))) ?_|refine an ag (cQ rfl rfl (rfl:_=AV.p (.c _))) ?_|refine an ag (cQ rfl (by first|exact hg1|exact hg2|exact hg3|exact hg4|exact hg5|exact hg6|exact hg7|exact hg8|exact hg9) (rfl:_=AV.p (.c _))) ?_|refine an ag (bA rfl (by first|exact hg1|exact hg2|exact hg3|exact hg4|exact hg5|exact hg6|exact hg7|exact hg8|exact hg9) (rfl:_=AV.p (.c _))) ?_)
  |(refine Ze ?_;first|refine an ag (dh hT rfl rfl rfl (es:=[_,_,_,_,_,_]) rfl) ?_|refine an ag (dh hT rfl rfl rfl (es:=[_,_]) rfl) ?_|refine an ag (dh hT rfl rfl rfl (es:=[_,_,_,_,_,_,_,_]) rfl) ?_)
  |(refine Zi ?_;first|refine an ag (db hT rfl rfl rfl (es:=[_,_]) rfl rfl rfl) ?_|refine an ag (db hT rfl rfl rfl (es:=[_,_,_,_]) rfl rfl rfl) ?_|refine an ag (db hT rfl rfl rfl (es:=[_,_,_,_,_,_]) rfl rfl rfl) ?_|refine an ag (db hT rfl rfl rfl (es:=[_]) rfl rfl rfl) ?_|refine an ag (db hT rfl rfl rfl (es:=[_,_,_]) rfl rfl rfl) ?_)
  |(refine Zf ?_;first|refine an ag (ol rfl) ?_|refine an ag (iJ rfl) ?_|refine an ag (om rfl rfl) ?_)
  |refine E1 rfl rfl ?_
  |refine E11 rfl rfl rfl ?_
  |refine E2 hT rfl rfl rfl rfl rfl rfl rfl ?_
 exact h.k):B:=h ⟨k⟩
end
section
open Go Go.AM
attribute [local irreducible] RK Eff AWp
theorem fk(ws:List Nat)(hok:okW ws) :
  ak Tryz.prog 108 [.p (.c (W ws))] (.p (.c (nt (wv ws)))):=by
 refine aq Tryz.func108 rfl rfl rfl rfl ?_;refine nh (t:=0) rfl rfl (fun hlen=>?_);refine Yy ?_;refine aC (ι:=List Nat) (fun l=>stL [(0,.p (.c (W l)))] []) (fun l=>okW l∧wv l=wv ws∧l.length<=140737488355328) (fun l=>l.length) ws ⟨hok,rfl,hlen⟩ (ai ⟨.refl _,trivial⟩ trivial) ?_;rintro l ⟨hl,hv,hn⟩;refine Yy ?_;refine aU (t:=6) rfl (fun hg1=>?_) (fun hg1=>?_)
 ·have hg1_:=dT0 hg1;refine Zz ?_;refine az hg1 (dy hT rfl rfl rfl rfl) ?_;refine az hg1 (aY rfl rfl (by first|exact iW0 _ (by omega)|rfl)) ?_;refine az hg1 (by first|exact gq hT rfl rfl rfl rfl rfl rfl (by omega)|exact b8 hT rfl rfl rfl rfl rfl rfl (by omega) (by first|exact nR (by omega)|simp)) ?_;refine az hg1 (aM hT rfl rfl rfl (by first|rfl|exact jP (by omega))) ?_;refine Zz ?_;refine ah rfl (fun hb2=>?_) (fun hb2=>?_)
  ·have hb2_:=bT hb2;refine Yy ?_;refine ae (aY rfl rfl (by first|exact iW0 _ (by omega)|rfl)) ?_;refine ae (mf hT rfl rfl rfl rfl rfl rfl (by omega))<|Zz ?_;have e:((l.length:Int)-1).toNat=l.length-1:=by omega
   refine⟨l.take (l.length-1),⟨hl.take _,?_,?_⟩,?_,ai ⟨ao ?_,trivial⟩ trivial⟩
   ·rw[vo (by omega) (by rw[<- e];omega),hv]
   ·rw[Us];omega
   ·rw[Us];omega
   show AV.p (.c (W (l.take ((l.length:Int)-1).toNat)))=_;rw[e]
  have hb2_:=bF hb2;refine aS<|aE hP<|Zz ?_;refine bC<|E1 rfl rfl ?_;have e:((l.length:Int)-1).toNat=l.length-1:=by omega
  refine ao ?_;rw[<- hv,u9 hl (.inr (by rw[<- e];omega))]
 have hg1_:=dF0 hg1;refine Zz ?_;refine aJ rfl rfl<|aS<|aE hP<|Zz ?_;refine bC<|E1 rfl rfl ?_;refine ao ?_;rw[<- hv,u9 hl (.inl (by omega))]
end
section
open Go Go.AM
attribute [local irreducible] RK Eff AWp
theorem uC(a:Int) :
  ak Tryz.prog 127 [Z a] (B false):=by
 refine aq Tryz.func127 rfl rfl rfl rfl<|Yy ?_;exact ao (by simp)
theorem uB(a:Int) :
  ak Tryz.prog 187 [.p (.c (.v (.int .u32 a)))] (B false):=by
 refine aq Tryz.func187 rfl rfl rfl rfl<|Yy ?_;exact ao (by simp)
theorem qz(a b:Int) :
  ak Tryz.prog 65 [.p (.c (.v (.int .i64 a))),.p (.c (.v (.int .i64 b)))] (Z (aX a b)):=by
 refine aq Tryz.func65 rfl rfl rfl rfl<|Yy ?_;refine ae (ab (uC _))<|Yy ?_;refine ae (ab (uC _))<|Yy ?_;refine ah rfl (fun hb1=>?_) (fun hb1=>?_)
 ·have hb1_:=dT0 hb1;refine Yy ?_;exact ao (by unfold aX;rw[H2 (by omega)])
 have hb1_:=dF0 hb1;refine Yy ?_;refine ah rfl (fun hb2=>?_) (fun hb2=>?_)
 ·have hb2_:=dT0 hb2;refine Yy ?_;exact ao (by unfold aX;rw[G2 (by omega),H2 (by omega)])
 have hb2_:=dF0 hb2;refine Yy ?_;exact ao (by unfold aX;rw[G2 (by omega),G2 (by omega)])
theorem yu(a b:Int) :
  ak Tryz.prog 128 [.p (.c (.v (.int .u32 a))),.p (.c (.v (.int .u32 b)))] (Z (aX a b)):=by
 refine aq Tryz.func128 rfl rfl rfl rfl<|Yy ?_;refine ae (ab (uB _))<|Yy ?_;refine ae (ab (uB _))<|Yy ?_;refine ah rfl (fun hb1=>?_) (fun hb1=>?_)
 ·have hb1_:=dT0 hb1;refine Yy ?_;exact ao (by unfold aX;rw[H2 (by omega)])
 have hb1_:=dF0 hb1;refine Yy ?_;refine ah rfl (fun hb2=>?_) (fun hb2=>?_)
 ·have hb2_:=dT0 hb2;refine Yy ?_;exact ao (by unfold aX;rw[G2 (by omega),H2 (by omega)])
 have hb2_:=dF0 hb2;refine Yy ?_;exact ao (by unfold aX;rw[G2 (by omega),G2 (by omega)])
theorem NU(a b:Int) :
  ak Tryz.prog 43 [.p (.c (.sl 2 [.v (.int .i64 a),.v (.int .i64 b)]))] (Z (if a=0 then b else a)):=by
 refine aq Tryz.func43 rfl rfl rfl rfl ?_;refine aE hP<|Zz ?_;refine aE hP<|Zz ?_;refine bi<|aE hP<|Zz ?_;refine aR<|bX 3<|Yy ?_;refine cO ?_;refine Yy ?_;refine ah rfl (fun hb1=>?_) (fun hb1=>?_)
 ·have hb1_:=cg hb1;refine Yy ?_;exact ao (by rw[G2 hb1_])
 have hb1_:=ci hb1;refine Yy ?_;refine aF rfl rfl ?_;refine Yy ?_;refine cO ?_;refine Yy ?_;refine ah rfl (fun hb2=>?_) (fun hb2=>?_)
 ·have hb2_:=cg hb2;refine Yy ?_;exact ao (by rw[H2 hb1_])
 have hb2_:=ci hb2;refine Yy ?_;refine aF rfl rfl ?_;refine Yy ?_;exact ao (by rw[H2 hb1_,hb2_])
theorem Im(x y c:Nat)(hx:x<4294967296)(hy:y<4294967296)(hc:c<4294967296) :
  ak Tryz.prog 112 [.p (.c (w32 x)),.p (.c (w32 y)),.p (.c (w32 c))] (.t [.c (w32 ((x+y+c)%4294967296)),.c (w32 ((x+y+c)/4294967296))]):=by
 refine aq Tryz.func112 rfl rfl rfl rfl<|Yy ?_;refine ae (aQ hT rfl rfl rfl rfl (by first|exact IntWalk.u64_in _ (by omega)|rfl))<|Zz ?_;refine ae (aQ hT rfl rfl rfl rfl (by first|exact IntWalk.u64_in _ (by omega)|rfl)) ?_;refine ae (bB rfl rfl (c:=((x+y:Nat):Int)) (by rw[IntWalk.u64_in _ (by omega)];omega))<|Zz ?_;refine ae (aQ hT rfl rfl rfl rfl (by first|exact IntWalk.u64_in _ (by omega)|rfl)) ?_;refine ae (bB rfl rfl (c:=((x+y+c:Nat):Int)) (by rw[IntWalk.u64_in _ (by omega)];omega))<|Yy ?_;refine ae (aQ hT rfl rfl rfl rfl (c:=(((x+y+c)%4294967296:Nat):Int)) (by rw[IntKind.wrap_u32];omega))<|Yy ?_;refine ae (eK (j:=32) rfl rfl (by first|decide|omega)) ?_;refine ae (aQ hT rfl rfl rfl rfl (c:=(((x+y+c)/4294967296:Nat):Int)) (by rw[IntWalk.u32_in _ (by omega)]))<|Yy ?_;exact .refl _
theorem AN(x y c:Nat)(hx:x<4294967296)(hy:y<4294967296)(hc:c<2) :
  ak Tryz.prog 111 [.p (.c (w32 x)),.p (.c (w32 y)),.p (.c (w32 c))] (.t [.c (w32 ((x+8589934592-y-c)%4294967296)),.c (w32 (if x<y+c then 1 else 0))]):=by
 have hxy:(x ^^^ y)<4294967296:=Nat.xor_lt_two_pow (n:=32) hx hy;have hd:(x+8589934592-y-c)%4294967296<4294967296:=Vc _ (by omega);have h1:((4294967295-x) &&& y)<4294967296:=Wk Nat.and_le_right hy;have h2:((4294967295-(x ^^^ y)) &&& ((x+8589934592-y-c)%4294967296))<4294967296:=Wk Nat.and_le_right hd;refine aq Tryz.func111 rfl rfl rfl rfl<|Yy ?_;refine ae (aY rfl rfl rfl)<|Zz ?_;refine ae (aY rfl rfl (c:=(((x+8589934592-y-c)%4294967296:Nat):Int)) (by simp only[IntKind.wrap_u32];omega))<|Yy ?_;refine ae (ug rfl (by first|assumption|omega))<|Zz ?_;refine ae (pH rfl rfl rfl (by first|exact jU (by omega)|exact jT (by omega)) (by first|exact jU (by omega)|exact jT (by omega)))<|Zz ?_;refine ae (J5 rfl rfl rfl (by first|exact jU (by omega)|exact jT (by omega)) (by first|exact jU (by omega)|exact jT (by omega))) ?_;refine ae (ug rfl (by first|assumption|omega))<|Zz ?_;refine ae (pH rfl rfl rfl (by first|exact jU (by omega)|exact jT (by omega)) (by first|exact jU (by omega)|exact jT (by omega))) ?_;refine ae (Cy rfl rfl rfl (by first|exact jU (by omega)|exact jT (by omega)) (by first|exact jU (by omega)|exact jT (by omega))) ?_;refine ae (eK (j:=31) rfl rfl (by first|decide|omega))<|Yy ?_;exact ao (by rw[BC x y c hx hy hc];rfl)
theorem KI:∀ m,m<256->(⟨#[0,1,2,2,3,3,3,3,4,4,4,4,4,4,4,4,5,5,5,5,5,5,5,5,5,5,5,5,5,5,5,5,6,6,6,6,6,6,6,6,6,6,6,6,6,6,6,6,6,6,6,6,6,6,6,6,6,6,6,6,6,6,6,6,7,7,7,7,7,7,7,7,7,7,7,7,7,7,7,7,7,7,7,7,7,7,7,7,7,7,7,7,7,7,7,7,7,7,7,7,7,7,7,7,7,7,7,7,7,7,7,7,7,7,7,7,7,7,7,7,7,7,7,7,7,7,7,7,8,8,8,8,8,8,8,8,8,8,8,8,8,8,8,8,8,8,8,8,8,8,8,8,8,8,8,8,8,8,8,8,8,8,8,8,8,8,8,8,8,8,8,8,8,8,8,8,8,8,8,8,8,8,8,8,8,8,8,8,8,8,8,8,8,8,8,8,8,8,8,8,8,8,8,8,8,8,8,8,8,8,8,8,8,8,8,8,8,8,8,8,8,8,8,8,8,8,8,8,8,8,8,8,8,8,8,8,8,8,8,8,8,8,8,8,8,8,8,8,8,8,8,8,8,8,8,8]⟩:ByteArray)[m]?=some (UInt8.ofNat (aV m)):=by decide +kernel
theorem Sw:∀ m,m<256->(UInt8.ofNat (aV m)).toNat=aV m:=by decide +kernel
theorem mP{dst:Option Nat}{ty:TypeId}{pos:String}{af:Array Edge}{gd:Option (Nat×Bool)}{d:Nat}{ρ:Operand->AV}{own:Own}{x y:Operand}{m:Nat}(hx:ρ x=.p (.c (.v (.string ⟨#[0,1,2,2,3,3,3,3,4,4,4,4,4,4,4,4,5,5,5,5,5,5,5,5,5,5,5,5,5,5,5,5,6,6,6,6,6,6,6,6,6,6,6,6,6,6,6,6,6,6,6,6,6,6,6,6,6,6,6,6,6,6,6,6,7,7,7,7,7,7,7,7,7,7,7,7,7,7,7,7,7,7,7,7,7,7,7,7,7,7,7,7,7,7,7,7,7,7,7,7,7,7,7,7,7,7,7,7,7,7,7,7,7,7,7,7,7,7,7,7,7,7,7,7,7,7,7,7,8,8,8,8,8,8,8,8,8,8,8,8,8,8,8,8,8,8,8,8,8,8,8,8,8,8,8,8,8,8,8,8,8,8,8,8,8,8,8,8,8,8,8,8,8,8,8,8,8,8,8,8,8,8,8,8,8,8,8,8,8,8,8,8,8,8,8,8,8,8,8,8,8,8,8,8,8,8,8,8,8,8,8,8,8,8,8,8,8,8,8,8,8,8,8,8,8,8,8,8,8,8,8,8,8,8,8,8,8,8,8,8,8,8,8,8,8,8,8,8,8,8,8,8,8,8,8,8]⟩))))(hy:ρ y=.p (.c (.v (.int .u8 m))))(hm:m<256):Eff Tryz.prog ⟨dst,.index 9 x y,ty,pos,af,gd⟩ d ρ own (.p (.c (.v (.int .u8 (aV m:Nat))))) [] none []:=by
 have h:=wn (P:=Tryz.prog) (dst:=dst) (ty:=ty) (pos:=pos) (af:=af) (gd:=gd) (d:=d) (own:=own) hT (T:=9) rfl rfl hx hy (by omega) (by rw[Vq];exact KI m hm);rw[Sw m hm]at h;exact h
theorem H3(x:Nat)(hx:x<4294967296) :
  ak Tryz.prog 176 [.p (.c (w32 x))] (Z (aV x)):=by
 refine aq Tryz.func176 rfl rfl rfl rfl<|Yy ?_;refine ah rfl (fun hb1=>?_) (fun hb1=>?_)
 ·have hb1_:=dT0 hb1;refine Yy ?_;refine ae (eK (j:=16) rfl rfl (by first|decide|omega))<|Yy ?_;refine ah rfl (fun hb2=>?_) (fun hb2=>?_)
  ·have hb2_:=dT0 hb2;refine Yy ?_;refine ae (eK (j:=8) rfl rfl (by first|decide|omega))<|Yy ?_;refine aF rfl rfl ?_;refine Yy ?_;refine ae (aQ hT rfl rfl rfl rfl (IntWalk.u8_in _ (by omega))) ?_;refine ae (mP rfl rfl (by omega)) ?_;refine ae (aQ hT rfl rfl rfl rfl (iW0 _ (by first|(have h8:=bl (m:=x/2^16/2^8) (by omega);omega)|(have h8:=bl (m:=x/2^16) (by omega);omega)|(have h8:=bl (m:=x/2^8) (by omega);omega)|(have h8:=bl (m:=x) (by omega);omega)))) ?_;refine ae (bB rfl rfl (iW0 _ (by first|(have h8:=bl (m:=x/2^16/2^8) (by omega);omega)|(have h8:=bl (m:=x/2^16) (by omega);omega)|(have h8:=bl (m:=x/2^8) (by omega);omega)|(have h8:=bl (m:=x) (by omega);omega))))<|Zz ?_;refine bC<|E1 rfl rfl ?_;have e:aV x=16+(8+aV (x/2^16/2^8)):=by rw[lP (k:=16) (by omega),lP (n:=x/2^16) (k:=8) (by omega)]
   exact am (by omega)
  have hb2_:=dF0 hb2;refine Yy ?_;refine ae (aQ hT rfl rfl rfl rfl (IntWalk.u8_in _ (by omega))) ?_;refine ae (mP rfl rfl (by omega)) ?_;refine ae (aQ hT rfl rfl rfl rfl (iW0 _ (by first|(have h8:=bl (m:=x/2^16/2^8) (by omega);omega)|(have h8:=bl (m:=x/2^16) (by omega);omega)|(have h8:=bl (m:=x/2^8) (by omega);omega)|(have h8:=bl (m:=x) (by omega);omega)))) ?_;refine ae (bB rfl rfl (iW0 _ (by first|(have h8:=bl (m:=x/2^16/2^8) (by omega);omega)|(have h8:=bl (m:=x/2^16) (by omega);omega)|(have h8:=bl (m:=x/2^8) (by omega);omega)|(have h8:=bl (m:=x) (by omega);omega))))<|Zz ?_;refine bC<|E1 rfl rfl ?_;have e:aV x=16+aV (x/2^16):=by rw[lP (k:=16) (by omega)]
  exact am (by omega)
 have hb1_:=dF0 hb1;refine Yy ?_;refine ah rfl (fun hb3=>?_) (fun hb3=>?_)
 ·have hb3_:=dT0 hb3;refine Yy ?_;refine ae (eK (j:=8) rfl rfl (by first|decide|omega))<|Yy ?_;refine aF rfl rfl ?_;refine Yy ?_;refine ae (aQ hT rfl rfl rfl rfl (IntWalk.u8_in _ (by omega))) ?_;refine ae (mP rfl rfl (by omega)) ?_;refine ae (aQ hT rfl rfl rfl rfl (iW0 _ (by first|(have h8:=bl (m:=x/2^16/2^8) (by omega);omega)|(have h8:=bl (m:=x/2^16) (by omega);omega)|(have h8:=bl (m:=x/2^8) (by omega);omega)|(have h8:=bl (m:=x) (by omega);omega)))) ?_;refine ae (bB rfl rfl (iW0 _ (by first|(have h8:=bl (m:=x/2^16/2^8) (by omega);omega)|(have h8:=bl (m:=x/2^16) (by omega);omega)|(have h8:=bl (m:=x/2^8) (by omega);omega)|(have h8:=bl (m:=x) (by omega);omega))))<|Zz ?_;refine bC<|E1 rfl rfl ?_;have e:aV x=8+aV (x/2^8):=by rw[lP (k:=8) (by omega)]
  exact am (by omega)
 have hb3_:=dF0 hb3;refine Yy ?_;refine ae (aQ hT rfl rfl rfl rfl (IntWalk.u8_in _ (by omega))) ?_;refine ae (mP rfl rfl (by omega)) ?_;refine ae (aQ hT rfl rfl rfl rfl (iW0 _ (by first|(have h8:=bl (m:=x/2^16/2^8) (by omega);omega)|(have h8:=bl (m:=x/2^16) (by omega);omega)|(have h8:=bl (m:=x/2^8) (by omega);omega)|(have h8:=bl (m:=x) (by omega);omega)))) ?_;refine ae (bB rfl rfl (iW0 _ (by first|(have h8:=bl (m:=x/2^16/2^8) (by omega);omega)|(have h8:=bl (m:=x/2^16) (by omega);omega)|(have h8:=bl (m:=x/2^8) (by omega);omega)|(have h8:=bl (m:=x) (by omega);omega))))<|Yy ?_;exact am (by omega)
theorem Ta(x:Nat)(hx:x<4294967296) :
  ak Tryz.prog 109 [.p (.c (w32 x))] (Z (32-(aV x:Nat))):=by
 have hb:=jw (k:=32) hx;refine aq Tryz.func109 rfl rfl rfl rfl<|Yy ?_;refine ae (ab (H3 _ (by assumption))) ?_;refine ae (aY rfl rfl (by first|exact iW0 _ (by omega)|rfl))<|Yy ?_;exact .refl _
theorem Sc(hi lo y:Nat)(hy:y<4294967296)(hh:hi<y)(hl:lo<4294967296) :
  ak Tryz.prog 178 [.p (.c (w32 hi)),.p (.c (w32 lo)),.p (.c (w32 y))] (.t [.c (w32 ((hi*4294967296+lo)/y)),.c (w32 ((hi*4294967296+lo)%y))]):=by
 have hq:(hi*4294967296+lo)/y<4294967296:=(Vp (by omega)).2 (by have:(hi+1)*4294967296<=y*4294967296:=Uy _ hh;omega);have hr:(hi*4294967296+lo)%y<y:=Vc _ (by omega);refine aq Tryz.func178 rfl rfl rfl rfl<|Yy ?_;refine an (aw rfl rfl (bne_iff_ne.2 (by omega))) (aK (rfl:_=AV.p (.c _))) ?_;refine an (aw rfl rfl (bne_iff_ne.2 (by omega))) (aK (rfl:_=AV.p (.c _))) ?_;refine an (aw rfl rfl (bne_iff_ne.2 (by omega))) (kx rfl rfl) ?_;refine ae (cQ rfl (bne_iff_ne.2 (by omega)) (rfl:_=AV.p (.c _)))<|Zz ?_;refine aJ rfl (Ix (by omega))<|Yy ?_;refine ae (aQ hT rfl rfl rfl rfl (IntWalk.u64_in _ (by omega))) ?_;refine ae (pD (j:=32) rfl rfl (by first|decide|omega) rfl)<|Zz ?_;refine ae (aQ hT rfl rfl rfl rfl (IntWalk.u64_in _ (by omega))) ?_;refine ae (pE rfl rfl (oX (by omega) hl))<|Yy ?_;refine ae (aQ hT rfl rfl rfl rfl (IntWalk.u64_in _ (by omega))) ?_;refine ae (bV rfl rfl (by omega) (c:=(((hi*4294967296+lo)/y:Nat):Int)) (by rw[Uz (by omega),<- WA,eo (by omega)])) ?_;refine ae (aQ hT rfl rfl rfl rfl (sG (by omega)))<|Zz ?_;refine ae (aQ hT rfl rfl rfl rfl (IntWalk.u64_in _ (by omega))) ?_;refine ae (cf rfl rfl (by omega) (c:=(((hi*4294967296+lo)%y:Nat):Int)) (by rw[UH (by omega),<- Int.natCast_emod])) ?_;refine ae (aQ hT rfl rfl rfl rfl (sG (by omega)))<|Yy ?_;exact .refl _
end
section
open Go Go.AM
attribute [local irreducible] RK Eff AWp
theorem s7(m n:Nat) :
  ak Tryz.prog 66 [.p (.c (nt m)),.p (.c (nt n))] (Z (aX m n)):=by
 refine aq Tryz.func66 rfl rfl rfl rfl ?_;refine nh (t:=0) rfl rfl (fun hlen=>?_);refine nh (t:=1) rfl rfl (fun hlen2=>?_);refine Yy ?_;refine ae (ab (qz _ _))<|Yy ?_;refine ah rfl (fun hb1=>?_) (fun hb1=>?_)
 ·have hb1_:=cg hb1;refine Yy ?_;exact am (LC hb1_)
 have hb1_:=ci hb1;refine Yy ?_;refine ae (aY rfl rfl (by first|exact iW0 _ (by omega)|rfl))<|Zz ?_;refine aR ?_;have hll:(wl m).length=(wl n).length:=by have:=tx hb1_;omega
 refine aC (ι:=Nat) (fun k=>stL [(0,.p (.c (nt m))),(1,.p (.c (nt n))),(6,Z ((k:Int)-1))] []) (fun k=>k<=(wl m).length∧(wl m).drop k=(wl n).drop k) (fun k=>k) (wl m).length ⟨Iv _,by rw[XB,hll,XB]⟩ (ai ⟨.refl _,.refl _,.refl _,trivial⟩ trivial) ?_;rintro k ⟨hk,he⟩;refine Yy ?_;refine ah rfl (fun hb2=>?_) (fun hb2=>?_)
 ·have hb2_:=dT0 hb2;refine Yy ?_;refine ae (b8 hT rfl rfl rfl rfl rfl rfl (l:=(wl m).length) (xs:=(wl m).map w32) (by omega) (nR (by omega)))<|Zz ?_;refine ae (b8 hT rfl rfl rfl rfl rfl rfl (l:=(wl n).length) (xs:=(wl n).map w32) (by omega) (nR (by omega)))<|Zz ?_;refine ae (ab (yu _ _))<|Yy ?_;refine ah rfl (fun hb3=>?_) (fun hb3=>?_)
  ·have hb3_:=cg hb3;refine aE hP<|Zz ?_;refine bC<|E1 rfl rfl ?_;have hkk:((k:Int)-1).toNat=k-1:=by omega
   rw[hkk]at hb3_ ⊢;have h2:=GO (bI m) (bI n) hll (k:=k-1) (by omega) (by rw[show k-1+1=k by omega];exact he) hb3_;rw[bE,bE]at h2;exact am h2
  have hb3_:=ci hb3;refine Yy ?_;refine ae (aY rfl rfl (by first|exact iW0 _ (by omega)|rfl))<|Zz ?_;have hkk:((k:Int)-1).toNat=k-1:=by omega
  have he2:=tx hb3_;rw[hkk]at he2;refine⟨k-1,⟨by omega,?_⟩,by omega,ai ⟨.refl _,.refl _,am (by omega),trivial⟩ trivial⟩;have e1:=fM (ws:=wl m) (k:=k-1) (by omega);have e2:=fM (ws:=wl n) (k:=k-1) (by omega);rw[e1,e2,show k-1+1=k by omega,he]
  congr 1
  omega
 have hb2_:=dF0 hb2;refine aS<|aE hP<|Zz ?_;refine bC<|E1 rfl rfl ?_;have hk0:k=0:=by omega
 rw[hk0,XR,XR]at he;have:m=n:=by rw[<- bE m,he,bE]
 exact am (by rw[this,l8])
theorem Kl(a b:List Nat)(ha:okW a)(hb:okW b)(hla:a.length<=1099511627776)(hlb:b.length<=1099511627776) :
  ak Tryz.prog 114 [.p (.c (W a)),.p (.c (W b))] (.p (.c (nt (wv a+wv b)))):=by
 refine aq Tryz.func114 rfl rfl rfl rfl ?_;refine aE hP<|Zz ?_;refine bR (ι:=List Nat×List Nat) (fun⟨p,q⟩=>stL [(0,.p (.c (W p))),(1,.p (.c (W q)))] []) (fun⟨p,q⟩=>okW p∧okW q∧q.length<=p.length∧p.length<=1099511627776∧wv p+wv q=wv a+wv b) ?_ ?_
 ·refine Yy ?_;refine ah rfl (fun hb1=>?_) (fun hb1=>?_)
  ·have hb1_:=dT0 hb1;refine Yy ?_;exact⟨(b,a),⟨hb,ha,by omega,hlb,Nat.add_comm _ _⟩,ai ⟨.refl _,.refl _,trivial⟩ trivial⟩
  have hb1_:=dF0 hb1;refine aT ?_;exact⟨(a,b),⟨ha,hb,by omega,hla,rfl⟩,ai ⟨.refl _,.refl _,trivial⟩ trivial⟩
 clear hla hlb;generalize hS:wv a+wv b=S;clear ha hb;rintro⟨a,b⟩ ⟨ha,hb,hl,hla,hs⟩;refine Yy ?_;refine aF rfl rfl ?_;refine bD ag (gH hT rfl rfl rfl rfl rfl rfl rfl rfl (by omega))<|Yy ?_;refine RK.mut ag (ou hT rfl rfl rfl rfl rfl rfl rfl (by simp) (ws':=a++[0]) (by rw[Ff]))<|Yy ?_;refine ae (iK hT rfl rfl rfl rfl)<|Zz ?_;refine aR ?_;have hA:okW (a++[0]):=ha.snoc (by omega);refine aC (ι:=List Nat×Nat) (fun⟨l,c⟩=>stL [(1,.p (.c (W b))),(5,.vec 19),(6,.p (.c (w32 c))),(24,Z (((a++[0]).length:Nat):Int)),(25,Z ((l.length:Nat):Int))] [(19,WB 60 (l++(a++[0]).drop l.length))]) (fun⟨l,c⟩=>l.length<=(a++[0]).length∧okW l∧c<2∧wv l+4294967296^l.length*c=wv ((a++[0]).take l.length)+wv (b.take l.length)) (fun⟨l,_⟩=>(a++[0]).length-l.length) ([],0) ⟨Uv _,okW.nil,by omega,by simp[wv]⟩ (ai ⟨.refl _,.refl _,.refl _,.refl _,.refl _,trivial⟩ ⟨rfl,trivial⟩) ?_;rintro⟨l,c⟩ ⟨hll,hol,hc,hv⟩;have hmid:=zC hll;have hAlen:(a++[0]).length=a.length+1:=by simp
 refine Yy ?_;refine ah rfl (fun hb2=>?_) (fun hb2=>?_)
 ·have hb2_:=dT0 hb2;have hlt:l.length<(a++[0]).length:=by omega
  refine aT<|bi<|aR<|aE hP<|Zz ?_;refine aE hP<|Zz ?_;refine bR (ι:=Unit) (fun _=>stL [(1,.p (.c (W b))),(5,.vec 19),(6,.p (.c (w32 c))),(24,Z (((a++[0]).length:Nat):Int)),(25,Z ((l.length:Nat):Int)),(7,Z ((l.length:Nat):Int)),(8,.p (.c (w32 (b.getD l.length 0))))] [(19,WB 60 (l++(a++[0]).drop l.length))]) (fun _=>True) ?_ ?_
  ·refine Yy ?_;refine ah rfl (fun hb3=>?_) (fun hb3=>?_)
   ·have hb3_:=dT0 hb3;refine Yy ?_;refine cO ?_;refine Zz ?_;exact⟨(),trivial,ai ⟨.refl _,.refl _,.refl _,.refl _,.refl _,.refl _,.refl _,trivial⟩ ⟨rfl,trivial⟩⟩
   have hb3_:=dF0 hb3;refine aT ?_;exact⟨(),trivial,ai ⟨.refl _,.refl _,.refl _,.refl _,.refl _,.refl _,ao (by rw[th (by omega)];rfl),trivial⟩ ⟨rfl,trivial⟩⟩
  rintro _ -;refine Yy ?_;refine dE ?_;refine ae (dT hT rfl rfl rfl rfl (by first|omega|(simp;omega)) (zD hlt))<|Zz ?_;refine ae (ab (Im _ _ _ (hA.getD _) (hb.getD _) (by omega)))<|Zz ?_;refine dE ?_;refine aZ ag (c8 hT rfl rfl rfl rfl rfl (by first|omega|(simp;omega)) (zB hlt))<|Yy ?_;refine aF rfl rfl ?_;refine Zz ?_;have hs1:=hA.getD l.length;have hs2:=hb.getD l.length;have hr:=D1 (A:=(a++[0])) (b:=b) (_r:=[]) hlt rfl hv _ rfl;refine⟨(l++[((a++[0]).getD l.length 0+b.getD l.length 0+c)%4294967296],((a++[0]).getD l.length 0+b.getD l.length 0+c)/4294967296),⟨by simp;omega,hol.snoc (Vc _ (by omega)),by omega,by simpa using hr⟩,by simp;omega,ai ⟨.refl _,.refl _,.refl _,.refl _,am (by simp),trivial⟩ ⟨rfl,trivial⟩⟩
 have hb2_:=dF0 hb2;have hge:l.length=(a++[0]).length:=by omega
 have hfin:=hol.app (hA.drop l.length);have hval:=D2 hge hl ha hb hol hv;refine aS<|eE (t:=5) rfl rfl ?_;refine Yy ?_;refine ae (ab (fk _ hfin))<|Yy ?_;exact ao (by rw[hval,hs])
end
section
open Go Go.AM
attribute [local irreducible] RK Eff AWp
theorem zy(a b:List Nat)(ha:okW a)(hb:okW b)(hla:a.length<=1099511627776)(hab:b.length<=a.length)(hle:wv b<=wv a) :
  ak Tryz.prog 115 [.p (.c (W a)),.p (.c (W b))] (.p (.c (nt (wv a-wv b)))):=by
 refine aq Tryz.func115 rfl rfl rfl rfl ?_;have h0l:(0:Nat)<=a.length:=Uv _;refine Yy ?_;refine bD ag (gH hT rfl rfl rfl rfl rfl rfl rfl rfl (by omega))<|Yy ?_;refine RK.mut ag (ou hT rfl rfl rfl rfl rfl rfl rfl (by simp) (ws':=a) (by rw[Fg,List.append_nil]))<|Yy ?_;refine ae (iK hT rfl rfl rfl rfl)<|Yy ?_;refine aC (ι:=List Nat×Nat) (fun⟨l,c⟩=>stL [(1,.p (.c (W b))),(5,.vec 11),(6,.p (.c (w32 c))),(16,Z ((a.length:Nat):Int)),(17,Z ((l.length:Nat):Int))] [(11,WB 60 (l++a.drop l.length))]) (fun⟨l,c⟩=>l.length<=a.length∧okW l∧c<2∧wv l+wv (b.take l.length)=wv (a.take l.length)+4294967296^l.length*c) (fun⟨l,_⟩=>a.length-l.length) ([],0) ⟨Uv _,okW.nil,by omega,by simp[wv]⟩ (ai ⟨.refl _,.refl _,.refl _,.refl _,.refl _,trivial⟩ ⟨rfl,trivial⟩) ?_;rintro⟨l,c⟩ ⟨hll,hol,hc,hv⟩;have hmid:=zC hll;refine Yy ?_;refine ah rfl (fun hb1=>?_) (fun hb1=>?_)
 ·have hb1_:=dT0 hb1;have hlt:l.length<a.length:=by omega
  refine aT<|bi<|aR<|aE hP<|Zz ?_;refine aE hP<|Zz ?_;refine bR (ι:=Unit) (fun _=>stL [(1,.p (.c (W b))),(5,.vec 11),(6,.p (.c (w32 c))),(16,Z ((a.length:Nat):Int)),(17,Z ((l.length:Nat):Int)),(7,Z ((l.length:Nat):Int)),(8,.p (.c (w32 (b.getD l.length 0))))] [(11,WB 60 (l++a.drop l.length))]) (fun _=>True) ?_ ?_
  ·refine Yy ?_;refine ah rfl (fun hb2=>?_) (fun hb2=>?_)
   ·have hb2_:=dT0 hb2;refine Yy ?_;refine cO ?_;refine Zz ?_;exact⟨(),trivial,ai ⟨.refl _,.refl _,.refl _,.refl _,.refl _,.refl _,.refl _,trivial⟩ ⟨rfl,trivial⟩⟩
   have hb2_:=dF0 hb2;refine aT ?_;exact⟨(),trivial,ai ⟨.refl _,.refl _,.refl _,.refl _,.refl _,.refl _,ao (by rw[th (by omega)];rfl),trivial⟩ ⟨rfl,trivial⟩⟩
  rintro _ -;refine Yy ?_;refine dE ?_;refine ae (dT hT rfl rfl rfl rfl (by first|omega|(simp;omega)) (zD hlt))<|Zz ?_;refine ae (ab (AN _ _ _ (ha.getD _) (hb.getD _) hc))<|Zz ?_;refine dE ?_;refine aZ ag (c8 hT rfl rfl rfl rfl rfl (by first|omega|(simp;omega)) (zB hlt))<|Yy ?_;refine aF rfl rfl ?_;refine Zz ?_;have hr:=BY rfl hc ha hb hv;refine⟨(l++[(a.getD l.length 0+8589934592-b.getD l.length 0-c)%4294967296],if a.getD l.length 0<b.getD l.length 0+c then 1 else 0),⟨by simp;omega,hol.snoc (Vc _ (by omega)),by split <;> omega,by simpa using hr⟩,by simp;omega,ai ⟨.refl _,.refl _,.refl _,.refl _,am (by simp),trivial⟩ ⟨rfl,trivial⟩⟩
 have hb1_:=dF0 hb1;have hge:l.length=a.length:=by omega
 have hfin:=hol.app (ha.drop l.length);have hval:=BZ hge hab hle hol hv;refine aS<|eE (t:=5) rfl rfl ?_;refine Yy ?_;refine ae (ab (fk _ hfin))<|Yy ?_;exact ao (by rw[hval])
theorem Kj(a b:List Nat)(ha:okW a)(hb:okW b)(hla:a.length<=1099511627776)(hlb:b.length<=1099511627776) :
  ak Tryz.prog 164 [.p (.c (W a)),.p (.c (W b))] (.p (.c (nt (wv a*wv b)))):=by
 refine aq Tryz.func164 rfl rfl rfl rfl<|Yy ?_;refine aF rfl rfl ?_;refine bD ag (gH hT rfl rfl rfl rfl rfl rfl rfl rfl (by omega))<|Yy ?_;refine aC (ι:=List Nat×Nat) (fun⟨o,i⟩=>stL [(1,.p (.c (W b))),(5,.vec 17),(18,.p (.c (W a))),(19,Z ((a.length:Nat):Int)),(20,Z (i:Int))] [(17,WB 60 o)]) (fun⟨o,i⟩=>i<=a.length∧o.length=a.length+b.length∧okW o∧wv o=wv (a.take i)*wv b∧∀ j,i+b.length<=j->o.getD j 0=0) (fun⟨_,i⟩=>a.length-i) (List.replicate ((a.length:Int)+(b.length:Int)).toNat 0,0) ⟨Uv _,by simp;omega,okW.rep _,by rw[rp];simp[wv],fun j _=>qX _ _⟩ (ai ⟨.refl _,.refl _,.refl _,.refl _,.refl _,trivial⟩ ⟨rfl,trivial⟩) ?_;rintro⟨o,i⟩ ⟨hi,hlo,ho,hv,hz⟩;refine Yy ?_;refine ah rfl (fun hb1=>?_) (fun hb1=>?_)
 ·have hb1_:=dT0 hb1;have hlt0:i<a.length:=by omega
  refine Yy ?_;refine cO ?_;refine Zz ?_;refine aE hP<|Zz ?_;refine bi<|aE hP<|Zz ?_;refine aR ?_;obtain⟨o0,ho0⟩:∃ o0,o0=o:=⟨_,rfl⟩
  have hv0:=hv;rw[<- ho0]at hv;refine aC (ι:=List Nat×Nat×Nat) (fun⟨o,k,c⟩=>stL [(1,.p (.c (W b))),(5,.vec 17),(18,.p (.c (W a))),(19,Z ((a.length:Nat):Int)),(20,Z (i:Int)),(6,Z (i:Int)),(7,.p (.c (w32 (a.getD i 0)))),(8,.p (.c (.v (.int .u64 (c:Nat))))),(25,.p (.c (W b))),(26,Z ((b.length:Nat):Int)),(27,Z (k:Int))] [(17,WB 60 o)]) (fun⟨o,k,c⟩=>k<=b.length∧o.length=a.length+b.length∧okW o∧c<4294967296∧wv o+4294967296^(i+k)*c=wv o0+4294967296^i*(a.getD i 0*wv (b.take k))∧∀ j,i+b.length<=j->o.getD j 0=0) (fun⟨_,k,_⟩=>b.length-k) (o,0,0) ⟨Uv _,hlo,ho,by omega,by rw[ho0];simp[wv],hz⟩ (ai ⟨.refl _,.refl _,.refl _,.refl _,.refl _,.refl _,.refl _,.refl _,.refl _,.refl _,.refl _,trivial⟩ ⟨rfl,trivial⟩) ?_;clear hlo ho hz hv0 ho0;rintro⟨o,k,c⟩ ⟨hk,hlo,ho,hc,hkv,hz⟩;refine Yy ?_;refine ah rfl (fun hb2=>?_) (fun hb2=>?_)
  ·have hb2_:=dT0 hb2;have hlt:k<b.length:=by omega
   have ha1:=ha.getD i;have hb1v:=hb.getD k;have hp1:=VJ (Wn (ha.getD i)) (Wn (hb.getD k));have ho1:=ho.getD (i+k);refine Yy ?_;refine cO ?_;refine Yy ?_;refine ae (aQ hT rfl rfl rfl rfl (eo (by omega)))<|Zz ?_;refine ae (aQ hT rfl rfl rfl rfl (eo (by omega))) ?_;refine ae (bw rfl rfl (c:=((a.getD i 0*b.getD k 0:Nat):Int)) (by rw[<- V5,eo (by omega)]))<|Zz ?_;refine ae (bB rfl rfl (c:=((i+k:Nat):Int)) (by rw[iW0 _ (by omega)];omega)) ?_;refine dE ?_;refine ae (dT hT rfl rfl rfl rfl (by first|omega|(simp;omega)) rfl) ?_;refine ae (aQ hT rfl rfl rfl rfl (eo (by omega))) ?_;refine ae (bB rfl rfl (c:=((a.getD i 0*b.getD k 0+o.getD (i+k) 0:Nat):Int)) (by rw[<- WS,eo (by omega)]))<|Zz ?_;refine ae (bB rfl rfl (c:=((a.getD i 0*b.getD k 0+o.getD (i+k) 0+c:Nat):Int)) (by rw[<- WS,eo (by omega)]))<|Yy ?_;refine ae (bB rfl rfl (c:=((i+k:Nat):Int)) (by rw[iW0 _ (by omega)];omega))<|Zz ?_;refine ae (aQ hT rfl rfl rfl rfl (c:=(((a.getD i 0*b.getD k 0+o.getD (i+k) 0+c)%4294967296:Nat):Int)) (by rw[IntKind.wrap_u32];omega))<|Zz ?_;refine ae (eK (j:=32) rfl rfl (by first|decide|omega)) ?_;refine dE ?_;refine aZ ag (c8 hT rfl rfl rfl rfl rfl (by first|omega|(simp;omega)) rfl)<|Yy ?_;refine aF rfl rfl ?_;refine Zz ?_;have hr:=CR (b:=b) (x:=a.getD i 0) (i:=i) (k:=k) (t:=a.getD i 0*b.getD k 0+o.getD (i+k) 0+c) (by omega) rfl hkv;refine⟨(o.set (i+k) ((a.getD i 0*b.getD k 0+o.getD (i+k) 0+c)%4294967296),k+1,(a.getD i 0*b.getD k 0+o.getD (i+k) 0+c)/4294967296),⟨by omega,by simpa using hlo,ho.set (Vc _ (by omega)),(Vp (by omega)).2 (by omega),hr,fun j hj=>?_⟩,by show b.length-(k+1)<b.length-k;omega,ai ⟨.refl _,.refl _,.refl _,.refl _,.refl _,.refl _,.refl _,.refl _,.refl _,.refl _,.refl _,trivial⟩ ⟨rfl,trivial⟩⟩;rw[iY _ _ _ _ (by omega),G2 (by omega)];exact hz j (by omega)
  have hb2_:=dF0 hb2;have hke:k=b.length:=by omega
  subst hke;refine Yy ?_;refine ae (bB rfl rfl (c:=((i+b.length:Nat):Int)) (by rw[iW0 _ (by omega)];omega))<|Zz ?_;refine ae (aQ hT rfl rfl rfl rfl (sG (by omega))) ?_;refine dE ?_;refine aZ ag (c8 hT rfl rfl rfl rfl rfl (by first|omega|(simp;omega)) rfl)<|Yy ?_;refine aF rfl rfl ?_;refine Zz ?_;have hov:=CT (o:=o0) (a:=a) (by omega) (hz _ (Iv _)) rfl hv hkv;refine⟨(o.set (i+b.length) c,i+1),⟨by omega,by simpa using hlo,ho.set (by omega),hov,fun j hj=>?_⟩,by show a.length-(i+1)<a.length-i;omega,ai ⟨.refl _,.refl _,.refl _,.refl _,.refl _,trivial⟩ ⟨rfl,trivial⟩⟩;rw[iY _ _ _ _ (by omega),G2 (by omega)];exact hz j (by omega)
 have hb1_:=dF0 hb1;have hie:i=a.length:=by omega
 refine aS<|eE (t:=5) rfl rfl ?_;refine Yy ?_;refine ae (ab (fk _ ho))<|Yy ?_;exact ao (by rw[hv,hie,Vm])
end
section
open Go Go.AM
attribute [local irreducible] RK Eff AWp
theorem sZ(a:List Nat)(k:Nat)(ha:okW a)(hla:a.length<=1099511627776)(hk:k<=1099511627776) :
  ak Tryz.prog 110 [.p (.c (W a)),Z (k:Int)] (.p (.c (nt (wv a*2^k)))):=by
 refine aq Tryz.func110 rfl rfl rfl rfl ?_;obtain⟨q,hq⟩:∃ q,q=k/32:=⟨_,rfl⟩
 obtain⟨s,hs⟩:∃ s,s=k%32:=⟨_,rfl⟩
 have hks:k=32*q+s:=by omega
 have hs32:s<32:=by omega
 refine Yy ?_;refine ae (bV rfl rfl (by decide) (c:=((q:Nat):Int)) (by rw[Uz (by omega),iW0 _ (by omega)];omega)) ?_;refine ae (bB rfl rfl (c:=((a.length+q:Nat):Int)) (by rw[iW0 _ (by omega)];omega)) ?_;refine ae (bB rfl rfl (c:=((a.length+q+1:Nat):Int)) (by rw[iW0 _ (by omega)];omega)) ?_;refine bD ag (gH hT rfl rfl rfl rfl rfl rfl rfl rfl (by omega))<|Yy ?_;refine aC (ι:=List Nat×Nat) (fun⟨o,i⟩=>stL [(1,Z (k:Int)),(5,.vec 15),(16,.p (.c (W a))),(17,Z ((a.length:Nat):Int)),(18,Z (i:Int))] [(15,WB 60 o)]) (fun⟨o,i⟩=>i<=a.length∧o.length=a.length+q+1∧okW o∧wv o=wv (a.take i)*2^k∧o.getD (i+q) 0<2^s∧∀ j,i+q<j->o.getD j 0=0) (fun⟨_,i⟩=>a.length-i) (List.replicate ((a.length+q+1:Nat):Int).toNat 0,0) ⟨Uv _,by simp;omega,okW.rep _,by rw[rp];simp[wv],by rw[qX];exact VR s,fun j _=>qX _ _⟩ (ai ⟨.refl _,.refl _,.refl _,.refl _,.refl _,trivial⟩ ⟨rfl,trivial⟩) ?_;rintro⟨o,i⟩ ⟨hi,hlo,ho,hv,hlow,hz⟩;refine Yy ?_;refine ah rfl (fun hb1=>?_) (fun hb1=>?_)
 ·have hb1_:=dT0 hb1;have hlt:i<a.length:=by omega
  have hai:=ha.getD i;have hoi:=ho.getD (i+q);have hti:a.getD i 0*2^s/4294967296<4294967296:=Cc hai hs32;refine Yy ?_;refine cO ?_;refine Yy ?_;refine ae (aQ hT rfl rfl rfl rfl (eo (by omega)))<|Zz ?_;refine ae (cf rfl rfl (by decide) (c:=((s:Nat):Int)) (by rw[UH (by omega)];omega)) ?_;refine ae (rJ rfl rfl (by omega) (c:=((a.getD i 0*2^s:Nat):Int)) (QC hai hs32))<|Yy ?_;refine ae (bV rfl rfl (by decide) (c:=((q:Nat):Int)) (by rw[Uz (by omega),iW0 _ (by omega)];omega)) ?_;refine ae (bB rfl rfl (c:=((i+q:Nat):Int)) (by rw[iW0 _ (by omega)];omega)) ?_;refine dE ?_;refine ae (dT hT rfl rfl rfl rfl (by first|omega|(simp;omega)) rfl)<|Zz ?_;refine ae (aQ hT rfl rfl rfl rfl (c:=((a.getD i 0*2^s%4294967296:Nat):Int)) (by rw[IntKind.wrap_u32];omega)) ?_;refine ae (Cy rfl rfl rfl (jU hoi) (jU (Vc _ (by omega)))) ?_;refine dE ?_;refine aZ ag (c8 hT rfl rfl rfl rfl rfl (by first|omega|(simp;omega)) rfl)<|Yy ?_;refine ae (bV rfl rfl (by decide) (c:=((q:Nat):Int)) (by rw[Uz (by omega),iW0 _ (by omega)];omega)) ?_;refine ae (bB rfl rfl (c:=((i+q:Nat):Int)) (by rw[iW0 _ (by omega)];omega)) ?_;refine ae (bB rfl rfl (c:=((i+q+1:Nat):Int)) (by rw[iW0 _ (by omega)];omega))<|Zz ?_;refine ae (eK (j:=32) rfl rfl (by decide)) ?_;refine ae (aQ hT rfl rfl rfl rfl (c:=((a.getD i 0*2^s/4294967296:Nat):Int)) (sG hti)) ?_;refine dE ?_;refine aZ ag (c8 hT rfl rfl rfl rfl rfl (by first|omega|(simp;omega)) rfl)<|Yy ?_;refine aF rfl rfl ?_;refine Zz ?_;have hr:=Cb (a:=a) (x:=a.getD i 0) hks hs32 (by omega) rfl hlow (hz _ (by omega)) hv;have hts:a.getD i 0*2^s/4294967296<2^s:=by
   rw[Vp (by omega),Va];exact Nat.mul_lt_mul_of_pos_left hai (VR s)
  refine⟨((o.set (i+q) (o.getD (i+q) 0 ||| a.getD i 0*2^s%4294967296)).set (i+q+1) (a.getD i 0*2^s/4294967296),i+1),⟨by omega,by simpa using hlo,(ho.set (Nat.or_lt_two_pow (n:=32) hoi (Vc _ (by omega)))).set hti,hr,?_,fun j hj=>?_⟩,by show a.length-(i+1)<a.length-i;omega,ai ⟨.refl _,.refl _,.refl _,.refl _,.refl _,trivial⟩ ⟨rfl,trivial⟩⟩
  ·rw[show i+1+q=i+q+1 by omega,iY _ _ _ _ (by simp;omega),H2 rfl];exact hts
  rw[iY _ _ _ _ (by simp;omega),G2 (by omega),iY _ _ _ _ (by omega),G2 (by omega)];exact hz j (by omega)
 have hb1_:=dF0 hb1;have hie:i=a.length:=by omega
 refine aS<|eE (t:=5) rfl rfl ?_;refine Yy ?_;refine ae (ab (fk _ ho))<|Yy ?_;exact ao (by rw[hv,hie,Vm])
theorem Ki(a:List Nat)(k:Nat)(ha:okW a)(hla:a.length<=1099511627776)(hk:k<32) :
  ak Tryz.prog 113 [.p (.c (W a)),Z (k:Int)] (.p (.c (nt (wv a/2^k)))):=by
 refine aq Tryz.func113 rfl rfl rfl rfl ?_;have h0l:(0:Nat)<=a.length:=Uv _;refine Yy ?_;refine bD ag (gH hT rfl rfl rfl rfl rfl rfl rfl rfl (by omega))<|Yy ?_;refine ae (iK hT rfl rfl rfl rfl)<|Yy ?_;refine aC (ι:=List Nat×Nat) (fun⟨o,i⟩=>stL [(0,.p (.c (W a))),(1,Z (k:Int)),(5,.vec 10),(12,Z ((a.length:Nat):Int)),(13,Z (i:Int))] [(10,WB 60 o)]) (fun⟨o,i⟩=>i<=a.length∧o.length=a.length∧∀ j,j<i->o.getD j 0=jQ a k j) (fun⟨_,i⟩=>a.length-i) (List.replicate ((a.length:Nat):Int).toNat 0,0) ⟨Uv _,by simp,fun j hj=>by omega⟩ (ai ⟨.refl _,.refl _,.refl _,am (by simp),.refl _,trivial⟩ ⟨rfl,trivial⟩) ?_;rintro⟨o,i⟩ ⟨hi,hlo,hv⟩;refine Yy ?_;refine ah rfl (fun hb1=>?_) (fun hb1=>?_)
 ·have hb1_:=dT0 hb1;have hlt:i<a.length:=by omega
  have hai:=ha.getD i;refine Yy ?_;refine cO ?_;refine Zz ?_;refine ae (aQ hT rfl rfl rfl rfl (eo (by omega)))<|Zz ?_;refine bR (ι:=Unit) (fun _=>stL [(0,.p (.c (W a))),(1,Z (k:Int)),(5,.vec 10),(12,Z ((a.length:Nat):Int)),(13,Z (i:Int)),(6,Z (i:Int)),(7,.p (.c (.v (.int .u64 ((a.getD i 0+4294967296*a.getD (i+1) 0:Nat):Int)))))] [(10,WB 60 o)]) (fun _=>True) ?_ ?_
  ·refine Yy ?_;refine ae (bB rfl rfl (c:=((i+1:Nat):Int)) (by rw[iW0 _ (by omega)];omega))<|Zz ?_;refine ah rfl (fun hb2=>?_) (fun hb2=>?_)
   ·have hb2_:=dT0 hb2;refine Yy ?_;refine ae (bB rfl rfl (c:=((i+1:Nat):Int)) (by rw[iW0 _ (by omega)];omega)) ?_;refine cO ?_;refine Zz ?_;refine ae (aQ hT rfl rfl rfl rfl (eo (by have:=ha.getD (i+1);omega))) ?_;refine ae (pD (j:=32) rfl rfl (by decide) rfl) ?_;refine ae (pE rfl rfl (c:=((a.getD i 0+4294967296*a.getD (i+1) 0:Nat):Int)) (by rw[DT hai (ha.getD (i+1))]))<|Zz ?_;exact⟨(),trivial,ai ⟨.refl _,.refl _,.refl _,.refl _,.refl _,.refl _,.refl _,trivial⟩ ⟨rfl,trivial⟩⟩
   have hb2_:=dF0 hb2;refine aT ?_;exact⟨(),trivial,ai ⟨.refl _,.refl _,.refl _,.refl _,.refl _,.refl _,am (by rw[th (k:=i+1) (by omega)];omega),trivial⟩ ⟨rfl,trivial⟩⟩
  rintro _ -;have hai2:=ha.getD (i+1);refine Yy ?_;refine ae (eK (j:=k) rfl rfl (by show k<=64;omega)) ?_;refine ae (aQ hT rfl rfl rfl rfl (c:=((jQ a k i:Nat):Int)) (by rw[IntKind.wrap_u32];unfold jQ;omega)) ?_;refine dE ?_;refine aZ ag (c8 hT rfl rfl rfl rfl rfl (by first|omega|(simp;omega)) rfl)<|Yy ?_;refine aF rfl rfl ?_;refine Zz ?_;refine⟨(o.set i (jQ a k i),i+1),⟨by omega,by simpa using hlo,fun j hj=>?_⟩,by show a.length-(i+1)<a.length-i;omega,ai ⟨.refl _,.refl _,.refl _,.refl _,.refl _,trivial⟩ ⟨rfl,trivial⟩⟩;rw[iY _ _ _ _ (by omega)];split
  ·subst_vars;rfl
  exact hv j (by omega)
 have hb1_:=dF0 hb1;have hie:i=a.length:=by omega
 have hoe:=JA (hie▸hv) hlo;have hook:=Nz a k;refine aS<|eE (t:=5) rfl rfl ?_;refine Yy ?_;refine ae (ab (fk _ (hoe▸hook)))<|Yy ?_;exact ao (by rw[hoe,yY k hk a ha])
theorem qt(a:List Nat)(d:Nat)(ha:okW a)(hla:a.length<=1099511627776)(hd:0<d)(hd2:d<4294967296) :
  ak Tryz.prog 107 [.p (.c (W a)),.p (.c (w32 d))] (.t [.c (nt (wv a/d)),.c (w32 (wv a%d))]):=by
 refine aq Tryz.func107 rfl rfl rfl rfl ?_;have h0l:(0:Nat)<=a.length:=Uv _;refine Yy ?_;refine bD ag (gH hT rfl rfl rfl rfl rfl rfl rfl rfl (by omega))<|Yy ?_;refine ae (aY rfl rfl (by first|exact iW0 _ (by omega)|rfl))<|Yy ?_;refine aC (ι:=List Nat×Nat×Nat) (fun⟨o,i,r⟩=>stL [(0,.p (.c (W a))),(1,.p (.c (w32 d))),(6,.vec 11),(7,.p (.c (w32 r))),(8,Z ((i:Int)-1))] [(11,WB 60 o)]) (fun⟨o,i,r⟩=>i<=a.length∧o.length=a.length∧okW o∧r<d∧wv (a.drop i)=d*wv (o.drop i)+r) (fun⟨_,i,_⟩=>i) (List.replicate ((a.length:Nat):Int).toNat 0,a.length,0) ⟨Iv _,by simp,okW.rep _,hd,by simp[wv]⟩ (ai ⟨.refl _,.refl _,.refl _,.refl _,.refl _,trivial⟩ ⟨rfl,trivial⟩) ?_;rintro⟨o,i,r⟩ ⟨hi,hlo,ho,hr,hv⟩;refine Yy ?_;refine ah rfl (fun hb1=>?_) (fun hb1=>?_)
 ·have hb1_:=dT0 hb1;obtain⟨i,rfl⟩:∃ k,i=k+1:=⟨i-1,by omega⟩
  have hc:((i+1:Nat):Int)-1=(i:Int):=by omega
  have hai:=ha.getD i;have hq:(r*4294967296+a.getD i 0)/d<4294967296:=(Vp hd).2 (by have:(r+1)*4294967296<=d*4294967296:=Uy _ hr;omega);refine eh (t:=stL [(0,.p (.c (W a))),(1,.p (.c (w32 d))),(6,.vec 11),(7,.p (.c (w32 r))),(8,Z (i:Int))] [(11,WB 60 o)]) (ai ⟨.refl _,.refl _,.refl _,.refl _,am hc,trivial⟩ ⟨rfl,trivial⟩)<|Yy ?_;refine cO ?_;refine Zz ?_;refine ae (ab (Sc _ _ _ hd2 hr hai))<|Zz ?_;refine dE ?_;refine aZ ag (c8 hT rfl rfl rfl rfl rfl (by first|omega|(simp;omega)) rfl)<|Yy ?_;refine ae (aY rfl rfl (by first|exact iW0 _ (by omega)|rfl))<|Zz ?_;refine⟨(o.set i ((r*4294967296+a.getD i 0)/d),i,(r*4294967296+a.getD i 0)%d),⟨by omega,by simpa using hlo,ho.set hq,Vc _ hd,Bx (by omega) hlo hv hd⟩,by show i<i+1;omega,ai ⟨.refl _,.refl _,.refl _,.refl _,am (by omega),trivial⟩ ⟨rfl,trivial⟩⟩
 have hb1_:=dF0 hb1;have hie:i=0:=by omega
 subst hie;refine aS<|eE (t:=6) rfl rfl ?_;refine Yy ?_;refine ae (ab (fk _ ho))<|Zz ?_;refine bC<|E11 rfl rfl rfl ?_;rw[XR,XR]at hv;have e1:wv a/d=wv o:=by rw[hv,Nat.mul_add_div hd,W8 hr,Wh]
 have e2:wv a%d=r:=by rw[hv,Nat.mul_add_mod,V0 hr]
 exact ao (by rw[e1,e2])
end
section
open Go Go.AM
attribute [local irreducible] RK Eff AWp
theorem Kk(a b:Nat)(hla:(wl a).length<=1099511627776)(hb:0<b) :
  ak Tryz.prog 46 [.p (.c (nt a)),.p (.c (nt b))] (.t [.c (nt (a/b)),.c (nt (a%b))]):=by
 refine aq Tryz.func46 rfl rfl rfl rfl ?_;have h0l:(0:Nat)<=(wl a).length:=Uv _;have hbl:=je b;refine Yy ?_;refine ae (ab (s7 a b))<|Zz ?_;refine ah rfl (fun hb1=>?_) (fun hb1=>?_)
 ·have hb1_:=dT0 hb1;have hlt:a<b:=by
   unfold aX at *;split at * <;> first|omega|(split at * <;> omega)
  refine Yy ?_;exact Sub.tup ⟨fun _ _ h=>DSub.of_eq (by rw[W8 hlt];rfl) _ _ (DSub.nil_sl _ _ h),DSub.of_eq (by rw[V0 hlt]),trivial⟩
 have hb1_:=dF0 hb1;have hab:b<=a:=by
  unfold aX at *;split at * <;> first|omega|(split at * <;> omega)
 have hll:=kh hab;refine Yy ?_;refine ah rfl (fun hb2=>?_) (fun hb2=>?_)
 ·have hb2_:=bT hb2;have h1:(wl b).length=1:=by omega
  have hd2:=(bI b).getD 0;have hbe:b=(wl b).getD 0 0:=by
   have:=py (n:=0) h1;rw[bE]at this;simpa[wv]using this
  have hmod:wv (wl a)%(wl b).getD 0 0<4294967296:=Nat.lt_trans (Vc _ (by omega)) hd2;have hr1:okW [wv (wl a)%(wl b).getD 0 0]:=by intro x hx;rw[U3.1 hx];exact hmod
  have hd1:0<(wl b).getD 0 0:=by omega
  have hdiv:a/(wl b).getD 0 0=a/b∧a%(wl b).getD 0 0=a%b:=by rw[<- hbe];exact⟨rfl,rfl⟩
  refine Yy ?_;refine cO ?_;refine Zz ?_;refine ae (ab (qt (wl a) ((wl b).getD 0 0) (bI a) hla hd1 hd2))<|Yy ?_;refine ae (ab (fk [_] hr1))<|Yy ?_;exact ao (by rw[bE,hdiv.1,hdiv.2];simp[wv])
 have hb2_:=bF hb2;obtain⟨k,hk⟩:∃ k,(wl b).length=k+1+1:=by
  refine⟨(wl b).length-2,?_⟩;have:(wl b).length≠0:=by intro h;rw[h]at hbl;omega
  omega
 obtain⟨s,hs⟩:∃ s,s=32-aV ((wl b).getD (k+1) 0):=⟨_,rfl⟩
 obtain⟨hn1,hn2,hs32,hbp⟩:=A8 hk hs;have hb3:aV ((wl b).getD (k+1) 0)<=32:=jw (k:=32) (by simpa using(bI b).getD (k+1));have hsl:=JC (m:=a) hs32;have hva:=bE a;have hvb:=bE b;obtain⟨v,hv⟩:∃ v,v=wl (b*2^s):=⟨_,rfl⟩
 obtain⟨x,hx⟩:∃ x,x=wl (a*2^s):=⟨_,rfl⟩
 have okv:okW v:=hv▸bI _;have okx:okW x:=hx▸bI _;have hwv:wv v=b*2^s:=by rw[hv,bE]
 have hwx:wv x=a*2^s:=by rw[hx,bE]
 have cb:ak Tryz.prog 110 [.p (.c (nt b)),Z (s:Int)] (.p (.c (W v))):=by
  have:=sZ (wl b) s (bI b) (by omega) (by omega);rw[hvb]at this;rw[hv];exact this
 have ca:ak Tryz.prog 110 [.p (.c (nt a)),Z (s:Int)] (.p (.c (W x))):=by
  have:=sZ (wl a) s (bI a) (by omega) (by omega);rw[hva]at this;rw[hx];exact this
 rw[<- hv]at hn1 hn2;rw[<- hx]at hsl;obtain⟨u0,hu0⟩:∃ u0,u0=x++(List.replicate ((((wl a).length:Nat):Int)+1).toNat 0).drop x.length:=⟨_,rfl⟩
 have hu0l:u0.length=(wl a).length+1:=by rw[hu0];simp;omega
 have oku0:okW u0:=by rw[hu0];exact okx.app ((okW.rep _).drop _)
 have hwu0:wv u0=a*2^s:=by
  rw[hu0,gC,XE,rp,Ws,Wh,hwx]
 refine Yy ?_;refine ae (aY rfl rfl (c:=((k+1:Nat):Int)) (by rw[iW0 _ (by omega)];omega)) ?_;refine cO ?_;refine Zz ?_;refine ae (ab (Ta _ ((bI b).getD _)))<|Zz ?_;refine eh (t:=stL [(0,.p (.c (nt a))),(1,.p (.c (nt b))),(8,Z (s:Int))] []) (ai ⟨.refl _,.refl _,am (by omega),trivial⟩ trivial)<|Yy ?_;refine ae (ab cb)<|Yy ?_;refine aF rfl rfl ?_;refine bD ag (gH hT rfl rfl rfl rfl rfl rfl rfl rfl (by omega))<|Yy ?_;refine ae (ab ca) ?_;refine RK.mut ag (ou hT rfl rfl rfl rfl rfl rfl rfl (by simp;omega) (ws':=u0) hu0.symm)<|Yy ?_;refine ae (iK hT rfl rfl rfl rfl)<|Zz ?_;refine ae (aY rfl rfl (c:=(((wl a).length+1-(k+2):Nat):Int)) (by rw[iW0 _ (by rw[hu0l];omega),hu0l];omega)) ?_;refine bD ag (gH hT rfl rfl rfl rfl rfl rfl rfl rfl (by omega))<|Yy ?_;refine ae (iK hT rfl rfl rfl rfl)<|ae (aY rfl rfl (c:=(((wl a).length+1-(k+2):Nat):Int)-1) (by simp only[List.length_replicate,Int.toNat_natCast];exact iW0 _ (by omega)))<|Yy ?_;refine aC (ι:=List Nat×List Nat×Nat) (fun⟨u,q,i⟩=>stL [(8,Z (s:Int)),(9,.p (.c (W v))),(10,Z ((k+2:Nat):Int)),(11,.vec 60),(12,.vec 70),(13,Z ((i:Int)-1))] [(60,WB 60 u),(70,WB 60 q)]) (fun⟨u,q,i⟩=>u.length=(wl a).length+1∧okW u∧q.length=(wl a).length+1-(k+2)∧okW q∧i<=q.length∧wv (u.drop i)<wv v∧a*2^s=wv v*(4294967296^i*wv (q.drop i))+wv u) (fun⟨_,_,i⟩=>i) (u0,List.replicate (((wl a).length+1-(k+2):Nat):Int).toNat 0,(wl a).length+1-(k+2)) ⟨hu0l,oku0,by simp,okW.rep _,by simp,by rw[hwv];exact DF hwu0 hu0l hbp (by omega),by rw[hwu0,XE,rp];simp⟩ (ai ⟨.refl _,.refl _,am (by omega),.refl _,.refl _,.refl _,trivial⟩ ⟨rfl,rfl,trivial⟩) ?_;rintro⟨u,q,i⟩ ⟨hlu,hok,hlq,hqok,hi,hlow,hM⟩;have hiq:=hi;refine Yy ?_;refine ah rfl (fun hb3=>?_) (fun hb3=>?_)
 ·have hb3_:=dT0 hb3;obtain⟨j,rfl⟩:∃ k,i=k+1:=⟨i-1,by omega⟩
  have hc:((j+1:Nat):Int)-1=(j:Int):=by omega
  have dg:Dig v u k j:=⟨hn1,okv,hn2,hok,by omega,hlow⟩
  have hq1:=hok.getD (j+k+2);have hq2:=hok.getD (j+k+1);have hq3:=hok.getD (j+k);have hv1:=okv.getD (k+1);have hv2:=okv.getD k;have hN64:(u.getD (j+k+2) 0*4294967296+u.getD (j+k+1) 0)<18446744073709551616:=by omega
  have hdl:(u.getD (j+k+2) 0*4294967296+u.getD (j+k+1) 0)/v.getD (k+1) 0<=(u.getD (j+k+2) 0*4294967296+u.getD (j+k+1) 0):=XO _ _;have hml:(u.getD (j+k+2) 0*4294967296+u.getD (j+k+1) 0)%v.getD (k+1) 0<v.getD (k+1) 0:=Vc _ (by omega);refine eh (t:=stL [(8,Z (s:Int)),(9,.p (.c (W v))),(10,Z ((k+2:Nat):Int)),(11,.vec 60),(12,.vec 70),(13,Z ((j:Nat):Int))] [(60,WB 60 u),(70,WB 60 q)]) (ai ⟨.refl _,.refl _,.refl _,.refl _,.refl _,am hc,trivial⟩ ⟨rfl,rfl,trivial⟩)<|Yy ?_;refine ae (bB rfl rfl (c:=((j+k+2:Nat):Int)) (by rw[iW0 _ (by omega)];omega)) ?_;refine dE ?_;refine ae (dT hT rfl rfl rfl rfl (by first|omega|(simp;omega)) rfl) ?_;refine ae (aQ hT rfl rfl rfl rfl (eo (by omega))) ?_;refine ae (pD (j:=32) rfl rfl (by first|decide|omega) rfl)<|Zz ?_;refine ae (bB rfl rfl (c:=((j+k+2:Nat):Int)) (by rw[iW0 _ (by omega)];omega)) ?_;refine ae (aY rfl rfl (c:=((j+k+1:Nat):Int)) (by rw[iW0 _ (by omega)];omega)) ?_;refine dE ?_;refine ae (dT hT rfl rfl rfl rfl (by first|omega|(simp;omega)) rfl) ?_;refine ae (aQ hT rfl rfl rfl rfl (eo (by omega))) ?_;refine ae (pE rfl rfl (oX hq1 hq2))<|Yy ?_;refine ae (aY rfl rfl (c:=((k+1:Nat):Int)) (by rw[iW0 _ (by omega)];omega)) ?_;refine cO ?_;refine Zz ?_;refine ae (aQ hT rfl rfl rfl rfl (eo (by omega))) ?_;refine ae (bV rfl rfl (by omega) (c:=(((u.getD (j+k+2) 0*4294967296+u.getD (j+k+1) 0)/v.getD (k+1) 0:Nat):Int)) (by rw[Uz (by omega),<- WA,eo (by omega)]))<|Zz ?_;refine ae (aY rfl rfl (c:=((k+1:Nat):Int)) (by rw[iW0 _ (by omega)];omega)) ?_;refine cO ?_;refine Zz ?_;refine ae (aQ hT rfl rfl rfl rfl (eo (by omega))) ?_;refine ae (cf rfl rfl (by omega) (c:=(((u.getD (j+k+2) 0*4294967296+u.getD (j+k+1) 0)%v.getD (k+1) 0:Nat):Int)) (by rw[UH (by omega),<- Int.natCast_emod]))<|Zz ?_;refine bR (ι:=Nat) (fun g=>stL [(8,Z (s:Int)),(9,.p (.c (W v))),(10,Z ((k+2:Nat):Int)),(11,.vec 60),(12,.vec 70),(13,Z ((j:Nat):Int)),(15,.p (.c (.v (.int .u64 ((g:Nat):Int)))))] [(60,WB 60 u),(70,WB 60 q)]) (fun g=>g<4294967296∧du v u j<=g∧g<=du v u j+1) ?_ ?_
  ·refine aR<|aC (ι:=Nat×Nat) (fun⟨g,r⟩=>stL [(8,Z (s:Int)),(9,.p (.c (W v))),(10,Z ((k+2:Nat):Int)),(11,.vec 60),(12,.vec 70),(13,Z ((j:Nat):Int)),(15,.p (.c (.v (.int .u64 ((g:Nat):Int))))),(16,.p (.c (.v (.int .u64 ((r:Nat):Int)))))] [(60,WB 60 u),(70,WB 60 q)]) (fun⟨g,r⟩=>g*v.getD (k+1) 0+r=(u.getD (j+k+2) 0*4294967296+u.getD (j+k+1) 0)∧r<4294967296∧g<18446744073709551616∧du v u j<=g) (fun⟨g,_⟩=>g) ((u.getD (j+k+2) 0*4294967296+u.getD (j+k+1) 0)/v.getD (k+1) 0,(u.getD (j+k+2) 0*4294967296+u.getD (j+k+1) 0)%v.getD (k+1) 0) ⟨by rw[Va];exact Wv _ _,by omega,by omega,dg.init⟩ (ai ⟨.refl _,.refl _,.refl _,.refl _,.refl _,.refl _,.refl _,.refl _,trivial⟩ ⟨rfl,rfl,trivial⟩) ?_;rintro⟨g,r⟩ ⟨hg,hr,hg64,hdq⟩;refine Yy ?_;refine aU (t:=113) rfl (fun hg4=>?_) (fun hg4=>?_)
   ·have hg4_:=dT0 hg4;have hdec:du v u j<g:=dg.dec hg (Or.inl (by omega));have hstep:(g-1)*v.getD (k+1) 0+(r+v.getD (k+1) 0)=(u.getD (j+k+2) 0*4294967296+u.getD (j+k+1) 0):=by
     rw[<- hg,<- We,Nat.add_right_comm,<- WT,show(g-1).succ=g by omega]
    refine Yy ?_;refine ae (aY rfl rfl (c:=((g-1:Nat):Int)) (by rw[IntWalk.u64_in _ (by omega)];omega))<|Yy ?_;refine ae (aY rfl rfl (c:=((k+1:Nat):Int)) (by rw[iW0 _ (by omega)];omega)) ?_;refine cO ?_;refine Zz ?_;refine ae (aQ hT rfl rfl rfl rfl (eo (by omega))) ?_;refine ae (bB rfl rfl (c:=((r+v.getD (k+1) 0:Nat):Int)) (by rw[IntWalk.u64_in _ (by omega)];omega))<|Yy ?_;refine ah rfl (fun hb5=>?_) (fun hb5=>?_)
    ·have hb5_:=dT0 hb5;have hex:=dg.exit hstep (Or.inr (by omega));refine aS ?_;exact⟨g-1,⟨hex.1,by omega,hex.2⟩,(ai ⟨.refl _,.refl _,.refl _,.refl _,.refl _,.refl _,.refl _,trivial⟩ ⟨rfl,rfl,trivial⟩)⟩
    have hb5_:=dF0 hb5;refine aT ?_;exact⟨(g-1,r+v.getD (k+1) 0),⟨hstep,by omega,by omega,by omega⟩,by show g-1<g;omega,(ai ⟨.refl _,.refl _,.refl _,.refl _,.refl _,.refl _,.refl _,.refl _,trivial⟩ ⟨rfl,rfl,trivial⟩)⟩
   have hg4_:=dF0 hg4;have hgB:g<4294967296:=by omega
   have hp2:=VJ (Wn hgB) (Wn hv2);refine Zz ?_;refine az hg4 (aY rfl rfl (c:=((k:Nat):Int)) (by rw[iW0 _ (by omega)];omega)) ?_;refine az hg4 (by first|exact gq hT rfl rfl rfl rfl rfl rfl (by omega)|exact b8 hT rfl rfl rfl rfl rfl rfl (by omega) (by first|exact nR (by omega)|simp)) ?_;refine az hg4 (aM hT rfl rfl rfl (by first|rfl|exact jP (by omega))) ?_;refine az hg4 (aQ hT rfl rfl rfl rfl (eo (by omega))) ?_;refine az hg4 (bw rfl rfl (c:=((g*v.getD k 0:Nat):Int)) (by rw[<- V5,eo (by omega)])) ?_;refine Zz ?_;refine az hg4 (pD (j:=32) rfl rfl (by first|decide|omega) rfl) ?_;refine az hg4 (aK (rfl:_=AV.vec _)) ?_;refine Zz ?_;refine az hg4 (bB rfl rfl (c:=((j+k+2:Nat):Int)) (by rw[iW0 _ (by omega)];omega)) ?_;refine az hg4 (aY rfl rfl (c:=((j+k:Nat):Int)) (by rw[iW0 _ (by omega)];omega)) ?_;refine az hg4 (by first|exact mQ hT rfl rfl rfl rfl rfl rfl rfl (by first|omega|(simp;omega))|exact kG hT rfl rfl rfl rfl rfl rfl rfl (by first|omega|(simp;omega))) ?_;refine az hg4 (dT hT rfl rfl rfl rfl (by first|omega|(simp;omega)) rfl) ?_;refine az hg4 (aQ hT rfl rfl rfl rfl (eo (by omega))) ?_;refine az hg4 (pE rfl rfl (oX hr hq3)) ?_;refine Zz ?_;refine ah rfl (fun hb6=>?_) (fun hb6=>?_)
   ·have hb6_:=dT0 hb6;have hdec:du v u j<g:=dg.dec hg (Or.inr (Int.ofNat_lt.1 (by assumption)));have hstep:(g-1)*v.getD (k+1) 0+(r+v.getD (k+1) 0)=(u.getD (j+k+2) 0*4294967296+u.getD (j+k+1) 0):=by
     rw[<- hg,<- We,Nat.add_right_comm,<- WT,show(g-1).succ=g by omega]
    refine Yy ?_;refine ae (aY rfl rfl (c:=((g-1:Nat):Int)) (by rw[IntWalk.u64_in _ (by omega)];omega))<|Yy ?_;refine ae (aY rfl rfl (c:=((k+1:Nat):Int)) (by rw[iW0 _ (by omega)];omega)) ?_;refine cO ?_;refine Zz ?_;refine ae (aQ hT rfl rfl rfl rfl (eo (by omega))) ?_;refine ae (bB rfl rfl (c:=((r+v.getD (k+1) 0:Nat):Int)) (by rw[IntWalk.u64_in _ (by omega)];omega))<|Yy ?_;refine ah rfl (fun hb7=>?_) (fun hb7=>?_)
    ·have hb7_:=dT0 hb7;have hex:=dg.exit hstep (Or.inr (by omega));refine aS ?_;exact⟨g-1,⟨hex.1,by omega,hex.2⟩,(ai ⟨.refl _,.refl _,.refl _,.refl _,.refl _,.refl _,.refl _,trivial⟩ ⟨rfl,rfl,trivial⟩)⟩
    have hb7_:=dF0 hb7;refine aT ?_;exact⟨(g-1,r+v.getD (k+1) 0),⟨hstep,by omega,by omega,by omega⟩,by show g-1<g;omega,(ai ⟨.refl _,.refl _,.refl _,.refl _,.refl _,.refl _,.refl _,.refl _,trivial⟩ ⟨rfl,rfl,trivial⟩)⟩
   have hb6_:=dF0 hb6;have hex:=dg.exit hg (Or.inl ⟨by omega,by omega⟩);refine aS ?_;exact⟨g,⟨hex.1,hdq,hex.2⟩,(ai ⟨.refl _,.refl _,.refl _,.refl _,.refl _,.refl _,.refl _,trivial⟩ ⟨rfl,rfl,trivial⟩)⟩
  rintro g ⟨hgB,hg1,hg2⟩;refine Yy ?_;refine aC (ι:=List Nat×Nat×Nat×Nat) (fun⟨o,i,c,e⟩=>stL [(8,Z (s:Int)),(9,.p (.c (W v))),(10,Z ((k+2:Nat):Int)),(11,.vec 60),(12,.vec 70),(13,Z ((j:Nat):Int)),(15,.p (.c (.v (.int .u64 ((g:Nat):Int))))),(17,.p (.c (.v (.int .u64 ((c:Nat):Int))))),(18,.p (.c (w32 (e)))),(147,.p (.c (W v))),(148,Z ((v.length:Nat):Int)),(149,Z ((i:Nat):Int))] [(60,WB 60 o),(70,WB 60 q)]) (fun⟨o,i,c,e⟩=>i<=v.length∧o.length=u.length∧okW o∧c<4294967296∧e<2∧o.drop (j+k+3)=u.drop (j+k+3)∧wv o+4294967296^j*(g*wv (v.take i))=wv u+4294967296^(j+i)*(c+e)) (fun⟨_,i,_,_⟩=>v.length-i) (u,0,0,0) ⟨Uv _,rfl,hok,by omega,by omega,rfl,by simp[wv]⟩ (ai ⟨.refl _,.refl _,.refl _,.refl _,.refl _,.refl _,.refl _,.refl _,.refl _,.refl _,.refl _,.refl _,trivial⟩ ⟨rfl,rfl,trivial⟩) ?_;rintro⟨o,i,c,e⟩ ⟨hi,hlo,ho,hc,he,hd,hS⟩;refine Yy ?_;refine ah rfl (fun hb8=>?_) (fun hb8=>?_)
  ·have hb8_:=dT0 hb8;have hlt:i<v.length:=by omega
   have hvi:=okv.getD i;have hp1:=VJ (Wn hgB) (Wn (okv.getD i));have htB:(g*v.getD i 0+c)/4294967296<4294967296:=(Vp (by omega)).2 (by omega);refine Yy ?_;refine cO ?_;refine Yy ?_;refine ae (aQ hT rfl rfl rfl rfl (eo (by omega))) ?_;refine ae (bw rfl rfl (c:=((g*v.getD i 0:Nat):Int)) (by rw[<- V5,eo (by omega)]))<|Zz ?_;refine ae (bB rfl rfl (c:=((g*v.getD i 0+c:Nat):Int)) (by rw[<- WS,eo (by omega)]))<|Yy ?_;refine ae (eK (j:=32) rfl rfl (by first|decide|omega))<|Yy ?_;refine ae (bB rfl rfl (c:=((j+i:Nat):Int)) (by rw[iW0 _ (by omega)];omega))<|Zz ?_;refine ae (bB rfl rfl (c:=((j+i:Nat):Int)) (by rw[iW0 _ (by omega)];omega)) ?_;refine dE ?_;refine ae (dT hT rfl rfl rfl rfl (by first|omega|(simp;omega)) rfl)<|Zz ?_;refine ae (aQ hT rfl rfl rfl rfl (c:=(((g*v.getD i 0+c)%4294967296:Nat):Int)) (by rw[IntKind.wrap_u32];omega))<|Zz ?_;refine ae (ab (AN _ _ _ (ho.getD _) (Vc _ (by omega)) he))<|Zz ?_;refine dE ?_;refine aZ ag (c8 hT rfl rfl rfl rfl rfl (by first|omega|(simp;omega)) rfl)<|Yy ?_;refine aF rfl rfl ?_;refine Zz ?_;have hr:=Ba (v:=v) (g:=g) (by omega) ho he rfl hS;exact⟨(o.set (j+i) ((o.getD (j+i) 0+8589934592-(g*v.getD i 0+c)%4294967296-e)%4294967296),i+1,(g*v.getD i 0+c)/4294967296,if o.getD (j+i) 0<(g*v.getD i 0+c)%4294967296+e then 1 else 0),⟨by omega,by simpa using hlo,ho.set (Vc _ (by omega)),htB,by split <;> omega,by rw[XF (by omega)];exact hd,hr⟩,by show v.length-(i+1)<v.length-i;omega,(ai ⟨.refl _,.refl _,.refl _,.refl _,.refl _,.refl _,.refl _,.refl _,.refl _,.refl _,.refl _,.refl _,trivial⟩ ⟨rfl,rfl,trivial⟩)⟩
  have hb8_:=dF0 hb8;have hie:i=v.length:=by omega
  subst hie;rw[Vm,hn1]at hS;have hml1:=CW (o:=o) (p:=j+k+2) (c:=c) (e:=e) (A:=4294967296^j*(g*wv v)) (S:=wv u) (by omega) ho hc he (by rw[show j+k+2=j+(k+2) by omega];exact hS);obtain⟨o1,ho1⟩:∃ o1,o1=o.set (j+k+2) ((o.getD (j+k+2) 0+8589934592-c-e)%4294967296):=⟨_,rfl⟩
  have hok1:okW o1:=by rw[ho1];exact ho.set (Vc _ (by omega))
  have hlo1:o1.length=u.length:=by rw[ho1];simpa using hlo
  have hd1:o1.drop (j+k+3)=u.drop (j+k+3):=by rw[ho1,XF (by omega)];exact hd
  rw[<- ho1,show j+k+2+1=j+k+3 by omega]at hml1;refine aS<|bR (ι:=List Nat) (fun u1=>stL [(8,Z (s:Int)),(9,.p (.c (W v))),(10,Z ((k+2:Nat):Int)),(11,.vec 60),(12,.vec 70),(13,Z ((j:Nat):Int)),(15,.p (.c (.v (.int .u64 ((du v u j:Nat):Int)))))] [(60,WB 60 u1),(70,WB 60 q)]) (fun u1=>u1.length=u.length∧okW u1∧wv u1+4294967296^j*(du v u j*wv v)=wv u) ?_ ?_
  ·refine Yy ?_;refine ae (bB rfl rfl (c:=((j+k+2:Nat):Int)) (by rw[iW0 _ (by omega)];omega))<|Zz ?_;refine ae (bB rfl rfl (c:=((j+k+2:Nat):Int)) (by rw[iW0 _ (by omega)];omega)) ?_;refine dE ?_;refine ae (dT hT rfl rfl rfl rfl (by first|omega|(simp;omega)) rfl)<|Zz ?_;refine ae (aQ hT rfl rfl rfl rfl (sG hc))<|Zz ?_;refine ae (ab (AN _ _ _ (ho.getD _) hc he))<|Zz ?_;refine dE ?_;refine aZ ag (c8 hT rfl rfl rfl rfl rfl (by first|omega|(simp;omega)) ho1.symm)<|Yy ?_;refine ah rfl (fun hb9=>?_) (fun hb9=>?_)
   ·have hb9_:=dT0 hb9;have hbo:o.getD (j+k+2) 0<c+e:=by
     rcases Ut (o.getD (j+k+2) 0) (c+e)with h|h
     ·exact h
     rw[G2 (by omega)]at *;omega
    rw[H2 hbo,VK]at hml1;have hgq:=dg.bad hok1 hlo1 hd1 hg2 hml1;have hg0:0<g:=by omega
    refine Yy ?_;refine ae (aY rfl rfl (c:=((g-1:Nat):Int)) (by rw[IntWalk.u64_in _ (by omega)];omega))<|Yy ?_;refine aC (ι:=List Nat×Nat×Nat) (fun⟨o,i,c⟩=>stL [(8,Z (s:Int)),(9,.p (.c (W v))),(10,Z ((k+2:Nat):Int)),(11,.vec 60),(12,.vec 70),(13,Z ((j:Nat):Int)),(15,.p (.c (.v (.int .u64 ((g-1:Nat):Int))))),(22,.p (.c (w32 (c)))),(203,.p (.c (W v))),(204,Z ((v.length:Nat):Int)),(205,Z ((i:Nat):Int))] [(60,WB 60 o),(70,WB 60 q)]) (fun⟨o,i,c⟩=>i<=v.length∧o.length=u.length∧okW o∧c<2∧o.drop (j+k+3)=u.drop (j+k+3)∧wv o+4294967296^(j+i)*c=wv o1+4294967296^j*wv (v.take i)) (fun⟨_,i,_⟩=>v.length-i) (o1,0,0) ⟨Uv _,hlo1,hok1,by omega,hd1,by simp[wv]⟩ (ai ⟨.refl _,.refl _,.refl _,.refl _,.refl _,.refl _,.refl _,.refl _,.refl _,.refl _,.refl _,trivial⟩ ⟨rfl,rfl,trivial⟩) ?_;clear hbo hS hd he hc ho hlo hi ho1 hd1 hok1 hlo1;rintro⟨o,i,c⟩ ⟨hi,hlo,ho,hc,hd,hS2⟩;refine Yy ?_;refine ah rfl (fun hb10=>?_) (fun hb10=>?_)
    ·have hb10_:=dT0 hb10;have hlt:i<v.length:=by omega
     have hvi:=okv.getD i;have hoi:=ho.getD (j+i);have hc2:(o.getD (j+i) 0+v.getD i 0+c)/4294967296<2:=(Vp (by omega)).2 (by omega);refine Yy ?_;refine cO ?_;refine Yy ?_;refine ae (bB rfl rfl (c:=((j+i:Nat):Int)) (by rw[iW0 _ (by omega)];omega))<|Zz ?_;refine ae (bB rfl rfl (c:=((j+i:Nat):Int)) (by rw[iW0 _ (by omega)];omega)) ?_;refine dE ?_;refine ae (dT hT rfl rfl rfl rfl (by first|omega|(simp;omega)) rfl)<|Zz ?_;refine ae (ab (Im _ _ _ (ho.getD _) (okv.getD _) (by omega)))<|Zz ?_;refine dE ?_;refine aZ ag (c8 hT rfl rfl rfl rfl rfl (by first|omega|(simp;omega)) rfl)<|Yy ?_;refine aF rfl rfl ?_;refine Zz ?_;have hr:=BG (v:=v) (i:=i) (by omega) rfl hS2;exact⟨(o.set (j+i) ((o.getD (j+i) 0+v.getD i 0+c)%4294967296),i+1,(o.getD (j+i) 0+v.getD i 0+c)/4294967296),⟨by omega,by simpa using hlo,ho.set (Vc _ (by omega)),hc2,by rw[List.drop_set_of_lt (by omega)];exact hd,hr⟩,by show v.length-(i+1)<v.length-i;omega,(ai ⟨.refl _,.refl _,.refl _,.refl _,.refl _,.refl _,.refl _,.refl _,.refl _,.refl _,.refl _,trivial⟩ ⟨rfl,rfl,trivial⟩)⟩
    have hb10_:=dF0 hb10;have hie:i=v.length:=by omega
    subst hie;rw[Vm,hn1]at hS2;have hbk:=dg.back (o:=o.set (j+k+2) ((o.getD (j+k+2) 0+c)%4294967296)) (o1:=o) (c:=c) (ho.set (Vc _ (by omega))) (by simpa using hlo) (by rw[List.drop_set_of_lt (by omega)];exact hd) hgq hml1 (by rw[show j+k+2=j+(k+2) by omega];exact hS2) ho hc rfl hlo;refine Yy ?_;refine ae (bB rfl rfl (c:=((j+k+2:Nat):Int)) (by rw[iW0 _ (by omega)];omega)) ?_;refine dE ?_;refine ae (dT hT rfl rfl rfl rfl (by first|omega|(simp;omega)) rfl)<|Zz ?_;refine ae (bB rfl rfl (c:=(((o.getD (j+k+2) 0+c)%4294967296:Nat):Int)) (by rw[IntKind.wrap_u32];omega)) ?_;refine dE ?_;refine aZ ag (c8 hT rfl rfl rfl rfl rfl (by first|omega|(simp;omega)) rfl)<|Zz ?_;exact⟨_,⟨by simpa using hlo,ho.set (Vc _ (by omega)),hbk⟩,(ai ⟨.refl _,.refl _,.refl _,.refl _,.refl _,.refl _,am (by omega),trivial⟩ ⟨rfl,rfl,trivial⟩)⟩
   have hb9_:=dF0 hb9;have hbo:¬ o.getD (j+k+2) 0<c+e:=by
    intro h;rw[H2 h]at *;omega
   rw[G2 hbo,Ws,Wh]at hml1;have hgq:=dg.good hg1 hml1;refine aT ?_;exact⟨o1,⟨hlo1,hok1,hgq▸hml1⟩,(ai ⟨.refl _,.refl _,.refl _,.refl _,.refl _,.refl _,am (by omega),trivial⟩ ⟨rfl,rfl,trivial⟩)⟩
  rintro u1 ⟨hl1,hok1,hfin⟩;refine Yy ?_;refine ae (aQ hT rfl rfl rfl rfl (sG dg.q_lt)) ?_;refine dE ?_;refine aZ ag (c8 hT rfl rfl rfl rfl rfl (by first|omega|(simp;omega)) rfl)<|Yy ?_;refine ae (aY rfl rfl (by first|exact iW0 _ (by omega)|rfl))<|Zz ?_;have hdn:=dg.done hok1 hl1 hfin;exact⟨(u1,q.set j (du v u j),j),⟨by omega,hok1,by simpa using hlq,hqok.set dg.q_lt,by simp;omega,hdn,DG (by omega) hM hfin⟩,by show j<j+1;omega,(ai ⟨.refl _,.refl _,.refl _,.refl _,.refl _,.refl _,trivial⟩ ⟨rfl,rfl,trivial⟩)⟩
 have hb3_:=dF0 hb3;have hie:i=0:=by omega
 subst hie;rw[XR]at hlow hM;rw[Nat.pow_zero,Xm]at hM;have hE:a/b=wv q∧a%b=wv u/2^s:=Ls (m:=a) (b:=b) (s:=s) (q:=wv q) (r:=wv u) (hwv▸hM) (hwv▸hlow);have hlt2:wv u<4294967296^(k+2):=Nat.lt_trans hlow (by have:=kg okv;rwa [hn1]at this);have htk:wv (u.take (k+2))=wv u:=by
  have e:=fN u (k+2) (by omega);rcases UI (wv (u.drop (k+2)))with h|h
  ·rw[h,Ws]at e;omega
  have:=Wo (4294967296^(k+2)) h;omega
 have hshl:(wl (wv (u.take (k+2)))).length<=1099511627776:=by
  have:=jf (htk.symm▸hlt2:wv (u.take (k+2))<4294967296^(k+2));omega
 refine aS<|eE (t:=12) rfl rfl ?_;refine eE (t:=11) rfl rfl ?_;refine Yy ?_;refine ae (ab (fk _ hqok))<|Zz ?_;refine ae (mf hT rfl rfl rfl rfl rfl rfl (by omega)) ?_;refine ae (ab (fk _ (hok.take _)))<|Zz ?_;refine ae (ab (Ki (wl (wv (u.take (k+2)))) s (bI _) hshl hs32))<|Yy ?_;exact ao (by rw[bE,htk,hE.1,hE.2])
end
section
open Go Go.AM
attribute [local irreducible] RK Eff AWp
theorem FP(m:Nat) :
  ak Tryz.prog 197 [.p (.c (nt m))] (Z (aV m)):=by
 refine aq Tryz.func197 rfl rfl rfl rfl ?_;refine nh (t:=0) rfl rfl (fun hlen=>?_);have hb32:∀ x:Nat,x<4294967296->aV x<=32:=fun x h=>jw (k:=32) h
 refine Yy ?_;refine ah rfl (fun hb1=>?_) (fun hb1=>?_)
 ·have hb1_:=bT hb1;refine aE hP<|Zz ?_;refine bC<|E1 rfl rfl ?_;have h0:wl m=[]:=by
   rcases h:wl m with _|⟨x,r⟩
   ·rfl
   rw[h]at hb1_;simp at hb1_;omega
  have:m=0:=by rw[<- bE m,h0];rfl
  exact am (by rw[this];rfl)
 have hb1_:=bF hb1;refine Yy ?_;refine ae (aY rfl rfl (by first|exact iW0 _ (by omega)|rfl)) ?_;refine ae (bw rfl rfl (by first|exact iW0 _ (by omega)|rfl))<|Zz ?_;refine ae (aY rfl rfl (by first|exact iW0 _ (by omega)|rfl)) ?_;refine cO ?_;refine Zz ?_;refine ae (ab (H3 _ ((bI m).getD _))) ?_;refine ae (bB rfl rfl (iW0 _ (by have:=hb32 _ ((bI m).getD (((wl m).length:Int)-1).toNat);omega)))<|Zz ?_;refine bC<|E1 rfl rfl ?_;obtain⟨k,hk⟩:∃ k,(wl m).length=k+1:=⟨(wl m).length-1,by omega⟩
 have hkk:(((wl m).length:Int)-1).toNat=k:=by omega
 exact am (by rw[hkk,GY hk];omega)
end
section
open Go Go.AM
attribute [local irreducible] RK Eff AWp
theorem kA(neg:Bool)(ws:List Nat)(h:okW ws) :
  ak Tryz.prog 47 [B neg,.p (.c (W ws))] (I (sg neg (wv ws))):=by
 refine aq Tryz.func47 rfl rfl rfl rfl<|Yy ?_;refine ae (ab (fk _ h))<|Yy ?_;refine ah rfl (fun hb1=>?_) (fun hb1=>?_)
 ·have hb1_:=bT hb1;refine aE hP<|Zz ?_;refine bC<|E2 hT rfl rfl rfl rfl rfl rfl rfl ?_;have h0:wv ws=0:=sF (by omega);rw[h0,y5];exact .refl _
 have hb1_:=bF hb1;refine aT<|aE hP<|Zz ?_;refine bC<|E2 hT rfl rfl rfl rfl rfl rfl rfl ?_;have h0:0<wv ws:=by
  rcases UI (wv ws)with e|e
  ·rw[e]at hb1_;exact absurd rfl hb1_
  exact e
 exact ao (by show _=AV.p (.a [zn _,zm _]);rw[Hb h0,Hc])
theorem jt(x:Int) :
  ak Tryz.prog 49 [I x] (I x.natAbs):=by
 refine aq Tryz.func49 rfl rfl rfl rfl<|Yy ?_;refine ae (ab (kA _ (wl x.natAbs) (bI _)))<|Yy ?_;exact Sub.I (P7 x)
theorem gS(x:Int) :
  ak Tryz.prog 75 [I x] (I (-x)):=by
 refine aq Tryz.func75 rfl rfl rfl rfl<|Yy ?_;refine ae (ab (kA _ (wl x.natAbs) (bI _)))<|Yy ?_;exact Sub.I (Oa x)
theorem dQ(x y:Int)(hx:L 45 x)(hy:L 45 y) :
  ak Tryz.prog 48 [I x,I y] (I (x+y)):=by
 refine aq Tryz.func48 rfl rfl rfl rfl<|Yy ?_;refine ae (N2 hT rfl rfl rfl rfl)<|Zz ?_;refine ah rfl (fun hb1=>?_) (fun hb1=>?_)
 ·refine Yy ?_;refine ae (ab (Kl (wl x.natAbs) (wl y.natAbs) (bI _) (bI _) (sz hx) (sz hy))) ?_;refine ae (ab (kA _ _ (bI _)))<|Yy ?_;exact Sub.I (by rw[bE];exact G7 (by assumption))
 refine Yy ?_;refine ae (ab (s7 x.natAbs y.natAbs))<|Zz ?_;refine ah rfl (fun hb2=>?_) (fun hb2=>?_)
 ·have hb2_:=dT0 hb2;have hc:=Pv (m:=x.natAbs) (n:=y.natAbs) (by assumption);refine Yy ?_;refine ae (ab (zy (wl y.natAbs) (wl x.natAbs) (bI _) (bI _) (sz hy) (kh (by omega)) (by rw[bE,bE];omega))) ?_;refine ae (ab (kA _ _ (bI _)))<|Yy ?_;exact Sub.I (by rw[bE];exact P5 (by assumption) hc)
 have hb2_:=dF0 hb2;have hc:=Pw (m:=x.natAbs) (n:=y.natAbs) (by assumption);refine Yy ?_;refine ae (ab (zy (wl x.natAbs) (wl y.natAbs) (bI _) (bI _) (sz hx) (kh hc) (by rw[bE,bE];exact hc))) ?_;refine ae (ab (kA _ _ (bI _)))<|Yy ?_;exact Sub.I (by rw[bE];exact P6 (by assumption) hc)
theorem fC(x y:Int)(hx:L 45 x)(hy:L 45 y) :
  ak Tryz.prog 50 [I x,I y] (I (x-y)):=by
 refine aq Tryz.func50 rfl rfl rfl rfl<|Yy ?_;refine ae (ab (gS y)) ?_;refine ae (ab (dQ x (-y) hx hy.neg))<|Yy ?_;exact Sub.I (by omega)
theorem bS(x y:Int)(hx:L 45 x)(hy:L 45 y) :
  ak Tryz.prog 100 [I x,I y] (I (x*y)):=by
 refine aq Tryz.func100 rfl rfl rfl rfl<|Yy ?_;refine ae (ox hT rfl rfl rfl rfl)<|Zz ?_;refine ae (ab (Kj (wl x.natAbs) (wl y.natAbs) (bI _) (bI _) (sz hx) (sz hy))) ?_;refine ae (ab (kA _ _ (bI _)))<|Yy ?_;exact Sub.I (by rw[bE];exact Og x y)
end
section
open Go Go.AM
attribute [local irreducible] RK Eff AWp
theorem bu(x:Int) :
  ak Tryz.prog 12 [I x] (Z (sgn x)):=by
 refine aq Tryz.func12 rfl rfl rfl rfl<|Yy ?_;refine ah rfl (fun hb1=>?_) (fun hb1=>?_)
 ·have hb1_:=bT hb1;refine aE hP<|Zz ?_;refine bC<|E1 rfl rfl ?_;have h0:=wl_len_zero.1 hb1_;exact am (by rw[h0];rfl)
 have hb1_:=bF hb1;refine Yy ?_;refine ah rfl (fun hb2=>?_) (fun hb2=>?_)
 ·refine Yy ?_;exact am (pp hb2).symm
 refine aT<|aE hP<|Zz ?_;refine bC<|E1 rfl rfl ?_;have h0:x≠0:=fun e=>hb1_ (wl_len_zero.2 e)
 exact am (JD h0 hb2).symm
theorem cL(x y:Int) :
  ak Tryz.prog 16 [I x,I y] (Z (aX x y)):=by
 refine aq Tryz.func16 rfl rfl rfl rfl<|Yy ?_;refine ae (ox hT rfl rfl rfl rfl)<|Zz ?_;refine ah rfl (fun hb1=>?_) (fun hb1=>?_)
 ·refine Yy ?_;refine ae (ab (bu _))<|Zz ?_;refine ae (ab (bu _)) ?_;refine ae (ab (qz _ _))<|Yy ?_;exact am (GQ hb1)
 refine Yy ?_;refine ae (ab (s7 x.natAbs y.natAbs))<|Zz ?_;refine ae (ab (bu _))<|Zz ?_;refine ae (ab (NU _ _)) ?_;refine ae (bw rfl rfl (GP hb1))<|Yy ?_;exact .refl _
theorem w5(x:Int) :
  ak Tryz.prog 155 [I x] (Z (aV x.natAbs)):=by
 refine aq Tryz.func155 rfl rfl rfl rfl<|Yy ?_;refine ae (ab (FP x.natAbs))<|Yy ?_;exact .refl _
theorem kB(x:Int)(hx:L 45 x) :
  ak Tryz.prog 73 [I x] (B true):=by
 have hlen:=sz hx;refine aq Tryz.func73 rfl rfl rfl rfl<|Yy ?_;refine ah rfl (fun hb1=>?_) (fun hb1=>?_)
 ·have hb1_:=bT hb1;refine aE hP<|Zz ?_;refine bC<|E1 rfl rfl ?_;have h0:=wl_len_zero.1 hb1_;exact ao (by rw[h0];rfl)
 have hb1_:=bF hb1;refine Yy ?_;refine ae (aY rfl rfl (by first|exact iW0 _ (by omega)|rfl)) ?_;refine cO ?_;refine Zz ?_;refine bC<|E1 rfl rfl ?_;have h1:(wl x.natAbs).length≠0:=fun e=>hb1_ (by rw[e];rfl)
 have h2:(((wl x.natAbs).length:Int)-1).toNat=(wl x.natAbs).length-1:=by omega
 rw[h2];have h3:=vw (k:=x.natAbs) (n:=(wl x.natAbs).length-1) (by omega);exact ao (by rw[show((((wl x.natAbs).getD ((wl x.natAbs).length-1) 0:Nat):Int) != 0)=true from bne_iff_ne.2 (by omega)])
theorem bL(z:Int)(hz:aH z) :
  ak Tryz.prog 21 [.p (.c (.v (.int .i64 z)))] (I z):=by
 have hz1:z.natAbs<18446744073709551616:=by unfold aH at hz;omega
 refine aq Tryz.func21 rfl rfl rfl rfl<|Yy ?_;refine ae (fA rfl rfl)<|Zz ?_;refine ae (aQ hT rfl rfl rfl rfl (c:=((z.natAbs:Nat):Int)) (IH hz))<|Yy ?_;refine ae (aQ hT rfl rfl rfl rfl (mD _))<|Zz ?_;refine ae (eK (j:=32) rfl rfl (by decide)) ?_;refine ae (aQ hT rfl rfl rfl rfl (c:=((z.natAbs/2^32:Nat):Int)) (by simp only[IntKind.wrap_u32];omega))<|Zz ?_;refine ae (ab (kA _ [z.natAbs%4294967296,z.natAbs/2^32] (sX (by omega))))<|Yy ?_;exact Sub.I (by rw[vn];exact A6)
theorem tc(neg:Bool)(m:Nat):ak Tryz.prog 47 [B neg,.p (.c (nt m))] (I (sg neg m)):=by
 have h:=kA neg (wl m) (bI m)
 rwa [bE]at h
theorem bG(x y:Int)(hx:L 44 x)(hy:L 44 y)(h0:y≠0) :
  ak Tryz.prog 11 [I x,I y] (.t [PI (x/y),PI (x%y),PE 0]):=by
 have hq:L 44 (sg (!(decide (x<0)==decide (y<0))) (x.natAbs/y.natAbs)):=L.of_le hx (by rw[Cd];exact XO _ _);have hr:L 44 (sg (decide (x<0)) (x.natAbs%y.natAbs)):=L.of_le hx (by rw[Cd];exact Nat.mod_le _ _);refine aq Tryz.func11 rfl rfl rfl rfl<|Yy ?_;refine ah rfl (fun hb1=>?_) (fun hb1=>?_)
 ·have hb1_:=bT hb1;exact absurd (wl_len_zero.1 hb1_) h0
 have hb1_:=bF hb1;refine Yy ?_;refine ae (ab (Kk x.natAbs y.natAbs (sz (hx.mono (by decide))) (by omega)))<|Yy ?_;refine ae (ox hT rfl rfl rfl rfl)<|Zz ?_;refine ae (ab (tc _ _))<|Zz ?_;refine ae (ab (tc _ _))<|Yy ?_;refine ah rfl (fun hb2=>?_) (fun hb2=>?_)
 ·have e1:=(sn h0 (dT0 hb2)).1;have e2:=(sn h0 (dT0 hb2)).2;refine Yy ?_;refine ae (ab (jt _)) ?_;refine ae (ab (dQ _ _ (hr.mono (by decide)) (hy.abs.mono (by decide))))<|Yy ?_;refine ae (ab (bu _)) ?_;refine ae (ab (bL (sgn y) (by unfold sgn;split <;> (try split) <;> decide))) ?_;refine ae (ab (fC _ _ (hq.mono (by decide)) ((SG y).mono (by decide))))<|Yy ?_;refine dz rfl (.inr rfl) (aA hT rfl rfl rfl rfl (cs:=[_,_]) rfl rfl) (aA hT rfl rfl rfl rfl (cs:=[_,_]) rfl rfl) (a8 rfl) ?_ bd;exact ao (by rw[e1,e2])
 have e1:=(sk h0 (dF0 hb2)).1;have e2:=(sk h0 (dF0 hb2)).2;refine Yy ?_;refine dz rfl (.inr rfl) (aA hT rfl rfl rfl rfl (cs:=[_,_]) rfl rfl) (aA hT rfl rfl rfl rfl (cs:=[_,_]) rfl rfl) (a8 rfl) ?_ bd;exact ao (by rw[e1,e2])
theorem td(x y:Int)(hx:L 44 x)(hy:L 44 y)(h0:y≠0) :
  ak Tryz.prog 131 [I x,I y] (I (x%y)):=by
 refine aq Tryz.func131 rfl rfl rfl rfl<|Yy ?_;refine ae (ab (bG x y hx hy h0))<|Yy ?_;exact .refl _
theorem pS(x y:Int)(hx:L 44 x)(hy:L 44 y) :
  ak Tryz.prog 71 [I x,I y] (I (Int.gcd x y)):=by
 refine aq Tryz.func71 rfl rfl rfl rfl<|Yy ?_;refine aC (ι:=Int×Int) (fun p=>stL [(2,.loc 2 0),(3,.loc 3 0),(4,.loc 4 0)] [(2,⟨false,1,29,[zn (p.1),zm (p.1)]⟩),(3,⟨false,1,29,[zn (p.2),zm (p.2)]⟩),(4,⟨false,1,29,[zn (0),zm (0)]⟩)]) (fun p=>L 44 p.1∧L 44 p.2∧Int.gcd p.1 p.2=Int.gcd x y) (fun p=>p.2.natAbs) (x,y) ⟨hx,hy,rfl⟩ (ai ⟨.refl _,.refl _,.refl _,trivial⟩ ⟨rfl,rfl,rfl,trivial⟩) ?_;rintro⟨a,b⟩ ⟨ha,hb,hg⟩;refine Yy ?_;refine ah rfl (fun hb1=>?_) (fun hb1=>?_)
 ·have hb1_:=dT0 hb1;have h0:b≠0:=fun e=>by
   have e2:0<((wl b.natAbs).length:Int):=hb1_;rw[e]at e2;exact absurd e2 (by decide)
  refine Yy ?_;refine ae (ab (td a b ha hb h0))<|Zz ?_;refine⟨(b,a%b),⟨hb,(ha.emod hb).mono (by decide),?_⟩,?_,ai ⟨.refl _,.refl _,.refl _,trivial⟩ ⟨rfl,rfl,rfl,trivial⟩⟩
  ·rw[<- hg];exact lK a b
  have h1:=UF a h0;have h2:=X2 a h0;show(a%b).natAbs<b.natAbs;omega
 have hb1_:=dF0 hb1;refine Yy ?_;refine ae (ab (jt _))<|Zz ?_;refine bC<|E2 hT rfl rfl rfl rfl rfl rfl rfl ?_;have h0:b=0:=by
  have e2:¬ 0<((wl b.natAbs).length:Int):=hb1_;have:((wl b.natAbs).length:Int)=0:=by omega
  exact wl_len_zero.1 this
 exact Sub.I (by rw[<- hg,h0];simp)
theorem Bm(x:Int)(hx:L 44 x) :
  ak Tryz.prog 218 [I x,Z 1] (I x):=by
 refine aq Tryz.func218 rfl rfl rfl rfl<|Yy ?_;refine ae (ab (bL 1 (by decide)))<|Zz ?_;refine bi<|aR<|bX 2<|Yy ?_;refine ae (cf rfl rfl (by first|decide|omega) (by first|exact UH (by omega)|rfl))<|Yy ?_;refine ae (ab (bS 1 x (L.mono (n:=0) (by decide) (by decide)) (hx.mono (by decide))))<|Yy ?_;refine ae (bV rfl rfl (by first|decide|omega) (by first|exact iW0 _ (by omega)|rfl))<|Yy ?_;exact Sub.I (by rw[WP])
end
section
open Go Go.AM
attribute [local irreducible] RK Eff AWp
theorem Di(x:Int)(hx:L 40 x) :
  ak Tryz.prog 188 [I x,Z 2] (.t [PI (rootV x),PE (lW x)]):=by
 have hbl:=PR hx;refine aq Tryz.func188 rfl rfl rfl rfl<|Yy ?_;refine ae (ab (w5 x))<|Yy ?_;refine aU (t:=16) rfl (fun hg1=>?_) (fun hg1=>?_)
 ·have hx0:x<0:=dT0 hg1;refine Yy ?_;refine b9 rfl (.inr rfl) (aA hT rfl rfl rfl rfl (cs:=[_,_]) rfl rfl) (a8 rfl) ?_ bd;exact ao (by rw[(lv hx0).1,(lv hx0).2])
 have hx0:¬ x<0:=dF0 hg1;refine Zz ?_;refine az hg1 (ed rfl rfl) ?_;refine Yy ?_;refine aU (t:=24) rfl (fun hg2=>?_) (fun hg2=>?_)
 ·have hg2_:=bT hg2;refine Yy ?_;refine b9 rfl (.inr rfl) (aA hT rfl rfl rfl rfl (cs:=[_,_]) rfl rfl) (a8 rfl) ?_ bd;have e:=Cf hg2_;exact ao (by rw[e];rfl)
 have hg2_:=bF hg2;refine Yy ?_;refine ah rfl (fun hb3=>?_) (fun hb3=>?_)
 ·have hb3_:=dT0 hb3;refine Yy ?_;refine ae (ab (bL _ (by decide)))<|Yy ?_;refine b9 rfl (.inr rfl) (aA hT rfl rfl rfl rfl (cs:=[_,_]) rfl rfl) (a8 rfl) ?_ bd;exact ao (by rw[AU hx0 hg2_ hb3_,lw hx0])
 have hb3_:=dF0 hb3;have hx1:0<x:=by
  rcases Int.lt_trichotomy x 0 with e|e|e
  ·exact absurd e hx0
  ·rw[e]at hg2_;exact absurd rfl hg2_
  exact e
 refine Yy ?_;refine aF rfl rfl ?_;refine ae (aY rfl rfl (by first|exact iW0 _ (by omega)|rfl))<|Zz ?_;refine ae (bV rfl rfl (by decide) (SZ _ hbl)) ?_;refine ae (ab (sZ [1] ((aV x.natAbs+1)/2) J7 (by decide) (by omega))) ?_;refine ae (ab (tc _ _))<|Yy ?_;refine aC (ι:=Int) (fun s=>stL [(1,Z 2),(2,.loc 2 0),(4,.loc 4 0),(7,.loc 7 0)] [(2,⟨false,1,29,[zn (x),zm (x)]⟩),(4,⟨false,1,29,[zn (0),zm (0)]⟩),(7,⟨false,1,29,[zn (s),zm (s)]⟩)]) (fun s=>0<s∧rootV x<=s∧s<=2*x) (fun s=>s.toNat) (2^((aV x.natAbs+1)/2):Nat) ?_ (ai ⟨.refl _,.refl _,.refl _,.refl _,trivial⟩ ⟨rfl,rfl,?_,trivial⟩) ?_
 ·exact AT hx1
 ·exact Ur (fun z=>some (⟨false,1,29,[zn z,zm z]⟩:Blk)) (NB _)
 intro s hs;have ix:LB x 40:=⟨hx⟩
 have is:LB s 41:=⟨L.of_le (b:=2*x) (lz (by rfl)) (by omega)⟩
 refine Yy ?_;refine ae (aY rfl rfl (by first|exact iW0 _ (by omega)|rfl)) ?_;refine ae (ab (Bm s lz)) ?_;refine ae (ab (bG x s lz lz (by omega)))<|Yy ?_;refine ae (aY rfl rfl (by first|exact iW0 _ (by omega)|rfl)) ?_;refine ae (ab (bL _ (by decide))) ?_;refine ae (ab (bS _ _ lz lz))<|Zz ?_;refine ae (ab (dQ _ _ lz lz))<|Zz ?_;refine ae (ab (bL _ (by decide))) ?_;refine ae (ab (bG _ 2 lz lz (by decide)))<|Yy ?_;refine ae (ab (cL _ _))<|Zz ?_;refine ah rfl (fun hb4=>?_) (fun hb4=>?_)
 ·have hb4_:=dT0 hb4;have hge:=yw hb4_;refine Yy ?_;refine b9 rfl (.inr rfl) (aA hT rfl rfl rfl rfl (cs:=[_,_]) rfl rfl) (a8 rfl) ?_ bd;have e:=Cg hx1 hs.1 hs.2.1 hge;exact ao (by rw[e,lw hx0])
 have hb4_:=dF0 hb4;have hge:=uY hb4_;refine aT<|bp hP<|Zz ?_;refine⟨(s*1+x/s)/2,⟨(og hx1 hs.1).2,(og hx1 hs.1).1,X6 (WV hge) hs.2.2⟩,?_,ai ⟨.refl _,.refl _,.refl _,.refl _,trivial⟩ ⟨rfl,rfl,rfl,trivial⟩⟩;have h3:=(og hx1 hs.1).2;show((s*1+x/s)/2).toNat<s.toNat;omega
theorem Ge(x:Int)(hx:L 40 x) :
  ak Tryz.prog 132 [I x] (.t [PI (rootV x),PI (if x<0 then 0 else x-rootV x*rootV x),PE (lW x)]):=by
 have ix:LB x 40:=⟨hx⟩
 refine aq Tryz.func132 rfl rfl rfl rfl<|Yy ?_;refine ae (ab (Di x hx))<|Yy ?_;refine ah rfl (fun hb1=>?_) (fun hb1=>?_)
 ·have hb1_:=cg hb1;refine Yy ?_;refine dz rfl (.inr rfl) (aA hT rfl rfl rfl rfl (cs:=[_,_]) rfl rfl) (aA hT rfl rfl rfl rfl (cs:=[_,_]) rfl rfl) (a8 rfl) ?_ bd;have h0:x<0:=by
   rcases UY x 0 with h|h
   ·exact h
   exact absurd (lw (by omega)) hb1_
  exact ao (by rw[(lv h0).1,H2 h0])
 have hb1_:=ci hb1;refine Yy ?_;refine ae (ab (bS _ _ lz lz)) ?_;refine ae (ab (fC _ _ lz lz))<|Yy ?_;refine dz rfl (.inr rfl) (aA hT rfl rfl rfl rfl (cs:=[_,_]) rfl rfl) (aA hT rfl rfl rfl rfl (cs:=[_,_]) rfl rfl) (a8 rfl) ?_ bd;have h0:¬ x<0:=fun h=>by rw[(lv h).2]at hb1_;cases hb1_
 exact ao (by rw[G2 h0,lw h0])
end
section
open Go Go.AM
attribute [local irreducible] RK Eff AWp
theorem eM(z:Int)(hz:aH z) :
  ak Tryz.prog 72 [.p (.c (.v (.int .i64 z)))] (I z):=by
 refine aq Tryz.func72 rfl rfl rfl rfl<|Yy ?_;refine ae (ab (bL z hz))<|Yy ?_;exact .refl _
theorem cF(x y:Int)(hx:L 40 x)(hy:L 40 y) :
  ak Tryz.prog 118 [.p (.c (.sl 2 [zn x,zm x,zn y,zm y]))] (I (x*y)):=by
 have ix:LB x 40:=⟨hx⟩
 have iy:LB y 40:=⟨hy⟩
 refine aq Tryz.func118 rfl rfl rfl rfl<|Yy ?_;refine ae (ab (eM _ (by first|assumption|decide)))<|Zz ?_;refine bi<|aE hP<|Zz ?_;refine aR<|bX 3<|Yy ?_;refine cO ?_;refine ae (au hT rfl rfl rfl (cs:=[_,_]) rfl rfl)<|Yy ?_;refine ae (ab (bS _ _ lz lz))<|Yy ?_;refine aF rfl rfl ?_;refine Yy ?_;refine cO ?_;refine ae (au hT rfl rfl rfl (cs:=[_,_]) rfl rfl)<|Yy ?_;refine ae (ab (bS _ _ lz lz))<|Yy ?_;refine aF rfl rfl ?_;refine Yy ?_;exact Sub.I (by rw[WP])
theorem gP(x y z:Int)(hx:L 40 x)(hy:L 40 y)(hz:L 40 z) :
  ak Tryz.prog 118 [.p (.c (.sl 3 [zn x,zm x,zn y,zm y,zn z,zm z]))] (I (x*y*z)):=by
 have ix:LB x 40:=⟨hx⟩
 have iy:LB y 40:=⟨hy⟩
 have iz:LB z 40:=⟨hz⟩
 refine aq Tryz.func118 rfl rfl rfl rfl<|Yy ?_;refine ae (ab (eM _ (by first|assumption|decide)))<|Zz ?_;refine bi<|aE hP<|Zz ?_;refine aR<|bX 4<|Yy ?_;refine cO ?_;refine ae (au hT rfl rfl rfl (cs:=[_,_]) rfl rfl)<|Yy ?_;refine ae (ab (bS _ _ lz lz))<|Yy ?_;refine aF rfl rfl ?_;refine Yy ?_;refine cO ?_;refine ae (au hT rfl rfl rfl (cs:=[_,_]) rfl rfl)<|Yy ?_;refine ae (ab (bS _ _ lz lz))<|Yy ?_;refine aF rfl rfl ?_;refine Yy ?_;refine cO ?_;refine ae (au hT rfl rfl rfl (cs:=[_,_]) rfl rfl)<|Yy ?_;refine ae (ab (bS _ _ lz lz))<|Yy ?_;refine aF rfl rfl ?_;refine Yy ?_;exact Sub.I (by rw[WP])
theorem rG(x:Int)(hx:L 40 x) :
  ak Tryz.prog 74 [I x] (B (iC x)):=by
 have ix:LB x 40:=⟨hx⟩
 refine aq Tryz.func74 rfl rfl rfl rfl<|Yy ?_;refine ae (ab (Ge _ lz))<|Yy ?_;refine aU (t:=14) rfl (fun hg1=>?_) (fun hg1=>?_)
 ·have hg1_:=bT hg1;refine az hg1 (aN hT rfl rfl rfl rfl (cs:=[_,_]) rfl rfl) ?_;refine az hg1 (ab (bu _)) ?_;refine Yy ?_;exact bn (Gb hg1)
 have hg1_:=bF hg1;refine Yy ?_;exact bn (KR hg1)
theorem ga(a b c:Int)(ha:L 36 a)(hb:L 36 b)(hc:L 36 c) :
  ak Tryz.prog 58 [FA a b c] (I (dsc a b c)):=by
 have ia:LB a 36:=⟨ha⟩
 have ib:LB b 36:=⟨hb⟩
 have ic:LB c 36:=⟨hc⟩
 refine aq Tryz.func58 rfl rfl rfl rfl<|Yy ?_;refine ae (ab (cF _ _ lz lz)) ?_;refine ae (ab (eM _ (by first|assumption|decide)))<|Zz ?_;refine ae (ab (gP _ _ _ lz lz lz)) ?_;refine ae (ab (fC _ _ lz lz))<|Yy ?_;exact .refl _
theorem mO(a b c:Int)(ha:L 34 a)(hb:L 34 b)(hc:L 34 c) :
  ak Tryz.prog 80 [FA a b c] (Z (ck a b c)):=by
 have ia:LB a 34:=⟨ha⟩
 have ib:LB b 34:=⟨hb⟩
 have ic:LB c 34:=⟨hc⟩
 have cDs:=ga a b c lz lz lz;have ids:LB (dsc a b c) 40:=⟨lz⟩
 generalize hδ:dsc a b c=δ at cDs ids;refine aq Tryz.func80 rfl rfl rfl rfl<|Yy ?_;refine ae (fj hT rfl rfl rfl (es:=[_,_,_,_,_,_]) rfl)<|Zz ?_;refine aR<|bX 4<|Yy ?_;refine ae (kJ hT rfl rfl rfl rfl rfl rfl (by decide) (es:=[_,_]) rfl rfl)<|Yy ?_;refine ae (ab (kB _ lz))<|Yy ?_;refine aF rfl rfl ?_;refine Yy ?_;refine ae (kJ hT rfl rfl rfl rfl rfl rfl (by decide) (es:=[_,_]) rfl rfl)<|Yy ?_;refine ae (ab (kB _ lz))<|Yy ?_;refine aF rfl rfl ?_;refine Yy ?_;refine ae (kJ hT rfl rfl rfl rfl rfl rfl (by decide) (es:=[_,_]) rfl rfl)<|Yy ?_;refine ae (ab (kB _ lz))<|Yy ?_;refine aF rfl rfl ?_;refine Zz ?_;refine aE hP<|Zz ?_;refine bi<|aJ rfl (by decide) ?_;refine aS<|eh (t:=stL [(1,.loc 1 0)] [(1,⟨false,1,52,FL a b c⟩)]) (ai ⟨.refl _,trivial⟩ ⟨rfl,trivial⟩)<|Yy ?_;refine ae (ab cDs)<|Yy ?_;refine ae (ab (rG _ lz))<|Zz ?_;refine ah rfl (fun hb1=>?_) (fun hb1=>?_)
 ·refine Yy ?_;exact am (Sp (by rw[hδ];exact hb1))
 refine Yy ?_;refine ae (ab (bu _))<|Zz ?_;refine aU (t:=29) rfl (fun hg2=>?_) (fun hg2=>?_)
 ·have hg2_:=dT0 hg2;refine Zz ?_;refine az hg2 (aN hT rfl rfl rfl rfl (cs:=[_,_]) rfl rfl) ?_;refine az hg2 (ab (bu _)) ?_;refine az hg2 (kx rfl rfl) ?_;refine Zz ?_;refine ah rfl (fun hb3=>?_) (fun hb3=>?_)
  ·have hb3_:=dT0 hb3;refine Yy ?_;exact am (PG (by rw[hδ];exact hb1) (by rw[hδ];exact hg2_) hb3_)
  have hb3_:=dF0 hb3;refine Yy ?_;exact am (Sq (by rw[hδ];exact hb1) (by rw[hδ];exact hg2_) hb3_)
 have hg2_:=dF0 hg2;refine Yy ?_;exact am (PD (by rw[hδ];exact hb1) (by rw[hδ];exact hg2_))
theorem ki(a b c:Int)(ha:L 44 a)(hb:L 44 b)(hc:L 44 c) :
  ak Tryz.prog 19 [FA a b c] (B (prim a b c)):=by
 have ia:LB a 44:=⟨ha⟩
 have ib:LB b 44:=⟨hb⟩
 have ic:LB c 44:=⟨hc⟩
 have ig:=Qg hb hc;refine aq Tryz.func19 rfl rfl rfl rfl<|Yy ?_;refine ae (ab (pS _ _ lz lz)) ?_;refine ae (ab (pS _ _ lz lz)) ?_;refine ae (ab (eM _ (by first|assumption|decide))) ?_;refine ae (ab (cL _ _))<|Yy ?_;exact bn (Fp _ _ _)
theorem sS(a b c x y:Int)(ha:L 36 a)(hb:L 36 b)(hc:L 36 c)(hx:L 36 x)(hy:L 36 y) :
  ak Tryz.prog 183 [FA a b c,I x,I y] (I (vl a b c x y)):=by
 have ia:LB a 36:=⟨ha⟩
 have ib:LB b 36:=⟨hb⟩
 have ic:LB c 36:=⟨hc⟩
 have ix:LB x 36:=⟨hx⟩
 have iy:LB y 36:=⟨hy⟩
 refine aq Tryz.func183 rfl rfl rfl rfl<|Yy ?_;refine ae (ab (gP _ _ _ lz lz lz))<|Zz ?_;refine ae (ab (gP _ _ _ lz lz lz)) ?_;refine ae (ab (dQ _ _ lz lz))<|Zz ?_;refine ae (ab (gP _ _ _ lz lz lz)) ?_;refine ae (ab (dQ _ _ lz lz))<|Yy ?_;exact .refl _
theorem zd(a b c p q r s:Int)(ha:L 34 a)(hb:L 34 b)(hc:L 34 c)(hp:L 34 p)(hq:L 34 q)(hr:L 34 r)(hs:L 34 s) :
  ak Tryz.prog 184 [FA a b c,MA p q r s] (FA (vl a b c p r) (apB a b c p q r s) (vl a b c q s)):=by
 have ia:LB a 34:=⟨ha⟩
 have ib:LB b 34:=⟨hb⟩
 have ic:LB c 34:=⟨hc⟩
 have ip:LB p 34:=⟨hp⟩
 have iq:LB q 34:=⟨hq⟩
 have ir:LB r 34:=⟨hr⟩
 have is:LB s 34:=⟨hs⟩
 refine aq Tryz.func184 rfl rfl rfl rfl<|Yy ?_;refine ae (ab (cF _ _ lz lz))<|Zz ?_;refine ae (ab (cF _ _ lz lz)) ?_;refine ae (ab (dQ _ _ lz lz))<|Yy ?_;refine ae (ab (gP _ _ _ lz lz lz))<|Zz ?_;refine ae (ab (gP _ _ _ lz lz lz)) ?_;refine ae (ab (dQ _ _ lz lz))<|Yy ?_;refine ae (ab (sS _ _ _ _ _ lz lz lz lz lz)) ?_;refine ae (ab (eM _ (by first|assumption|decide)))<|Zz ?_;refine ae (ab (cF _ _ lz lz))<|Zz ?_;refine ae (ab (cF _ _ lz lz)) ?_;refine ae (ab (dQ _ _ lz lz))<|Zz ?_;refine ae (ab (sS _ _ _ _ _ lz lz lz lz lz))<|Yy ?_;refine bK rfl (.inr rfl) (aA hT rfl rfl rfl rfl (cs:=[_,_,_,_,_,_]) rfl rfl) ?_ bd;exact .refl _
theorem Cn(p q r s:Int) :
  ak Tryz.prog 234 [MA p q r s] (MA p q r s):=by
 refine aq Tryz.func234 rfl rfl rfl rfl<|Yy ?_;refine ae (fj hT rfl rfl rfl (es:=[_,_,_,_]) rfl)<|Zz ?_;refine ae (fj hT rfl rfl rfl (es:=[_,_,_,_]) rfl)<|ae (fj hT rfl rfl rfl (es:=[_,_,_,_,_,_,_,_]) rfl)<|Yy ?_;refine bK rfl (.inr rfl) (aA hT rfl rfl rfl rfl (cs:=[_,_,_,_,_,_,_,_]) rfl rfl) ?_ bd;exact .refl _
theorem JS(p q r s t u v w:Int)(hp:L 38 p)(hq:L 38 q)(hr:L 38 r)(hs:L 38 s)(ht:L 38 t)(hu:L 38 u)(hv:L 38 v)(hw:L 38 w) :
  ak Tryz.prog 216 [MA p q r s,MA t u v w] (MA (p*t+q*v) (p*u+q*w) (r*t+s*v) (r*u+s*w)):=by
 have ip:LB p 38:=⟨hp⟩
 have iq:LB q 38:=⟨hq⟩
 have ir:LB r 38:=⟨hr⟩
 have is:LB s 38:=⟨hs⟩
 have it:LB t 38:=⟨ht⟩
 have iu:LB u 38:=⟨hu⟩
 have iv:LB v 38:=⟨hv⟩
 have iw:LB w 38:=⟨hw⟩
 refine aq Tryz.func216 rfl rfl rfl rfl<|Yy ?_;refine ae (ab (Cn _ _ _ _))<|Zz ?_;refine ae (ab (Cn _ _ _ _))<|Zz ?_;refine aE hP<|Zz ?_;refine bi<|aE hP<|Zz ?_;refine aR<|bX 3 ?_;refine aE hP<|Zz ?_;refine bi<|bH rfl (by decide) ?_;refine aT<|bi<|aR<|aE hP<|Zz ?_;refine aE hP<|Zz ?_;refine aR<|bX 3<|Yy ?_;refine ae (ab (cF _ _ lz lz))<|Zz ?_;refine ae (ab (cF _ _ lz lz)) ?_;refine ae (ab (dQ _ _ lz lz))<|Yy ?_;refine aF rfl rfl ?_;refine Yy ?_;refine ae (ab (cF _ _ lz lz))<|Zz ?_;refine ae (ab (cF _ _ lz lz)) ?_;refine ae (ab (dQ _ _ lz lz))<|Yy ?_;refine aF rfl rfl ?_;refine Yy ?_;refine aF rfl rfl ?_;refine Zz ?_;refine aE hP<|Zz ?_;refine bi<|bH rfl (by decide) ?_;refine aT<|bi<|aR<|aE hP<|Zz ?_;refine aE hP<|Zz ?_;refine aR<|bX 3<|Yy ?_;refine ae (ab (cF _ _ lz lz))<|Zz ?_;refine ae (ab (cF _ _ lz lz)) ?_;refine ae (ab (dQ _ _ lz lz))<|Yy ?_;refine aF rfl rfl ?_;refine Yy ?_;refine ae (ab (cF _ _ lz lz))<|Zz ?_;refine ae (ab (cF _ _ lz lz)) ?_;refine ae (ab (dQ _ _ lz lz))<|Yy ?_;refine aF rfl rfl ?_;refine Yy ?_;refine aF rfl rfl ?_;refine Yy ?_;refine bK rfl (.inr rfl) (aA hT rfl rfl rfl rfl (cs:=[_,_,_,_,_,_,_,_]) rfl rfl) ?_ bd;exact .refl _
theorem tU(a b c:Int)(ha:L 34 a)(hb:L 34 b)(hc:L 34 c) :
  ak Tryz.prog 179 [FA a b c] (B (rdd a b c)):=by
 have ia:LB a 34:=⟨ha⟩
 have ib:LB b 34:=⟨hb⟩
 have ic:LB c 34:=⟨hc⟩
 refine aq Tryz.func179 rfl rfl rfl rfl<|Yy ?_;refine ae (ab (mO _ _ _ lz lz lz))<|Zz ?_;refine aU (t:=8) rfl (fun hg1=>?_) (fun hg1=>?_)
 ·have hg1_:=cg hg1;refine Yy ?_;exact bn (QZ hg1_)
 have hg1_:=ci hg1;refine az hg1 (aN hT rfl rfl rfl rfl (cs:=[_,_,_,_,_,_]) rfl rfl) ?_;refine az hg1 (ab (ga _ _ _ lz lz lz)) ?_;refine az hg1 (ab (bu _)) ?_;refine Zz ?_;refine ah rfl (fun hb2=>?_) (fun hb2=>?_)
 ·have hb2_:=dT0 hb2;refine Yy ?_;exact bn (QY hb2_)
 have hb2_:=dF0 hb2;refine Yy ?_;refine ae (ab (jt _))<|Zz ?_;refine ae (ab (cL _ _))<|Zz ?_;refine ae (ab (cL _ _))<|Yy ?_;refine aU (t:=27) rfl (fun hg3=>?_) (fun hg3=>?_)
 ·have hg3_:=dT0 hg3;refine Zz ?_;refine az hg3 (kx rfl rfl) ?_;refine Zz ?_;refine aU (t:=31) rfl (fun hg4=>?_) (fun hg4=>?_)
  ·have hg4_:=dT0 hg4;refine Zz ?_;refine az hg4 (ed rfl rfl) ?_;refine Zz ?_;refine aU (t:=34) rfl (fun hg5=>?_) (fun hg5=>?_)
   ·have hg5_:=dT0 hg5;refine Zz ?_;refine az hg5 (ed rfl rfl) ?_;refine az hg4 (cQ rfl hg5 (rfl:_=AV.p (.c _))) ?_;refine Zz ?_;refine aU (t:=38) rfl (fun hg6=>?_) (fun hg6=>?_)
    ·have hg6_:=dT0 hg6;refine Zz ?_;refine az hg4 (cQ rfl hg6 (rfl:_=AV.p (.c _))) ?_;refine Yy ?_;exact bn (QX hg1_ hb2_ hg5_ hg6_)
    have hg6_:=dF0 hg6;refine Zz ?_;refine az hg6 (aN hT rfl rfl rfl rfl (cs:=[_,_]) rfl rfl) ?_;refine az hg6 (ab (bu _)) ?_;refine az hg6 (rN rfl rfl) ?_;refine az hg4 (bA rfl hg6 (rfl:_=AV.p (.c _))) ?_;refine Yy ?_;exact bn (HR hg1_ hb2_ hg3_ hg4_ (fun h=>hg6_ h.2))
   have hg5_:=dF0 hg5;refine Zz ?_;refine az hg4 (bA rfl hg5 (rfl:_=AV.p (.c _))) ?_;refine Zz ?_;refine az rfl (dU hT rfl rfl rfl rfl rfl rfl) ?_;refine az rfl (aN hT rfl rfl rfl rfl (cs:=[_,_]) rfl rfl) ?_;refine az rfl (ab (bu _)) ?_;refine az rfl (rN rfl rfl) ?_;refine az hg4 (bA rfl rfl (rfl:_=AV.p (.c _))) ?_;refine Yy ?_;exact bn (HR hg1_ hb2_ hg3_ hg4_ (fun h=>hg5_ h.1))
  have hg4_:=dF0 hg4;refine Yy ?_;exact bn (QW hg4_)
 have hg3_:=dF0 hg3;refine Yy ?_;exact bn (QV hg3_)
end
section
open Go Go.AM
attribute [local irreducible] RK Eff AWp
theorem JR(a b c p q r s t u v w:Int)(ha:L 34 a)(hb:L 34 b)(hc:L 34 c)(hp:L 34 p)(hq:L 34 q)(hr:L 34 r)(hs:L 34 s)(ht:L 34 t)(hu:L 34 u)(hv:L 34 v)(hw:L 34 w) :
  CallM Tryz.prog 180 [.loc 0 0,I t,I u,I v,I w] (upd O 0 (some ⟨false,1,227,[zn (a),zm (a),zn (b),zm (b),zn (c),zm (c),zn (p),zm (p),zn (q),zm (q),zn (r),zm (r),zn (s),zm (s)]⟩)) (.t []) (upd O 0 (some ⟨false,1,227,[zn (vl a b c t v),zm (vl a b c t v),zn (apB a b c t u v w),zm (apB a b c t u v w),zn (vl a b c u w),zm (vl a b c u w),zn (p*t+q*v),zm (p*t+q*v),zn (p*u+q*w),zm (p*u+q*w),zn (r*t+s*v),zm (r*t+s*v),zn (r*u+s*w),zm (r*u+s*w)]⟩)):=by
 have ia:LB a 34:=⟨ha⟩
 have ib:LB b 34:=⟨hb⟩
 have ic:LB c 34:=⟨hc⟩
 have ip:LB p 34:=⟨hp⟩
 have iq:LB q 34:=⟨hq⟩
 have ir:LB r 34:=⟨hr⟩
 have is:LB s 34:=⟨hs⟩
 have it:LB t 34:=⟨ht⟩
 have iu:LB u 34:=⟨hu⟩
 have iv:LB v 34:=⟨hv⟩
 have iw:LB w 34:=⟨hw⟩
 refine dk (np:=1) Tryz.func180 (by kernel_rfl) rfl rfl (bL0 rfl) eJ ff rfl<|Yy ?_;refine ae (ab (zd _ _ _ _ _ _ _ lz lz lz lz lz lz lz))<|Zz ?_;refine ae (ab (JS _ _ _ _ _ _ _ _ lz lz lz lz lz lz lz lz))<|Zz ?_;refine xZ hT rfl<|Zz ?_;refine xZ hT rfl<|Zz ?_;refine ju rfl (.inl rfl)  ?_ (dX rfl);exact .refl _
theorem Ck(m:Nat)(a b c p q r s t u v w:Int)(ha:L 34 a)(hb:L 34 b)(hc:L 34 c)(hp:L 34 p)(hq:L 34 q)(hr:L 34 r)(hs:L 34 s)(ht:L 34 t)(hu:L 34 u)(hv:L 34 v)(hw:L 34 w) :
  CallM Tryz.prog 180 [.loc m 0,I t,I u,I v,I w] (upd O m (some ⟨false,1,227,[zn (a),zm (a),zn (b),zm (b),zn (c),zm (c),zn (p),zm (p),zn (q),zm (q),zn (r),zm (r),zn (s),zm (s)]⟩)) (.t []) (upd O m (some ⟨false,1,227,[zn (vl a b c t v),zm (vl a b c t v),zn (apB a b c t u v w),zm (apB a b c t u v w),zn (vl a b c u w),zm (vl a b c u w),zn (p*t+q*v),zm (p*t+q*v),zn (p*u+q*w),zm (p*u+q*w),zn (r*t+s*v),zm (r*t+s*v),zn (r*u+s*w),zm (r*u+s*w)]⟩)):=CallM.ren1 m (JR a b c p q r s t u v w ha hb hc hp hq hr hs ht hu hv hw) rfl rfl
theorem vU(a b c:Int)(ha:L 26 a)(hb:L 26 b)(hc:L 26 c) :
  ak Tryz.prog 117 [FA a b c] (.t [PF (rdF a b c),PM (rdM a b c),PE (rdE a b c)]):=by
 have ia:LB a 26:=⟨ha⟩
 have ib:LB b 26:=⟨hb⟩
 have ic:LB c 26:=⟨hc⟩
 obtain⟨M,hMa,hMc,hM0,hML⟩:=ha.max2 hc;refine aq Tryz.func117 rfl rfl rfl rfl<|Yy ?_;refine ae (ab (mO _ _ _ lz lz lz))<|Yy ?_;refine aU (t:=16) rfl (fun hg1=>?_) (fun hg1=>?_)
 ·have hg1_:=bT hg1;refine az hg1 (aN hT rfl rfl rfl rfl (cs:=[_,_,_,_,_,_]) rfl rfl) ?_;refine az hg1 (ab (ga _ _ _ lz lz lz)) ?_;refine az hg1 (ab (bu _)) ?_;refine Zz ?_;refine ah rfl (fun hb2=>?_) (fun hb2=>?_)
  ·have hb2_:=dT0 hb2;refine Yy ?_;refine dz rfl (.inr rfl) (aA hT rfl rfl rfl rfl (cs:=[_,_,_,_,_,_]) rfl rfl) (aA hT rfl rfl rfl rfl (cs:=[_,_,_,_,_,_,_,_]) rfl rfl) (a8 rfl) ?_ bd;exact ao (zb (Q0 hg1 hb2_) (by decide))
  have hb2_:=dF0 hb2;refine Yy ?_;refine aJ rfl (by rw[bne,hg1];rfl)<|Yy ?_;refine ae (ab (eM _ (by first|assumption|decide))) ?_;refine ae (ab (eM _ (by first|assumption|decide)))<|Yy ?_;refine ae (dh hT rfl rfl rfl (es:=[_,_,_,_,_,_,_,_,_,_,_,_,_,_]) rfl)<|Zz ?_;refine bi<|aR ?_;have he0:=Q1 hg1 hb2_;have hp0:=sQ he0;refine aC (ι:=(Fm×Mt)×Nat) (fun i=>stL [(2,.loc 2 0),(3,.loc 3 0),(6,.loc 6 0),(7,.loc 7 0),(8,.loc 36 0)] [(2,⟨false,1,52,FL 0 0 0⟩),(3,⟨false,1,173,ML 0 0 0 0⟩),(6,⟨false,1,29,[zn 1,zm 1]⟩),(7,⟨false,1,29,[zn 0,zm 0]⟩),(36,⟨false,1,227,[zn (i.1.1.a),zm (i.1.1.a),zn (i.1.1.b),zm (i.1.1.b),zn (i.1.1.c),zm (i.1.1.c),zn (i.1.2.a),zm (i.1.2.a),zn (i.1.2.b),zm (i.1.2.b),zn (i.1.2.c),zm (i.1.2.c),zn (i.1.2.d),zm (i.1.2.d)]⟩)]) (fun i=>AM.Good ⟨a,b,c⟩ M i.1∧i.1.1.mu<=i.2∧fQ i.2 i.1=fQ (Fm.mu ⟨a,b,c⟩) (⟨a,b,c⟩,.one)) (fun i=>i.2) ((⟨a,b,c⟩,.one),Fm.mu ⟨a,b,c⟩) ⟨xf hp0 hMa hMc,Iv _,rfl⟩ (ai ⟨.refl _,.refl _,.refl _,.refl _,.refl _,trivial⟩ ⟨rfl,rfl,rfl,rfl,rfl,trivial⟩) ?_;rintro⟨s,k⟩ ⟨hG,hk,hR⟩;have hL:=hG.L hp0 hMa hMc hML;have i1:LB s.1.a 27:=⟨hL.1.a⟩
  have i2:LB s.1.b 27:=⟨hL.1.b⟩
  have i3:LB s.1.c 27:=⟨hL.1.c⟩
  have i4:LB s.2.a 27:=⟨hL.2.a⟩
  have i5:LB s.2.b 27:=⟨hL.2.b⟩
  have i6:LB s.2.c 27:=⟨hL.2.c⟩
  have i7:LB s.2.d 27:=⟨hL.2.d⟩
  have hs0:2*s.1.a≠0:=by
   have h9:0<s.1.a:=hG.pos.1;omega
  have i8:LB s.1.k 28:=⟨by unfold Fm.k;exact lz⟩
  refine Yy ?_;refine ae (ab (tU _ _ _ lz lz lz))<|Zz ?_;refine ah rfl (fun hb3=>?_) (fun hb3=>?_)
  ·have hb3_:=(dV hb3)
   refine Yy ?_;refine ae (ab (fC _ _ lz lz)) ?_;refine ae (ab (eM _ (by first|assumption|decide)))<|Zz ?_;refine ae (ab (cF _ _ lz lz)) ?_;refine ae (ab (bG _ _ lz lz hs0))<|Yy ?_;refine RK.mut ag (Eff.call (rd:=[36]) (Ck 36 (s.1.a) (s.1.b) (s.1.c) (s.2.a) (s.2.b) (s.2.c) (s.2.d) _ _ _ _ lz lz lz lz lz lz lz lz lz lz lz) (gG rfl) dN)<|Yy ?_;refine ae (ab (tU _ _ _ lz lz lz))<|Zz ?_;refine ah rfl (fun hb4=>?_) (fun hb4=>?_)
   ·have hb4_:=(dV hb4)
    refine Yy ?_;refine ae (ab (eM _ (by first|assumption|decide)))<|Zz ?_;refine RK.mut ag (Eff.call (rd:=[36]) (Ck 36 (vl s.1.a s.1.b s.1.c 1 0) (apB s.1.a s.1.b s.1.c 1 s.1.k 0 1) (vl s.1.a s.1.b s.1.c s.1.k 1) (s.2.a*1+s.2.b*0) (s.2.a*s.1.k+s.2.b*1) (s.2.c*1+s.2.d*0) (s.2.c*s.1.k+s.2.d*1) _ _ _ _ lz lz lz lz lz lz lz lz lz lz lz) (gG rfl) dN)<|Zz ?_;have hx:=zc hG hk hR hb3 (Qt hb4);refine⟨(((s.1.app (.T s.1.k)).app .S,(s.2.mul (.T s.1.k)).mul .S),k-1),hx.1,hx.2,ai ⟨.refl _,.refl _,.refl _,.refl _,.refl _,trivial⟩ ⟨rfl,rfl,rfl,rfl,rfl,trivial⟩⟩
   have hb4_:=(dI hb4)
   refine aT ?_;have hx:=zc hG hk hR hb3 (Qs hb4);refine⟨((s.1.app (.T s.1.k),s.2.mul (.T s.1.k)),k-1),hx.1,hx.2,ai ⟨.refl _,.refl _,.refl _,.refl _,.refl _,trivial⟩ ⟨rfl,rfl,rfl,rfl,rfl,trivial⟩⟩
  have hb3_:=(dI hb3)
  refine Yy ?_;refine dz rfl (.inr rfl) (aA hT rfl rfl rfl rfl (cs:=[_,_,_,_,_,_]) rfl rfl) (aA hT rfl rfl rfl rfl (cs:=[_,_,_,_,_,_,_,_]) rfl rfl) (a8 rfl) ?_ bd;exact ao (NE he0 (JP hR hb3))
 have hg1_:=bF hg1;refine Yy ?_;refine bH rfl (by rw[bne,hg1];rfl)<|Yy ?_;refine dz rfl (.inr rfl) (aA hT rfl rfl rfl rfl (cs:=[_,_,_,_,_,_]) rfl rfl) (aA hT rfl rfl rfl rfl (cs:=[_,_,_,_,_,_,_,_]) rfl rfl) (a8 rfl) ?_ bd;exact ao (zb (NJ hg1).1 (fun e=>by rw[e]at hg1;cases hg1))
end
section
open Go Go.AM
attribute [local irreducible] RK Eff AWp
theorem E7(zs:List Nat)(hz:zs.length<=1000000) :
  Iter Tryz.prog 146 [[W zs]] (bkL zs):=by
 refine zL Tryz.func146 (by kernel_rfl) rfl rfl (bL0 rfl) rfl ?_;intro l n0 J hK;refine dM ?_;refine cW hP ?_;refine Qc hT rfl rfl rfl ?_;refine ae (dy hT rfl rfl rfl (l:=zs.length) rfl) ?_;refine ae (aY rfl rfl (by first|exact iW0 _ (by omega)|rfl))<|Zz ?_;refine ke ?_;refine tH (ι:=Nat) (fun k=>stL [(0,.p (.c (.v (.func (.yield l) #[] #[])))),(1,.ip [W zs]),(3,Z ((zs.length:Int)-1-(k:Int)))] []) (fun k=>k) (fun k=>k<=zs.length) (fun k=>zs.length-k) 0 (Uv _) rfl (ai ⟨.refl _,.refl _,am (by simp),trivial⟩ trivial) ?_;intro k hk;refine dM ?_;refine dM ?_;refine cW hP<|Zz ?_;refine lp rfl (fun hb1=>?_) (fun hb1=>?_)
 ·have hb1_:=dT0 hb1;refine jz ?_;refine dM ?_;refine ke ?_;refine dM ?_;refine nT ?_;refine RJ.val ag (aK (rfl:_=AV.p (.c _))) ?_;refine RJ.val ag (aK (rfl:_=AV.p (.c _))) ?_;refine RJ.val ag (aM hT rfl rfl rfl (by first|rfl|exact jP (by omega))) ?_;refine RJ.val ag (aK (rfl:_=AV.p (.c _))) ?_;refine RJ.val ag (b8 hT (l:=zs.length) (n:=((zs.length:Int)-1-(k:Int))) rfl rfl rfl rfl rfl rfl (by omega) (nR (by omega))) ?_;refine RJ.val ag (aM hT rfl rfl rfl (dv:=w32 (zs.getD (zs.length-1-k) 0)) (by show((zs.map w32).drop ((((zs.length:Int)-1-(k:Int))).toNat*1))[0]?=_;rw[show(((zs.length:Int)-1-(k:Int))).toNat=zs.length-1-k by omega];exact jP (by omega))) ?_;refine RJ.yield hK ag rfl rfl (DS (by omega)) ?_;refine RJ.val ag (cZ rfl) ?_;refine RJ.done ?_;refine iX rfl rfl ?_;refine jz ?_;refine cW hP<|Zz ?_;refine ae (aY rfl rfl (by first|exact iW0 _ (by omega)|rfl))<|Zz ?_;refine⟨k+1,by omega,by omega,rfl,ai ⟨.refl _,.refl _,am (by omega),trivial⟩ trivial⟩
 have hb1_:=dF0 hb1;refine ll ?_;refine⟨.inl rfl,?_⟩;exact(tB zs).symm▸(by omega)
theorem Ju(zs:List Nat) :
  ak Tryz.prog 85 [.p (.c (W zs))] (.fn 146 [[W zs]]):=by
 refine q9 Tryz.func85 (by kernel_rfl) rfl rfl (bL0 rfl) rfl ?_;refine aE hP<|Zz ?_;refine bo (t:=1) rfl rfl ?_;refine Yy ?_;exact⟨.inr rfl,2,rfl,rfl⟩
theorem wZ(x:Int)(hx:x.natAbs<18446744073709551616) :
  ak Tryz.prog 29 [I x] (.t [PE (lwV x),PB (lwO x)]):=by
 have hlen:(wl x.natAbs).length<=2:=jf (k:=2) (by omega);have hok:=bI x.natAbs;refine aq Tryz.func29 rfl rfl rfl rfl ?_;refine aE hP<|bD ag (wo rfl rfl)<|sA rfl<|sA rfl<|rm<|bi<|aE hP<|fY hT rfl<|T9 hT rfl rfl rfl rfl ?_;refine ae (dy hT rfl rfl rfl (l:=(wl x.natAbs).length) rfl)<|Zz ?_;refine aJ rfl (Ix (by omega))<|Yy ?_;refine ae (ab (Ju (wl x.natAbs)))<|Zz ?_;refine aR<|eh (t:=stL [(1,.loc 1 0),(4,.loc 4 0),(14,.fn 146 [[W (wl x.natAbs)]])] [(1,⟨false,1,29,[zn x,zm x]⟩),(4,⟨false,1,58,[.v (.int .u64 ((lwA (wl x.natAbs) 0:Nat):Int))]⟩)]) (ai ⟨.refl _,.refl _,.refl _,trivial⟩ ⟨rfl,by rw[Bg];rfl,trivial⟩) ?_;refine o9 5 (fun k=>c9 [(1,⟨false,1,29,[zn x,zm x]⟩),(4,⟨false,1,58,[.v (.int .u64 ((lwA (wl x.natAbs) k:Nat):Int))]⟩)]) rfl (E7 (wl x.natAbs) (by omega)) (LS _) rfl rfl rfl (fun k xx hxx=>?_) ?_
 ·obtain⟨hk,rfl⟩:=LU hxx;have hv:=RC hok hlen hk;have hw:=hok.getD ((wl x.natAbs).length-1-k);refine Yy ?_;refine ae (rJ rfl rfl (by decide) (c:=((lwA (wl x.natAbs) k*4294967296:Nat):Int)) (by rw[show(2:Int)^(min (32:Int).toNat IntKind.u64.bits)=4294967296 from rfl,IntWalk.u64_in _ (by omega)];omega))<|Zz ?_;refine ae (aQ hT rfl rfl rfl rfl (IntWalk.u64_in _ (by omega))) ?_;refine ae (pE rfl rfl (S2 hv hw))<|Zz ?_;refine⟨rfl,GW.forget_as (Ur (fun y=>c9 [(1,⟨false,1,29,[zn x,zm x]⟩),(4,⟨false,1,58,[.v (.int .u64 ((y:Nat):Int))]⟩)]) (wE hk).symm) (SubO.own ⟨rfl,rfl,trivial⟩)⟩
 rw[tB,Kv,bE];refine Yy ?_;refine ae (aQ hT rfl rfl rfl rfl (Nt hx))<|Yy ?_;refine ah rfl (fun hb1=>?_) (fun hb1=>?_)
 ·have hn:x<0:=dT0 hb1;refine Yy ?_;refine ae (fA rfl (Mo hn))<|Yy ?_;refine aU (t:=30) rfl (fun hg2=>?_) (fun hg2=>?_)
  ·have hg2_:=cg hg2;refine Zz ?_;refine az hg2 (bq hT rfl rfl rfl rfl (by first|rfl|exact gD (by omega))) ?_;refine Zz ?_;refine az hg2 (ed rfl rfl) ?_;refine az hg2 (ox hT rfl rfl rfl rfl) ?_;refine Zz ?_;refine ah rfl (fun hb3=>?_) (fun hb3=>?_)
   ·refine Yy ?_;exact ao (zJ hx (by assumption))
   refine Yy ?_;exact ao (wG hx (by assumption))
  have hg2_:=ci hg2;refine Yy ?_;exact ao (ur hx (by assumption))
 have hn:¬ x<0:=dF0 hb1;rw[Mn hn];refine Yy ?_;refine aU (t:=30) rfl (fun hg4=>?_) (fun hg4=>?_)
 ·have hg4_:=cg hg4;refine Zz ?_;refine az hg4 (bq hT rfl rfl rfl rfl (by first|rfl|exact gD (by omega))) ?_;refine Zz ?_;refine az hg4 (ed rfl rfl) ?_;refine az hg4 (ox hT rfl rfl rfl rfl) ?_;refine Zz ?_;refine ah rfl (fun hb5=>?_) (fun hb5=>?_)
  ·refine Yy ?_;exact ao (zJ hx (by assumption))
  refine Yy ?_;exact ao (wG hx (by assumption))
 have hg4_:=ci hg4;refine Yy ?_;exact ao (ur hx (by assumption))
theorem RA{x:Int}(h1:-9223372036854775808<x)(h2:x<9223372036854775808):AV.t [PE (lwV x),PB (lwO x)]=.t [PE x,PB true]:=by
 have e:lwO x=true:=G6 ⟨by omega,h2⟩;unfold lwV;rw[e];rfl
theorem gU(x:Int)(h1:-9223372036854775808<x)(h2:x<9223372036854775808):ak Tryz.prog 29 [I x] (.t [.c (.v (.int .i64 x)),PB true]):=RA h1 h2▸wZ x (by omega)
end
section
open Go Go.AM
attribute [local irreducible] RK Eff AWp
theorem iH(d:Int)(hd:L 40 d) :
  ak Tryz.prog 22 [I d] (.t [PF (prF d),PE (prE d)]):=by
 have id:LB d 40:=⟨hd⟩
 have h4a:=UF d (show(4:Int)≠0 by decide);have h4b:=UK d (show(0:Int)<4 by decide);refine aq Tryz.func22 rfl rfl rfl rfl<|Yy ?_;refine ae (ab (eM _ (by first|assumption|decide))) ?_;refine ae (ab (bG _ 4 lz lz (by decide)))<|Yy ?_;refine ae (ab (gU (d%4) (by omega) (by omega)))<|Yy ?_;refine az rfl (iL rfl rfl) ?_;refine Zz ?_;refine aU (t:=27) rfl (fun hg2=>?_) (fun hg2=>?_)
 ·have hg2_:=dT0 hg2;refine Yy ?_;refine b9 rfl (.inr rfl) (aA hT rfl rfl rfl rfl (cs:=[_,_,_,_,_,_]) rfl rfl) (a8 rfl) ?_ bd;exact ao (HS (.inl hg2_))
 have hg2_:=dF0 hg2;refine az hg2 (aN hT rfl rfl rfl rfl (cs:=[_,_]) rfl rfl) ?_;refine az hg2 (ab (rG _ lz)) ?_;refine Zz ?_;refine ah rfl (fun hb3=>?_) (fun hb3=>?_)
 ·refine Yy ?_;refine b9 rfl (.inr rfl) (aA hT rfl rfl rfl rfl (cs:=[_,_,_,_,_,_]) rfl rfl) (a8 rfl) ?_ bd;exact ao (HS (.inr hb3))
 refine Yy ?_;refine ae (ab (eM _ (by first|assumption|decide)))<|Zz ?_;refine ae (ab (gS _))<|Yy ?_;refine b9 rfl (.inr rfl) (aA hT rfl rfl rfl rfl (cs:=[_,_,_,_,_,_]) rfl rfl) (a8 rfl) ?_ bd;exact ao (Cr hg2_ hb3)
theorem NL(ws:List Nat)(hok:okW ws) :
  ak Tryz.prog 67 [.p (.c (W ws))] (.p (.c (nt (wv ws)))):=by
 refine aq Tryz.func67 rfl rfl rfl rfl ?_;refine nh (t:=0) rfl rfl (fun hlen=>?_);refine Yy ?_;refine aC (ι:=List Nat) (fun l=>stL [(0,.p (.c (W l)))] []) (fun l=>okW l∧wv l=wv ws∧l.length<=140737488355328) (fun l=>l.length) ws ⟨hok,rfl,hlen⟩ (ai ⟨.refl _,trivial⟩ trivial) ?_;rintro l ⟨hl,hv,hn⟩;refine Yy ?_;refine aU (t:=6) rfl (fun hg1=>?_) (fun hg1=>?_)
 ·have hg1_:=dT0 hg1;refine Zz ?_;refine az hg1 (dy hT rfl rfl rfl rfl) ?_;refine az hg1 (aY rfl rfl (by first|exact iW0 _ (by omega)|rfl)) ?_;refine az hg1 (by first|exact gq hT rfl rfl rfl rfl rfl rfl (by omega)|exact b8 hT rfl rfl rfl rfl rfl rfl (by omega) (by first|exact nR (by omega)|simp)) ?_;refine az hg1 (aM hT rfl rfl rfl (by first|rfl|exact jP (by omega))) ?_;refine Zz ?_;refine ah rfl (fun hb2=>?_) (fun hb2=>?_)
  ·have hb2_:=bT hb2;refine Yy ?_;refine ae (aY rfl rfl (by first|exact iW0 _ (by omega)|rfl)) ?_;refine ae (mf hT rfl rfl rfl rfl rfl rfl (by omega))<|Zz ?_;have e:((l.length:Int)-1).toNat=l.length-1:=by omega
   refine⟨l.take (l.length-1),⟨hl.take _,?_,?_⟩,?_,ai ⟨ao ?_,trivial⟩ trivial⟩
   ·rw[vo (by omega) (by rw[<- e];omega),hv]
   ·rw[Us];omega
   ·rw[Us];omega
   show AV.p (.c (W (l.take ((l.length:Int)-1).toNat)))=_;rw[e]
  have hb2_:=bF hb2;refine aS<|aE hP<|Zz ?_;refine bC<|E1 rfl rfl ?_;have e:((l.length:Int)-1).toNat=l.length-1:=by omega
  refine ao ?_;rw[<- hv,u9 hl (.inr (by rw[<- e];omega))]
 have hg1_:=dF0 hg1;refine Zz ?_;refine aJ rfl rfl<|aS<|aE hP<|Zz ?_;refine bC<|E1 rfl rfl ?_;refine ao ?_;rw[<- hv,u9 hl (.inl (by omega))]
theorem Cj(neg:Bool)(ws:List Nat)(h:okW ws) :
  ak Tryz.prog 17 [B neg,.p (.c (W ws))] (I (sg neg (wv ws))):=by
 refine aq Tryz.func17 rfl rfl rfl rfl<|Yy ?_;refine ae (ab (NL _ h))<|Yy ?_;refine ah rfl (fun hb1=>?_) (fun hb1=>?_)
 ·have hb1_:=bT hb1;refine aE hP<|Zz ?_;refine bC<|E2 hT rfl rfl rfl rfl rfl rfl rfl ?_;have h0:wv ws=0:=sF (by omega);rw[h0,y5];exact .refl _
 have hb1_:=bF hb1;refine aT<|aE hP<|Zz ?_;refine bC<|E2 hT rfl rfl rfl rfl rfl rfl rfl ?_;have h0:0<wv ws:=by
  rcases UI (wv ws)with e|e
  ·rw[e]at hb1_;exact absurd rfl hb1_
  exact e
 exact ao (by show _=AV.p (.a [zn _,zm _]);rw[Hb h0,Hc])
theorem vT(z:Int)(hz:aH z) :
  ak Tryz.prog 4 [.p (.c (.v (.int .i64 z)))] (I z):=by
 have hz1:z.natAbs<18446744073709551616:=by unfold aH at hz;omega
 refine aq Tryz.func4 rfl rfl rfl rfl<|Yy ?_;refine ae (aQ hT rfl rfl rfl rfl AG)<|Yy ?_;refine ah rfl (fun hb1=>?_) (fun hb1=>?_)
 ·have hb1_:=dT0 hb1;refine Yy ?_;refine ae (fA rfl (Ei hz hb1_))<|Yy ?_;refine ae (aQ hT rfl rfl rfl rfl (c:=((z.natAbs%4294967296:Nat):Int)) (by first|exact mD _|exact HV hz hb1_))<|Zz ?_;refine ae (eK (j:=32) rfl rfl (by decide)) ?_;refine ae (aQ hT rfl rfl rfl rfl (c:=((z.natAbs/2^32:Nat):Int)) (by first|exact CM hz|exact HW hz hb1_))<|Zz ?_;refine ae (ab (Cj _ [z.natAbs%4294967296,z.natAbs/2^32] (sX (by omega))))<|Yy ?_;exact Sub.I (by rw[vn];exact A6)
 have hb1_:=dF0 hb1;refine Yy ?_;refine ae (aQ hT rfl rfl rfl rfl (c:=((z.natAbs%4294967296:Nat):Int)) (by first|exact mD _|exact HV hz hb1_))<|Zz ?_;refine ae (eK (j:=32) rfl rfl (by decide)) ?_;refine ae (aQ hT rfl rfl rfl rfl (c:=((z.natAbs/2^32:Nat):Int)) (by first|exact CM hz|exact HW hz hb1_))<|Zz ?_;refine ae (ab (Cj _ [z.natAbs%4294967296,z.natAbs/2^32] (sX (by omega))))<|Yy ?_;exact Sub.I (by rw[vn];exact A6)
end
section
open Go Go.AM
attribute [local irreducible] RK Eff AWp
end
section
open Go Go.AM
attribute [local irreducible] RK Eff AWp
end
section
open Go Go.AM
attribute [local irreducible] RK Eff AWp
end
section
open Go Go.AM
attribute [local irreducible] RK Eff AWp
end
section
open Go Go.AM
attribute [local irreducible] RK Eff AWp
end
section
open Go Go.AM
attribute [local irreducible] RK Eff AWp
theorem oU(N:Int)(h1:0<=N)(h2:N<=4194304) :
  Iter Tryz.prog 130 [[.v (.int .i64 N)]] (trI N):=by
 refine zL Tryz.func130 (by kernel_rfl) rfl rfl (bL0 rfl) rfl ?_;intro l n0 J hK;refine dM ?_;refine cW hP<|Zz ?_;refine ke ?_;refine tH (ι:=Int×Nat) (fun p=>stL [(0,.p (.c (.v (.func (.yield l) #[] #[])))),(1,.ip [.v (.int .i64 N)]),(3,Z p.1)] []) (fun p=>p.2) (fun p=>(trs N).drop p.2=eQ N (2001-p.1).toNat p.1∧1<=p.1∧p.1<=1184∧p.2<=(trs N).length) (fun p=>(2000-p.1).toNat) (1,0) ⟨EV N,by decide,by decide,by simp⟩ rfl (ai ⟨.refl _,.refl _,.refl _,trivial⟩ trivial) ?_;rintro p ⟨hI,ha1,ha2,hpk⟩;have hsq:=SD ⟨ha1,ha2⟩;refine dM ?_;refine dM ?_;refine cW hP<|Zz ?_;refine ae (bw rfl rfl (by first|exact iW0 _ (by omega)|rfl))<|Zz ?_;refine ae (bw rfl rfl (by first|exact iW0 _ (by omega)|rfl))<|Zz ?_;refine lp rfl (fun hb1=>?_) (fun hb1=>?_)
 ·have hb1_:=dT0 hb1;have ha3:=Ip ha1 hb1_ h2;refine jz ?_;refine dM ?_;refine ke ?_;refine dM ?_;refine cW hP<|Zz ?_;refine ae (aY rfl rfl (by first|exact iW0 _ (by omega)|rfl))<|Zz ?_;refine ke ?_;refine tH (ι:=Int×Nat) (fun q=>stL [(0,.p (.c (.v (.func (.yield l) #[] #[])))),(1,.ip [.v (.int .i64 N)]),(3,Z p.1),(4,Z q.1)] []) (fun q=>q.2) (fun q=>(trs N).drop q.2=fh N p.1 (p.1+1-q.1).toNat q.1++eQ N (2000-p.1).toNat (p.1+1)∧1-p.1<=q.1∧q.1<=p.1+1∧q.2<=(trs N).length) (fun q=>(p.1+1-q.1).toNat) (1-p.1,p.2) ⟨Qq hI ⟨ha1,ha2⟩ hb1_,by simp only;omega,by simp only;omega,hpk⟩ rfl (ai ⟨.refl _,.refl _,.refl _,.refl _,trivial⟩ trivial) ?_;rintro q ⟨hJ,hq1,hq2,hqk⟩;refine dM ?_;refine dM ?_;refine cW hP<|Zz ?_;refine lp rfl (fun hb2=>?_) (fun hb2=>?_)
  ·have hb2_:=dT0 hb2;have qs:=sK (x:=q.1) (m:=1184) (by omega);have qc:=TY (x:=q.1*q.1+N) (y:=4*p.1) (by omega) (by omega);refine jz ?_;refine dM ?_;refine ke ?_;refine dM ?_;refine cW hP<|Zz ?_;refine ae (bw rfl rfl (by first|exact iW0 _ (by omega)|rfl))<|Zz ?_;refine aF rfl rfl ?_;refine Zz ?_;refine ae (bw rfl rfl (by first|exact iW0 _ (by omega)|rfl)) ?_;refine ae (bV rfl rfl (by omega) (c:=((q.1*q.1+N)/(4*p.1))) (by rw[Uz (by omega),iW0 _ (by omega)]))<|Zz ?_;refine dM ?_;refine dM ?_;refine cW hP<|Zz ?_;refine ae (bw rfl rfl (by first|exact iW0 _ (by omega)|rfl))<|Zz ?_;refine aF rfl rfl ?_;refine Zz ?_;refine ae (bw rfl rfl (by first|exact iW0 _ (by omega)|rfl)) ?_;refine ae (cf rfl rfl (by omega) (c:=((q.1*q.1+N)%(4*p.1))) (UH (by omega)))<|Zz ?_;refine aU (t:=38) rfl (fun hg3=>?_) (fun hg3=>?_)
   ·have hg3_:=cg hg3;refine Zz ?_;refine pj rfl rfl ?_;refine ll ?_;refine cW hP<|Zz ?_;refine aF rfl rfl ?_;refine Zz ?_;refine⟨(q.1+1,q.2),⟨AH hJ hb2_ (Ra hg3_),by simp only;omega,by simp only;omega,hqk⟩,by simp only;omega,rfl,ai ⟨.refl _,.refl _,.refl _,.refl _,trivial⟩ trivial⟩
   have hg3_:=ci hg3;have hz:((q.1*q.1+N)%(4*p.1))=0:=hg3_;refine Zz ?_;refine az hg3 (ed rfl rfl) ?_;refine Zz ?_;refine aU (t:=43) rfl (fun hg4=>?_) (fun hg4=>?_)
   ·have hg4_:=dT0 hg4;refine Zz ?_;refine pj rfl rfl ?_;refine ll ?_;refine cW hP<|Zz ?_;refine aF rfl rfl ?_;refine Zz ?_;refine⟨(q.1+1,q.2),⟨AH hJ hb2_ (Q9 hz hg4_),by simp only;omega,by simp only;omega,hqk⟩,by simp only;omega,rfl,ai ⟨.refl _,.refl _,.refl _,.refl _,trivial⟩ trivial⟩
   have hg4_:=dF0 hg4;refine Zz ?_;refine az hg4 (ed rfl rfl) ?_;refine Zz ?_;refine aU (t:=46) rfl (fun hg5=>?_) (fun hg5=>?_)
   ·have hg5_:=dT0 hg5;refine Zz ?_;refine az hg4 (cQ rfl hg5 (rfl:_=AV.p (.c _))) ?_;refine Zz ?_;refine lp rfl (fun hb6=>?_) (fun hb6=>?_)
    ·have hb6_:=bT hb6;refine ll ?_;refine cW hP<|Zz ?_;refine aF rfl rfl ?_;refine Zz ?_;refine⟨(q.1+1,q.2),⟨AH hJ hb2_ (Q8 hz hg4_ hg5_ hb6_),by simp only;omega,by simp only;omega,hqk⟩,by simp only;omega,rfl,ai ⟨.refl _,.refl _,.refl _,.refl _,trivial⟩ trivial⟩
    have hb6_:=bF hb6;have hy:=BT hJ hb2_ (Q7 hz hg4_ hb6_);refine jz ?_;refine dM ?_;refine nT ?_;iterate 4 refine RJ.val ag (aK (rfl:_=AV.p (.c _))) ?_
    refine RJ.val ag (dh hT rfl rfl rfl (es:=[_,_,_]) rfl) ?_;refine RJ.yield hK ag rfl rfl (BU hy) ?_;refine RJ.val ag (cZ rfl) ?_;refine RJ.done ?_;refine iX rfl rfl ?_;refine jz ?_;refine cW hP<|Zz ?_;refine aF rfl rfl ?_;refine Zz ?_;refine⟨(q.1+1,q.2+1),⟨yO hy,by simp only;omega,by simp only;omega,HO hy⟩,by simp only;omega,rfl,ai ⟨.refl _,.refl _,.refl _,.refl _,trivial⟩ trivial⟩
   have hg5_:=dF0 hg5;have hy:=BT hJ hb2_ (Q6 hz hg4_ hg5_);refine Zz ?_;refine az hg4 (bA rfl hg5 (rfl:_=AV.p (.c _))) ?_;refine Zz ?_;refine iX rfl rfl ?_;refine jz ?_;refine dM ?_;refine nT ?_;iterate 4 refine RJ.val ag (aK (rfl:_=AV.p (.c _))) ?_
   refine RJ.val ag (dh hT rfl rfl rfl (es:=[_,_,_]) rfl) ?_;refine RJ.yield hK ag rfl rfl (BU hy) ?_;refine RJ.val ag (cZ rfl) ?_;refine RJ.done ?_;refine iX rfl rfl ?_;refine jz ?_;refine cW hP<|Zz ?_;refine aF rfl rfl ?_;refine Zz ?_;refine⟨(q.1+1,q.2+1),⟨yO hy,by simp only;omega,by simp only;omega,HO hy⟩,by simp only;omega,rfl,ai ⟨.refl _,.refl _,.refl _,.refl _,trivial⟩ trivial⟩
  have hb2_:=dF0 hb2;refine ll ?_;refine cW hP<|Zz ?_;refine aF rfl rfl ?_;refine Zz ?_;refine⟨(p.1+1,q.2),⟨Nn hJ hb2_,by simp only;omega,by simp only;omega,hqk⟩,by simp only;omega,rfl,ai ⟨.refl _,.refl _,.refl _,trivial⟩ trivial⟩
 have hb1_:=dF0 hb1;refine ll ?_;refine⟨.inl rfl,?_⟩;exact Np hI hb1_ hpk
end
section
open Go Go.AM
attribute [local irreducible] RK Eff AWp
theorem lO(z:Int)(hz:aH z) :
  ak Tryz.prog 129 [Z z] (I z):=by
 refine aq Tryz.func129 rfl rfl rfl rfl<|Yy ?_;refine ae (ab (bL _ (by first|assumption|decide)))<|Yy ?_;exact .refl _
theorem Ov(z:Int)(hz:aH z) :
  ak Tryz.prog 217 [Z z] (I z):=by
 refine aq Tryz.func217 rfl rfl rfl rfl<|Yy ?_;refine ae (ab (bL _ (by first|assumption|decide)))<|Yy ?_;exact .refl _
theorem PK(a b c:Int)(ha:aH a)(hb:aH b)(hc:aH c) :
  ak Tryz.prog 70 [.p (.a [.v (.int .i64 a),.v (.int .i64 b),.v (.int .i64 c)])] (FA a b c):=by
 refine aq Tryz.func70 rfl rfl rfl rfl<|Yy ?_;refine ae (ab (lO _ (by first|assumption|decide)))<|Zz ?_;refine ae (ab (lO _ (by first|assumption|decide)))<|Zz ?_;refine ae (ab (lO _ (by first|assumption|decide)))<|Yy ?_;refine bK rfl (.inr rfl) (aA hT rfl rfl rfl rfl (cs:=[_,_,_,_,_,_]) rfl rfl) ?_ bd;exact .refl _
theorem Be(x:Int) :
  ak Tryz.prog 186 [I x] (B (decide (x=1))):=by
 refine aq Tryz.func186 rfl rfl rfl rfl<|Yy ?_;refine ae (ab (Ov _ (by first|assumption|decide))) ?_;refine ae (ab (cL _ _))<|Yy ?_;exact bn (by rw[Vg];simp[cmpI_eq_zero])
theorem Bf(x:Int) :
  ak Tryz.prog 226 [I x] (B (cV x)):=by
 refine aq Tryz.func226 rfl rfl rfl rfl<|Yy ?_;refine aU (t:=7) rfl (fun hg1=>?_) (fun hg1=>?_)
 ·have hg1_:=dT0 hg1;refine Zz ?_;refine az hg1 (bq hT rfl rfl rfl rfl (by first|rfl|exact gD (by omega))) ?_;refine az hg1 (by first|exact gq hT rfl rfl rfl rfl rfl rfl (by omega)|exact b8 hT rfl rfl rfl rfl rfl rfl (by omega) (by first|exact nR (by omega)|simp)) ?_;refine az hg1 (aM hT rfl rfl rfl (by first|rfl|exact jP (by omega))) ?_;refine az hg1 (pH (m:=(wl x.natAbs).getD 0 0) (n:=1) rfl rfl rfl (jU ((bI x.natAbs).getD 0)) (by decide)) ?_;refine Yy ?_;exact bn (J9 hg1_)
 have hg1_:=dF0 hg1;refine Yy ?_;exact bn (N7 hg1_)
theorem nA(x y:Int)(hx:L 44 x)(hy:L 44 y)(h0:y≠0) :
  ak Tryz.prog 185 [I x,I y] (I (x%y)):=by
 have ix:LB x 44:=⟨hx⟩
 have iy:LB y 44:=⟨hy⟩
 refine aq Tryz.func185 rfl rfl rfl rfl<|Yy ?_;refine ae (ab (bG _ _ lz lz h0))<|Yy ?_;exact .refl _
theorem Rw(x y:Int)(hx:L 44 x)(hy:L 44 y)(h0:y≠0) :
  ak Tryz.prog 239 [I x,I y] (I (x/y)):=by
 have ix:LB x 44:=⟨hx⟩
 have iy:LB y 44:=⟨hy⟩
 refine aq Tryz.func239 rfl rfl rfl rfl<|Yy ?_;refine ae (ab (bG _ _ lz lz h0))<|Yy ?_;exact .refl _
theorem va(x m:Int)(hm:m=4∨m=8) :
  ak Tryz.prog 231 [I x,.p (.c (.v (.int .u32 m)))] (.p (.c (.v (.int .u32 (x%m))))):=by
 have hm0:0<m∧m<10:=by omega
 have hb:=UF (x.natAbs:Int) (show m≠0 by omega);have hb2:=UK (x.natAbs:Int) hm0.1;refine aq Tryz.func231 rfl rfl rfl rfl<|Yy ?_;refine ah rfl (fun hb1=>?_) (fun hb1=>?_)
 ·have hb1_:=bT hb1;refine Yy ?_;exact ao (by rw[FW hb1_])
 have hb1_:=bF hb1;refine Yy ?_;refine cO ?_;refine Zz ?_;refine ae (cf rfl rfl (by omega) (c:=(x.natAbs:Int)%m) (by rw[UH (by omega)];exact KG hm hb1_))<|Yy ?_;refine aU (t:=18) rfl (fun hg2=>?_) (fun hg2=>?_)
 ·refine Zz ?_;refine ah rfl (fun hb3=>?_) (fun hb3=>?_)
  ·have hb3_:=dT0 hb3;refine Yy ?_;refine ae (aY rfl rfl (by first|exact IntWalk.u32_in _ (by omega)|rfl))<|Yy ?_;exact ao (by rw[KF hm (dT0 hg2) hb3_])
  have hb3_:=dF0 hb3;refine Yy ?_;exact ao (by rw[FX hm (dT0 hg2) hb3_])
 refine Yy ?_;exact ao (by rw[KE (dF0 hg2)])
theorem If(x y:Int)(hx:-9223372036854775807<=x∧x<=9223372036854775807)(hy:-9223372036854775807<=y∧y<=9223372036854775807) :
  ak Tryz.prog 196 [Z x,Z y] (Z (Int.gcd x y:Nat)):=by
 refine aq Tryz.func196 rfl rfl rfl rfl<|Yy ?_;refine aC (ι:=Int×Int) (fun p=>stL [(0,Z p.1),(1,Z p.2)] []) (fun p=>Int.gcd p.1 p.2=Int.gcd x y∧(-9223372036854775807<=p.1∧p.1<=9223372036854775807)∧(-9223372036854775807<=p.2∧p.2<=9223372036854775807)) (fun p=>p.2.natAbs) (x,y) ⟨rfl,hx,hy⟩ (ai ⟨.refl _,.refl _,trivial⟩ trivial) ?_;rintro p ⟨hG,hp1,hp2⟩;refine Yy ?_;refine ah rfl (fun hb1=>?_) (fun hb1=>?_)
 ·have hb1_:=cg hb1;refine Yy ?_;refine ae (cf rfl rfl hb1_ (c:=p.1.tmod p.2) rfl)<|Zz ?_;obtain⟨k1,k2,k3⟩:=Gq hb1_ hp1 hp2;refine⟨(p.2,p.1.tmod p.2),⟨k1.trans hG,hp2,k2⟩,k3,ai ⟨.refl _,.refl _,trivial⟩ trivial⟩
 have hb1_:=ci hb1;refine Yy ?_;refine ae (fA rfl (by first|exact iW0 _ (by omega)|rfl))<|Yy ?_;exact ao (by rw[Li hb1_ hG])
end
section
open Go Go.AM
attribute [local irreducible] RK Eff AWp
theorem CX(x:Int)(hx:L 40 x)(h0:x≠0) :
  ak Tryz.prog 230 [I x] (.t [PI (tw x).1,PE (tw x).2]):=by
 refine aq Tryz.func230 rfl rfl rfl rfl<|Yy ?_;refine aC (ι:=Int×Int) (fun p=>stL [(1,.loc 1 0),(2,.loc 2 0),(4,Z p.2)] [(1,⟨false,1,29,[zn (p.1),zm (p.1)]⟩),(2,⟨false,1,29,[zn (0),zm (0)]⟩)]) (fun p=>TwI x p.1 p.2) (fun p=>p.1.natAbs) (x,0) (TwI.start hx h0) (ai ⟨.refl _,.refl _,.refl _,trivial⟩ ⟨rfl,rfl,trivial⟩) ?_;rintro p hI;have hlt:=hI.lt hx;have hk0:=hI.k0;have ib:LB p.1 40:=⟨hI.lb⟩
 refine Yy ?_;refine ae (ab (Bf _))<|Zz ?_;refine ah rfl (fun hb1=>?_) (fun hb1=>?_)
 ·have hb1_:=(dV hb1)
  refine Yy ?_;refine ae (ab (Ov _ (by first|assumption|decide))) ?_;refine ae (ab (Rw _ _ lz lz (by first|assumption|decide)))<|Yy ?_;refine aF rfl rfl ?_;refine Zz ?_;refine⟨(p.1/2,p.2+1),(hI.next (by simpa using hb1)).1,(hI.next (by simpa using hb1)).2,ai ⟨.refl _,.refl _,.refl _,trivial⟩ ⟨rfl,rfl,trivial⟩⟩
 have hb1_:=(dI hb1)
 refine Yy ?_;refine b9 rfl (.inr rfl) (aA hT rfl rfl rfl rfl (cs:=[_,_]) rfl rfl) (a8 rfl) ?_ bd;exact ao (by rw[Jj (by simpa using hb1) hI.tw])
theorem yj(a m:Int)(ha:L 40 a)(hm:L 40 m) :
  ak Tryz.prog 207 [I a,I m] (Z (kr a m)):=by
 have ia:LB a 40:=⟨ha⟩
 have im:LB m 40:=⟨hm⟩
 have hkb:=Bl a m;have hsg:=wP (x:=a) hkb;have hsg0:=UF a (show(8:Int)≠0 by omega);have hsg1:=UK a (show(0:Int)<8 by omega);refine aq Tryz.func207 rfl rfl rfl rfl<|Yy ?_;refine ae (ab (bu _))<|Zz ?_;refine ah rfl (fun hb1=>?_) (fun hb1=>?_)
 ·have hb1_:=bT hb1;refine Yy ?_;refine ae (ab (jt _)) ?_;refine ae (ab (Be _))<|Zz ?_;refine ah rfl (fun hb2=>?_) (fun hb2=>?_)
  ·refine Yy ?_;exact am (Td (sgn_zero_iff.1 hb1_) (dT0 hb2))
  refine Yy ?_;exact am (RH (sgn_zero_iff.1 hb1_) (dF0 hb2))
 have hb1_:=bF hb1;refine aT<|bR (ι:=Unit) (fun _=>stL [(2,.loc 2 0),(3,.loc 3 0)] [(2,⟨false,1,29,[zn (a),zm (a)]⟩),(3,⟨false,1,29,[zn (m),zm (m)]⟩)]) (fun _=>¬ (cV a=false∧cV m=false)) ?_ ?_
 ·refine Yy ?_;refine ae (ab (Bf _))<|Zz ?_;refine aU (t:=16) rfl (fun hg3=>?_) (fun hg3=>?_)
  ·have hg3_:=(dV hg3)
   refine az hg3 (aN hT rfl rfl rfl rfl (cs:=[_,_]) rfl rfl) ?_;refine az hg3 (ab (Bf _)) ?_;refine az hg3 (cZ rfl) ?_;refine Zz ?_;refine ah rfl (fun hb4=>?_) (fun hb4=>?_)
   ·have hb4_:=(dV hb4)
    refine Yy ?_;exact am (KM (fun e=>hb1_ (sgn_zero_iff.2 e)) hg3_ hb4_)
   have hb4_:=(dI hb4)
   refine aT ?_;refine⟨(),fun x=>(by rw[x.2]at hb4_;cases hb4_),ai ⟨.refl _,.refl _,trivial⟩ ⟨rfl,rfl,trivial⟩⟩
  have hg3_:=(dI hg3)
  refine Zz ?_;refine aJ rfl rfl<|aT ?_;refine⟨(),fun x=>(by rw[x.1]at hg3_;cases hg3_),ai ⟨.refl _,.refl _,trivial⟩ ⟨rfl,rfl,trivial⟩⟩
 intro _ hpar;refine aE hP<|Zz ?_;refine bR (ι:=Unit) (fun _=>stL [(2,.loc 2 0),(3,.loc 3 0),(5,Z (k0K a m))] [(2,⟨false,1,29,[zn (a),zm (a)]⟩),(3,⟨false,1,29,[zn ((m.natAbs:Int)),zm ((m.natAbs:Int))]⟩)]) (fun _=>True) ?_ ?_
 ·refine Yy ?_;refine ah rfl (fun hb5=>?_) (fun hb5=>?_)
  ·refine Yy ?_;refine ah rfl (fun hb6=>?_) (fun hb6=>?_)
   ·refine Yy ?_;refine ae (ab (gS _))<|Zz ?_;refine⟨(),trivial,ai ⟨.refl _,.refl _,am (by unfold k0K;rw[H2 ⟨dT0 hb5,dT0 hb6⟩]),trivial⟩ ⟨rfl,by rw[zx (dT0 hb5)];rfl,trivial⟩⟩
   refine Yy ?_;refine ae (ab (gS _))<|Zz ?_;refine⟨(),trivial,ai ⟨.refl _,.refl _,am (by unfold k0K;rw[G2 (fun x=>dF0 hb6 x.2)]),trivial⟩ ⟨rfl,by rw[zx (dT0 hb5)];rfl,trivial⟩⟩
  refine aT ?_;refine⟨(),trivial,ai ⟨.refl _,.refl _,am (by unfold k0K;rw[G2 (fun x=>dF0 hb5 x.1)]),trivial⟩ ⟨rfl,by rw[JZ (dF0 hb5)];rfl,trivial⟩⟩
 intro _ _;have hn0:(m.natAbs:Int)≠0:=fun e=>hb1_ (sgn_zero_iff.2 (by omega))
 refine Yy ?_;refine ae (ab (CX _ lz hn0))<|Zz ?_;refine bR (ι:=Unit) (fun _=>stL [(2,.loc 2 0),(3,.loc 3 0),(5,Z (k1K a m))] [(2,⟨false,1,29,[zn (a),zm (a)]⟩),(3,⟨false,1,29,[zn ((tw (m.natAbs:Int)).1),zm ((tw (m.natAbs:Int)).1)]⟩)]) (fun _=>True) ?_ ?_
 ·refine Yy ?_;refine ae (cf rfl rfl (by decide) (c:=(tw (m.natAbs:Int)).2%2) (UH (by have:=Nk (x:=(m.natAbs:Int)) lz hn0;omega)))<|Zz ?_;refine ah rfl (fun hb7=>?_) (fun hb7=>?_)
  ·have hb7_:=bT hb7;refine Yy ?_;refine ae (ab (va _ _ (by simp))) ?_;refine ae (nV hT rfl rfl rfl rfl (.head _) rfl rfl (by omega)) ?_;refine ae (aM hT rfl rfl rfl (y7 a)) ?_;refine ae (bw rfl rfl (by first|exact iW0 _ (by omega)|rfl))<|Zz ?_;refine⟨(),trivial,ai ⟨.refl _,.refl _,am (by unfold k1K;rw[H2 hb7_]),trivial⟩ ⟨rfl,rfl,trivial⟩⟩
  have hb7_:=bF hb7;refine aT ?_;refine⟨(),trivial,ai ⟨.refl _,.refl _,am (by unfold k1K;rw[G2 hb7_]),trivial⟩ ⟨rfl,rfl,trivial⟩⟩
 intro _ _;have htw:LB (tw (m.natAbs:Int)).1 40:=Nl lz hn0;have ht0:(tw (m.natAbs:Int)).1≠0:=(iE _ _ (Iv _) hn0).2.1;refine Yy ?_;refine ae (ab (nA _ _ lz lz ht0))<|Yy ?_;refine aC (ι:=(Int×Int×Int)×Nat) (fun i=>stL [(2,.loc 2 0),(3,.loc 3 0),(5,Z (i.1.1))] [(2,⟨false,1,29,[zn (i.1.2.1),zm (i.1.2.1)]⟩),(3,⟨false,1,29,[zn (i.1.2.2),zm (i.1.2.2)]⟩)]) (fun i=>KrI (RK_ a m) i.2 i.1.1 i.1.2.1 i.1.2.2) (fun i=>i.1.2.1.natAbs) ((k1K a m,a%(tw (m.natAbs:Int)).1,(tw (m.natAbs:Int)).1),_) (KrI.start (fun e=>hb1_ (sgn_zero_iff.2 e)) ha hm) (ai ⟨.refl _,.refl _,.refl _,trivial⟩ ⟨rfl,rfl,trivial⟩) ?_;rintro i hI;have h5:=hI.hk;have j1:LB i.1.2.1 40:=⟨hI.la⟩
 have j2:LB i.1.2.2 40:=⟨hI.ln⟩
 refine Yy ?_;refine ae (ab (bu _))<|Zz ?_;refine ah rfl (fun hb8=>?_) (fun hb8=>?_)
 ·have hb8_:=dT0 hb8;have hapos:0<i.1.2.1:=sgn_gt_iff.1 hb8_;have hne:i.1.2.1≠0:=by omega
  have hsg2:=wP (x:=i.1.2.2) h5;have hkk:=KrI.next hI hapos;have hw:LB (tw i.1.2.1).1 40:=Nl hI.la hne;have hw0:(tw i.1.2.1).1≠0:=(iE _ _ (Iv _) hne).2.1;have hk1b:=H5 (a:=i.1.2.1) (n:=i.1.2.2) h5;have hsg0:=UF i.1.2.2 (show(8:Int)≠0 by omega);have hsg1:=UK i.1.2.2 (show(0:Int)<8 by omega);refine Yy ?_;refine ae (ab (CX _ lz hne))<|Zz ?_;refine bR (ι:=Unit) (fun _=>stL [(2,.loc 2 0),(3,.loc 3 0),(5,Z ((k1F i.1.1 i.1.2.1 i.1.2.2)))] [(2,⟨false,1,29,[zn ((tw i.1.2.1).1),zm ((tw i.1.2.1).1)]⟩),(3,⟨false,1,29,[zn (i.1.2.2),zm (i.1.2.2)]⟩)]) (fun _=>True) ?_ ?_
  ·refine Yy ?_;refine ae (cf rfl rfl (by decide) (c:=(tw i.1.2.1).2%2) (UH (by have:=Nk (x:=i.1.2.1) lz hne;omega)))<|Zz ?_;refine ah rfl (fun hb9=>?_) (fun hb9=>?_)
   ·have hb9_:=bT hb9;refine Yy ?_;refine ae (ab (va _ _ (by simp))) ?_;refine ae (nV hT rfl rfl rfl rfl (.head _) rfl rfl (by omega)) ?_;refine ae (aM hT rfl rfl rfl (y7 i.1.2.2)) ?_;refine ae (bw rfl rfl (by first|exact iW0 _ (by omega)|rfl))<|Zz ?_;refine⟨(),trivial,ai ⟨.refl _,.refl _,am (by unfold k1F;rw[H2 hb9_]),trivial⟩ ⟨rfl,rfl,trivial⟩⟩
   have hb9_:=bF hb9;refine aT ?_;refine⟨(),trivial,ai ⟨.refl _,.refl _,am (by unfold k1F;rw[G2 hb9_]),trivial⟩ ⟨rfl,rfl,trivial⟩⟩
  intro _ _;refine Yy ?_;refine ae (ab (va _ _ (by simp)))<|Zz ?_;refine aU (t:=64) rfl (fun hg10=>?_) (fun hg10=>?_)
  ·have hg10_:=bT hg10;refine az hg10 (aN hT rfl rfl rfl rfl (cs:=[_,_]) rfl rfl) ?_;refine az hg10 (ab (va _ _ (by simp))) ?_;refine az hg10 (kz rfl rfl) ?_;refine ae (cQ rfl hg10 (rfl:_=AV.p (.c _)))<|rm ?_;refine ah rfl (fun hb11=>?_) (fun hb11=>?_)
   ·have hb11_:=bT hb11;refine Yy ?_;refine ae (fA rfl (by first|exact iW0 _ (by omega)|rfl))<|Yy ?_;refine ae (ab (nA _ _ lz lz hw0))<|Zz ?_;refine⟨((k2F (k1F i.1.1 i.1.2.1 i.1.2.2) i.1.2.1 i.1.2.2,i.1.2.2%(tw i.1.2.1).1,(tw i.1.2.1).1),i.2-1),(hI.next hapos).1,(hI.next hapos).2,ai ⟨.refl _,.refl _,am (by show _=k2F _ _ _;unfold k2F;rw[H2 ⟨hg10_,hb11_⟩];omega),trivial⟩ ⟨rfl,rfl,trivial⟩⟩
   have hb11_:=bF hb11;refine Yy ?_;refine ae (ab (nA _ _ lz lz hw0))<|Zz ?_;refine⟨((k2F (k1F i.1.1 i.1.2.1 i.1.2.2) i.1.2.1 i.1.2.2,i.1.2.2%(tw i.1.2.1).1,(tw i.1.2.1).1),i.2-1),(hI.next hapos).1,(hI.next hapos).2,ai ⟨.refl _,.refl _,am (by show _=k2F _ _ _;unfold k2F;rw[G2 (fun x=>hb11_ x.2)]),trivial⟩ ⟨rfl,rfl,trivial⟩⟩
  have hg10_:=bF hg10;iterate 3 refine BH hg10 ?_
  refine ae (bA rfl hg10 (rfl:_=AV.p (.c _)))<|rm<|aJ rfl rfl<|aT<|bp hP<|It hT rfl<|It hT rfl<|ae (ab (nA _ _ lz lz hw0))<|Zz ?_;refine⟨((k2F (k1F i.1.1 i.1.2.1 i.1.2.2) i.1.2.1 i.1.2.2,i.1.2.2%(tw i.1.2.1).1,(tw i.1.2.1).1),i.2-1),(hI.next hapos).1,(hI.next hapos).2,ai ⟨.refl _,.refl _,am (by show _=k2F _ _ _;unfold k2F;rw[G2 (fun x=>hg10_ x.1)]),trivial⟩ ⟨rfl,rfl,trivial⟩⟩
 have hb8_:=dF0 hb8;refine Yy ?_;refine ae (ab (Be _))<|Zz ?_;refine ah rfl (fun hb12=>?_) (fun hb12=>?_)
 ·have hb12_:=(dV hb12)
  refine Yy ?_;exact am (by rw[vd (fun e=>hb1_ (sgn_zero_iff.2 e)) hpar,hI.stop (fun h=>hb8_ (sgn_gt_iff.2 h)),G2 (dF0 hb12_)])
 have hb12_:=(dI hb12)
 refine Yy ?_;exact am (by rw[vd (fun e=>hb1_ (sgn_zero_iff.2 e)) hpar,hI.stop (fun h=>hb8_ (sgn_gt_iff.2 h)),H2 (dT0 hb12_)])
end
end Go.Proofs.YtpnomhdachaifaaGreatDoor
namespace Go.Proofs.YtpnomhdachaifaaGreatDoor
section
open Go Go.AM
attribute [local irreducible] RK Eff AWp
theorem JQ(D i0 i1 i2 i3 m0 m1 m2 m3:Nat)(_hD:D<65536)(_g0:i0<65536)(_g1:i1<65536)(_g2:i2<65536)(_g3:i3<65536)(_k0:m0<256)(_k1:m1<256)(_k2:m2<256)(_k3:m3<256) :
  ak Tryz.prog 5 [.p (.a [.v (.int .u16 (D:Int)),.v (.int .u16 (i0:Int)),.v (.int .u16 (i1:Int)),.v (.int .u16 (i2:Int)),.v (.int .u16 (i3:Int)),.v (.int .u8 (m0:Int)),.v (.int .u8 (m1:Int)),.v (.int .u8 (m2:Int)),.v (.int .u8 (m3:Int))])] (Z (szz D)):=by
 obtain⟨s1,s2,s3,s4,s5⟩:=dj D;have d1:=UF (D:Int) (show(2000:Int)≠0 by omega);have d2:=UK (D:Int) (show(0:Int)<2000 by omega);refine aq Tryz.func5 rfl rfl rfl rfl<|Yy ?_;refine ae (cf rfl rfl (by decide) (c:=(D:Int)%2000) (UH (by omega))) ?_;refine ae (aQ hT rfl rfl rfl rfl (iW0 _ (by omega))) ?_;refine aF rfl rfl ?_;refine Yy ?_;refine aC (ι:=Int) (fun n=>stL [(3,Z n)] []) (fun n=>3+(D:Int)%2000<=n∧n<=szz D) (fun n=>(szz D-n).toNat) (3+(D:Int)%2000) ⟨XZ _,s1⟩ (ai ⟨.refl _,trivial⟩ trivial) ?_;rintro n ⟨hn1,hn2⟩;refine Yy ?_;refine ae (cf rfl rfl (by decide) (c:=n%4) (UH (by omega)))<|Zz ?_;refine aU (t:=12) rfl (fun hg1=>?_) (fun hg1=>?_)
 ·have hg1_:=cg hg1;refine Zz ?_;refine az hg1 (cf rfl rfl (by decide) (c:=n%4) (UH (by omega))) ?_;refine Zz ?_;refine ah rfl (fun hb2=>?_) (fun hb2=>?_)
  ·have hb2_:=cg hb2;refine Yy ?_;refine aF rfl rfl ?_;refine Zz ?_;have hne:n≠szz D:=by
    rintro rfl;have:=cg hg1;have:=cg hb2;omega
   refine⟨n+1,⟨by omega,by omega⟩,by omega,ai ⟨.refl _,trivial⟩ trivial⟩
  have hb2_:=ci hb2;refine Yy ?_;exact am (s5 n hn1 hn2 (.inr (ci hb2)))
 have hg1_:=ci hg1;refine Yy ?_;exact am (s5 n hn1 hn2 (.inl (ci hg1)))
end
end Go.Proofs.YtpnomhdachaifaaGreatDoor
